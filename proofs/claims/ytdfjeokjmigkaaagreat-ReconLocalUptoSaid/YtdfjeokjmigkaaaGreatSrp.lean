/-
  Plain: texts put in their places (ay the library's merge puts them).
-/
import Derived.Test.YtdfjeokjmigkaaaGreatRcB
import Derived.Test.YtdfjeokjmigkaaaGreatRcv
import Derived.Test.YtdfjeokjmigkaaaGreatRcD
import Derived.Test.YtdfjeokjmigkaaaGreatTrB
import Derived.Sort.KeysCollected
import Derived.Sort.Walk0
section
set_option linter.unusedSimpArgs false
set_option linter.unusedVariables false
set_option maxRecDepth 20000
namespace Go.Rc
open Go Go.Eng Go.RowKit Go.Tr Go.Dk
def itl (L : LN) : List (List FV) := L.map fun e => [.v (.string e.1), .v (.int .i64 e.2)]
theorem nB (L : LN) : (itl L).length = L.length := by simp [itl]
theorem qA6 (L : LN) : Wid 2 (itl L) = True := eq_true (qAe L fun _ => rfl)
theorem qQz (L : LN) (p : ByteArray) (n : Int) : itl L ++ [[.v (.string p), .v (.int .i64 n)]] = itl (L ++ [(p, n)]) := by simp [itl]
theorem qX1 (L : LN) : nW (itl L) = itl L := by
 unfold nW itl; rw [List.map_map]; apply List.map_congr_left; intro s _; simp [FV.old]
theorem qX2 {L : LN} {i : Nat} {d : List FV} (h : i < L.length) : (itl L).getD i d = [.v (.string L[i].1), .v (.int .i64 L[i].2)] := by unfold itl; rw [nP h]
abbrev wgR (A H S : List Ent) : Row := .bx false 53 [.lst false (bR A), .lst false (bR H), .lst false (bR S), .own 1]
abbrev wgS (A H S : List Ent) (out : LN) : aB := [(0, wgR A H S), (1, .sl true 31 2 (itl out))]
end Go.Rc
namespace Go.Proofs.YtdfjeokjmigkaaaGreat
open Go Go.Eng Go.RowKit Go.Tr Go.Dk Go.Rc
theorem zJf (a b : ByteArray) (ha : a.size ≤ 1048576) (hb : b.size ≤ 1048576) : HFun Tryz.prog 40 [.v (.string a), .v (.string b)] (fun h st => h = .v (.string (qB7 a b))) := by
 refine fA (N := 17) Tryz.func40 rfl Tryz.ntmps40 Tryz.results40 (by simp) ?_
 refine zE ?_; refine zJ (fun K hK => ?_); simp (disch := omega) only [push_cast, ↓Int.cast_ofNat_Int, simprocAttr]; refine hK _ ?_; clear hK K
 unfold qB7
 cases e1 : decide (a = { data := #[] }) with
 | true =>
  rw [if_pos (of_decide_eq_true e1)]
  refine zE ?_; refine zD ?_; refine zE ?_
  refine zJ (fun K hK => ?_); simp (disch := omega) only [push_cast, ↓Int.cast_ofNat_Int, simprocAttr, e1]; refine hK _ ?_; clear hK K
  refine zA ?_
  refine yD rfl ?_
  refine zE ?_; refine zJ (fun K hK => ?_); simp (disch := omega) only [push_cast, ↓Int.cast_ofNat_Int, simprocAttr]; refine hK _ ?_; clear hK K
  refine zA ?_; refine zW ?_; refine zL ?_; refine zK ?_
  simp only [yA, yM, yH, yE, aA, aC, yK, yJ, zS, zM, Nat.reduceEqDiff, reduceIte, reduceCtorEq]
  exact aL rfl
 | false =>
  rw [if_neg (of_decide_eq_false e1)]
  refine zE ?_; refine zD ?_; refine zE ?_
  refine zJ (fun K hK => ?_); simp (disch := omega) only [push_cast, ↓Int.cast_ofNat_Int, simprocAttr, e1]; refine hK _ ?_; clear hK K
  refine zA ?_
  refine yC rfl ?_
  cases e2 : decide (b = { data := #[] }) with
  | true =>
   rw [if_pos (of_decide_eq_true e2)]
   refine zE ?_; refine zJ (fun K hK => ?_); simp (disch := omega) only [push_cast, ↓Int.cast_ofNat_Int, simprocAttr, e2]; refine hK _ ?_; clear hK K
   refine zA ?_
   refine yD rfl ?_
   refine zE ?_; refine zJ (fun K hK => ?_); simp (disch := omega) only [push_cast, ↓Int.cast_ofNat_Int, simprocAttr]; refine hK _ ?_; clear hK K
   refine zA ?_; refine zW ?_; refine zL ?_; refine zK ?_
   simp only [yA, yM, yH, yE, aA, aC, yK, yJ, zS, zM, Nat.reduceEqDiff, reduceIte, reduceCtorEq]
   exact aL rfl
  | false =>
   rw [if_neg (of_decide_eq_false e2)]
   refine zE ?_; refine zJ (fun K hK => ?_); simp (disch := omega) only [push_cast, ↓Int.cast_ofNat_Int, simprocAttr, e2]; refine hK _ ?_; clear hK K
   refine zA ?_
   refine yC rfl ?_
   refine zC ?_; refine zB ?_; refine zE ?_
   have h1 : ({ data := #[47] } : ByteArray).size = 1 := rfl
   have h2 : (a ++ ({ data := #[47] } : ByteArray)).size = a.size + 1 := ByteArray.size_append
   refine zJ (fun K hK => ?_); simp (disch := omega) only [push_cast, ↓Int.cast_ofNat_Int, simprocAttr]
   refine ⟨by omega, by omega, ?_⟩
   refine hK _ ?_; clear hK K
   refine zA ?_; refine zW ?_
   simp only [yA, yM, yH, yE, aA, aC, yK, yJ, zS, zM, Nat.reduceEqDiff, reduceIte, reduceCtorEq]
   exact aL rfl
theorem zHo (s : ByteArray) : HFun Tryz.prog 54 [.v (.string s), .v (.string { data := #[47] })] (fun h st => h = .v (.string (qJ s))) := by
 refine fA (N := 13) Tryz.func54 rfl Tryz.ntmps54 Tryz.results54 (by simp) ?_
 have c := qLi s { data := #[47] }
 refine zE ?_; refine zJ (fun K hK => ?_); simp (disch := omega) only [push_cast, ↓Int.cast_ofNat_Int, simprocAttr]; refine hK _ ?_; clear hK K
 unfold qJ
 cases e : pre s { data := #[47] } with
 | true =>
  rw [e] at c
  have e' : stroke.data.toList.isPrefixOf s.data.toList = true := e
  have hs : 1 ≤ s.size := by
   obtain ⟨r, hr⟩ := List.isPrefixOf_iff_prefix.1 e'
   have := congrArg List.length hr
   rw [Lib.size_eq, ← this]
   simp [stroke]
  rw [if_pos e']
  refine zE ?_; refine zE ?_; refine zJ (fun K hK => ?_); simp (disch := omega) only [push_cast, ↓Int.cast_ofNat_Int, simprocAttr]
  refine bP zPq c (.cons (.v _) (.cons (.v _) .nil)) ?_
  with_reducible refine aE ?_; simp (disch := omega) only [push_cast, ↓Int.cast_ofNat_Int, simprocAttr]
  refine hK _ ?_; clear hK K
  refine zA ?_
  refine yD rfl ?_
  have h1 : ({ data := #[47] } : ByteArray).size = 1 := rfl
  refine zE ?_; refine zJ (fun K hK => ?_); simp (disch := omega) only [push_cast, ↓Int.cast_ofNat_Int, simprocAttr, h1]
  refine ⟨⟨by omega, by omega⟩, ?_⟩
  refine hK _ ?_; clear hK K
  refine zA ?_; refine zW ?_; refine zK ?_
  simp only [yA, yM, yH, yE, aA, aC, yK, yJ, zS, zM, Nat.reduceEqDiff, reduceIte, reduceCtorEq]
  exact aL rfl
 | false =>
  rw [e] at c
  rw [if_neg (fun x => by have e' : stroke.data.toList.isPrefixOf s.data.toList = false := e; rw [e'] at x; cases x)]
  refine zE ?_; refine zE ?_; refine zJ (fun K hK => ?_); simp (disch := omega) only [push_cast, ↓Int.cast_ofNat_Int, simprocAttr]
  refine bP zPq c (.cons (.v _) (.cons (.v _) .nil)) ?_
  with_reducible refine aE ?_; simp (disch := omega) only [push_cast, ↓Int.cast_ofNat_Int, simprocAttr]
  refine hK _ ?_; clear hK K
  refine zA ?_
  refine yC rfl ?_
  refine zC ?_; refine zE ?_
  refine zJ (fun K hK => ?_); simp (disch := omega) only [push_cast, ↓Int.cast_ofNat_Int, simprocAttr]; refine hK _ ?_; clear hK K
  refine zA ?_; refine zW ?_
  simp only [yA, yM, yH, yE, aA, aC, yK, yJ, zS, zM, Nat.reduceEqDiff, reduceIte, reduceCtorEq]
  exact aL rfl
theorem zMd (s : ByteArray) : HFun Tryz.prog 38 [.v (.string s), .v (.string { data := #[47] })] (fun h st => h = .v (.string (qJ s))) := by
 refine fA (N := 8) Tryz.func38 rfl Tryz.ntmps38 Tryz.results38 (by simp) ?_
 refine zE ?_; refine zJ (fun K hK => ?_); simp (disch := omega) only [push_cast, ↓Int.cast_ofNat_Int, simprocAttr]; refine hK _ ?_; clear hK K
 refine zE ?_; refine zJ (fun K hK => ?_); simp (disch := omega) only [push_cast, ↓Int.cast_ofNat_Int, simprocAttr]
 refine bP zTp (zHo s) (.cons (.v _) (.cons (.v _) .nil)) ?_
 with_reducible refine aE ?_; simp (disch := omega) only [push_cast, ↓Int.cast_ofNat_Int, simprocAttr]
 refine hK _ ?_; clear hK K
 refine zA ?_; refine zW ?_
 simp only [yA, yM, yH, yE, aA, aC, yK, yJ, zS, zM, Nat.reduceEqDiff, reduceIte, reduceCtorEq]
 exact aL rfl
set_option maxHeartbeats 1000000 in
theorem qK2 (A H S : List Ent) (out : LN) (p : ByteArray) (n : Int) (hl : out.length ≤ 1000000) : HFunS Tryz.prog 62 [.ptr 0 4 0 0, .v (.string p), .v (.int .i64 n)] (wgS A H S out) (fun h st => h = .tup [] ∧ st = wgS A H S (out ++ [(p, n)])) := by
 refine qH3 (N := 18) Tryz.func62 rfl Tryz.ntmps62 Tryz.results62 (by simp) ?_
 refine zJ (fun K hK => ?_); simp (disch := omega) only [push_cast, ↓Int.cast_ofNat_Int, simprocAttr, nB, qA6, qQz]; (repeat refine ⟨by first | omega | decide | ((repeat' apply And.intro) <;> first | omega | decide), ?_⟩); refine hK _ ?_; clear hK K
 skip
 simp only [aM, bM, yH, yE, yK, yJ, cJ, zS, zM, Nat.reduceEqDiff, reduceIte, reduceCtorEq]
 refine jR [0, 1] (by decide) (by decide) (by simp only [push_cast, simprocAttr]) (by simp only [push_cast, simprocAttr]) (by simp only [push_cast, simprocAttr]; rfl) (by simp only [push_cast, simprocAttr]; rfl) ?_
 exact ⟨rfl, rfl⟩
end Go.Proofs.YtdfjeokjmigkaaaGreat
end
section
set_option linter.unusedSimpArgs false
set_option linter.unusedVariables false
namespace Go.Tr
open Go Go.Sort Go.Proofs
def qUv (out : List ByteArray) (s : ByteArray) : List ByteArray := out.takeWhile (fun x => !blt s x) ++ s :: out.dropWhile (fun x => !blt s x)
def qXm (l : List ByteArray) : List ByteArray := l.foldl qUv []
def sF (t : List ByteArray) : Prop := t.Pairwise fun x y => blt y x = false
theorem qZ7 {a b c : ByteArray} (h1 : blt b a = false) (h2 : blt c b = false) : blt c a = false := by
 cases e : blt c a with
 | false => rfl
 | true =>
  rcases qN6 a b with h | h | h
  ·rw [pD e h] at h2; cases h2
  ·rw [← h, e] at h2; cases h2
  ·rw [h] at h1; cases h1
theorem qUu {s : ByteArray} : ∀ {out : List ByteArray}, sF out → sF (qUv out s) := by
 intro out h
 unfold qUv
 induction out with
 | nil => simp [sF]
 | cons x r ih =>
  obtain ⟨hx, hr⟩ := List.pairwise_cons.1 h
  cases hb : blt s x with
  | false =>
   simp only [List.takeWhile_cons, List.dropWhile_cons, hb, Bool.not_false, if_true, List.cons_append]
   refine List.pairwise_cons.2 ⟨fun y hy => ?_, ih hr⟩
   rcases List.mem_append.1 hy with hy | hy
   ·exact hx y ((List.takeWhile_sublist _).subset hy)
   ·rcases List.mem_cons.1 hy with rfl | hy
    ·exact hb
    ·exact hx y ((List.dropWhile_sublist _).subset hy)
  | true =>
   simp only [List.takeWhile_cons, List.dropWhile_cons, hb, Bool.not_true, Bool.false_eq_true, if_false, List.nil_append]
   refine List.pairwise_cons.2 ⟨fun y hy => ?_, h⟩
   rcases List.mem_cons.1 hy with rfl | hy
   ·exact qE2 hb
   ·exact qZ7 (qE2 hb) (hx y hy)
theorem zAw (out : List ByteArray) (s : ByteArray) : (qUv out s).Perm (s :: out) := by
 unfold qUv
 refine List.perm_middle.trans (List.Perm.cons s ?_)
 rw [List.takeWhile_append_dropWhile]
theorem qFs : ∀ (t out : List ByteArray), sF out → sF (t.foldl qUv out)
 | [], out, h => h
 | e :: t, out, h => by rw [List.foldl_cons]; exact qFs t _ (qUu h)
theorem qJb : ∀ (t out : List ByteArray), (t.foldl qUv out).Perm (out ++ t)
 | [], out => by simp
 | e :: t, out => by
  rw [List.foldl_cons]
  refine (qJb t _).trans ?_
  refine (List.Perm.append_right t (zAw out e)).trans ?_
  exact (List.perm_middle (l₁ := out)).symm
theorem qPr (t : List ByteArray) : sF (qXm t) := qFs t [] .nil
theorem qTd (t : List ByteArray) : (qXm t).Perm t := qJb t []
theorem qPs {l X : List ByteArray} (h : sF X) (hp : X.Perm l) : X = qXm l := by
 refine List.Perm.eq_of_pairwise (le := fun x y : ByteArray => blt y x = false) (fun a b ha hb h1 h2 => ?_) h (qPr l) (hp.trans (qTd l).symm)
 rcases qN6 a b with h | h | h
 ·rw [h] at h2; cases h2
 ·exact h
 ·rw [h] at h1; cases h1
def byL (l : List ByteArray) : List (List UInt8) := l.map fun s => s.data.toList
theorem zG5 (l : List ByteArray) : (byL l).map (fun x => (⟨x.toArray⟩ : ByteArray)) = l := by
 unfold byL
 rw [List.map_map]
 conv => rhs; rw [← List.map_id l]
 exact List.map_congr_left fun s _ => rfl
theorem qQl (l : List ByteArray) : ((byL l).mergeSort fun x y => decide (x ≤ y)).map (fun x => (⟨x.toArray⟩ : ByteArray)) = qXm l := by
 refine qPs ?_ ?_
 ·unfold sF
  rw [List.pairwise_map]
  have h := List.pairwise_mergeSort (le := fun x y : List UInt8 => decide (x ≤ y)) (fun a b c h1 h2 => by
   simp only [decide_eq_true_eq] at *; exact List.le_trans h1 h2) (fun a b => by
   simp only [Bool.or_eq_true, decide_eq_true_eq]; exact List.le_total a b) (byL l)
  refine h.imp fun {a b} hab => ?_
  simp only [decide_eq_true_eq] at hab
  rw [blt, Lib.toList_data, Lib.toList_data, bytesLess_eq, decide_eq_false_iff_not]
  exact List.not_lt.2 hab
 ·have := (List.mergeSort_perm (byL l) fun x y => decide (x ≤ y)).map (fun x => (⟨x.toArray⟩ : ByteArray))
  rwa [zG5] at this
end Go.Tr
end
