/-
  Recon: Items, and what the laws call: walked.
-/
import Derived.Test.YtdfjeokjmigkaaaGreatRcG
set_option linter.unusedSimpArgs false
set_option linter.unusedVariables false
set_option maxRecDepth 20000
namespace Go.Rc
open Go Go.Eng Go.RowKit Go.Tr Go.Dk
theorem zCa (L : LN) : ∀ x ∈ itl L, ∀ f ∈ x, FreshF f := fun x hx f hf => by
 obtain ⟨h, -, rfl⟩ := List.mem_map.1 hx
 simp only [List.mem_cons, List.not_mem_nil, or_false] at hf
 rcases hf with rfl | rfl
 ·exact .v _
 ·exact .v _
def mgF (_ _ _ : Int × ByteArray) : Bool := false
def iC (mg : (Int × ByteArray) → (Int × ByteArray) → (Int × ByteArray) → Bool) (A H S : List Ent) : LN := aL mg A H S 1048577 { data := #[] }
theorem zLc {t : List Ent} (h : okR t = true) : ∀ e ∈ t, e.2.2.size ≤ 4096 := fun e he => by
 obtain ⟨i, hi, rfl⟩ := List.getElem_of_mem he
 have := qJ.1 h i hi
 simp only [qDd, qLm, Bool.and_eq_true] at this
 rw [yY hi] at this
 have hw := this.1.2.1
 unfold lK at hw
 split at hw
 ·exact of_decide_eq_true hw
 ·simp only [Bool.and_eq_true, decide_eq_true_eq] at hw
  omega
theorem mC {t : List Ent} (h : iG t = 0) (hs : ∀ e ∈ t, e.1.size ≤ 1048576) : TB t := ⟨zF3 (gZ h).2, by have := (gZ h).1; omega, hs, zLc (gZ h).2⟩
theorem zEy : TB [] := ⟨List.Pairwise.nil, by simp, (fun e he => by cases he), fun e he => by cases he⟩
abbrev rcA : ByteArray := { data := #[97] }
abbrev zSt : ByteArray := { data := #[104, 105] }
abbrev rcT : List Ent := [(rcA, 2, zSt)]
theorem zN9 : TB rcT := ⟨by simp [rise], by simp, (fun e he => by simp at he; subst he; decide), fun e he => by simp at he; subst he; decide⟩
theorem zFh {mg : (Int × ByteArray) → (Int × ByteArray) → (Int × ByteArray) → Bool} (k : Nat) : aL mg [] rcT [] (k + 1) { data := #[] } = [(rcA, 2)] := by
 rw [aL]
 have h1 : (cG { data := #[] } ([] ++ rcT ++ [])).map (fun e => e.1) = [rcA] := by decide +kernel
 rw [h1, List.flatMap_cons, List.flatMap_nil, List.append_nil]
 have h2 : cP rcT rcA = rcT := by decide +kernel
 have h3 : cP ([] : List Ent) rcA = [] := rfl
 have h4 : eF rcT rcA = (2, zSt) := by decide +kernel
 unfold cK
 rw [h2, h3, h4, if_neg (by simp), if_neg (by simp), if_neg (by simp), if_pos rfl]
theorem qP1 {mg : (Int × ByteArray) → (Int × ByteArray) → (Int × ByteArray) → Bool} : iC mg [] rcT [] = [(rcA, 2)] := zFh 1048576
end Go.Rc
namespace Go.Proofs.YtdfjeokjmigkaaaGreat
open Go Go.Eng Go.RowKit Go.Tr Go.Dk Go.Rc
theorem zEi {mg : (Int × ByteArray) → (Int × ByteArray) → (Int × ByteArray) → Bool} {A H S : List Ent} (hA : TB A) (hH : TB H) (hS : TB S) (hm : (H = S ∨ H = A ∨ S = A) ∨ zEm mg) :
  ∀ (k : Nat) (top : ByteArray), top.size ≤ 1048576 → (∀ e ∈ A ++ H ++ S, e.1.size < top.size + k) → ∀ out : LN, out.length + (aL mg A H S k top).length ≤ 1000000 →
   HFunS Tryz.prog 28 [.ptr 0 4 0 0, .v (.string top)] (wgS A H S out) (fun h st => h = .tup [] ∧ st = wgS A H S (out ++ aL mg A H S k top)) := by
 have sz : ∀ e ∈ A ++ H ++ S, e.1.size ≤ 1048576 := fun e he => by
  rcases List.mem_append.1 he with he | he
  ·rcases List.mem_append.1 he with he | he
   ·exact hA.sz e he
   ·exact hH.sz e he
  ·exact hS.sz e he
 have nm : ∀ top : ByteArray, ∀ p ∈ (cG top (A ++ H ++ S)).map (fun e => e.1), top.size < p.size ∧ p.size ≤ 1048576 := fun top p hp => by
  obtain ⟨q, hq, rfl⟩ := List.mem_map.1 hp
  rcases dG (A ++ H ++ S) [] hq with h0 | ⟨e, he, hn⟩
  ·cases h0
  ·have h1 := fF hn
   have h2 := sz e he
   exact ⟨h1.1, by omega⟩
 intro k
 induction k with
 | zero =>
  intro top htop hk out hout
  have hn : cG top (A ++ H ++ S) = [] := qVx fun e he => by have := hk e he; omega
  have hb : aL mg A H S 1 top = aL mg A H S 0 top := by rw [aL, aL, hn]; rfl
  rw [← hb] at hout ⊢
  exact qKz hA hH hS 0 top htop (fun p hp => by rw [hn] at hp; cases hp) out hout
 | succ k ih =>
  intro top htop hk out hout
  refine qKz hA hH hS k top htop (fun p hp o ho => ?_) out hout
  have h1 := nm top p hp
  exact qUe hA hH hS hm k p h1.2 (fun o2 h2 => ih p h1.2 (fun e he => by have := hk e he; omega) o2 h2) o ho
set_option maxHeartbeats 1000000 in
theorem qB6 {mg : (Int × ByteArray) → (Int × ByteArray) → (Int × ByteArray) → Bool} {A H S : List Ent} (hA : TB A) (hH : TB H) (hS : TB S) (hm : (H = S ∨ H = A ∨ S = A) ∨ zEm mg) :
  HFun Tryz.prog 12 [.lst false (aS A), .lst false (aS H), .lst false (aS S)] (fun h st => h = .own 0 ∧ st = [(0, .sl true 31 2 (itl (iC mg A H S)))]) := by
 refine eM (N := 15) Tryz.func12 rfl Tryz.ntmps12 Tryz.results12 (by simp) ?_
 have hb : (iC mg A H S).length ≤ 3000 := by
  have h1 := tU (mg := mg) A H S 1048577 { data := #[] }
  have := hA.len
  have := hH.len
  have := hS.len
  rw [iC]; omega
 have hz : ∀ e ∈ A ++ H ++ S, e.1.size < ({ data := #[] } : ByteArray).size + 1048577 := fun e he => by
  have h0 : ({ data := #[] } : ByteArray).size = 0 := rfl
  have : e.1.size ≤ 1048576 := by
   rcases List.mem_append.1 he with he | he
   ·rcases List.mem_append.1 he with he | he
    ·exact hA.sz e he
    ·exact hH.sz e he
   ·exact hS.sz e he
  omega
 have cb := zEi (mg := mg) hA hH hS hm 1048577 { data := #[] } (by decide) hz [] (by rw [← iC, List.length_nil]; omega)
 rw [← iC, List.nil_append] at cb
 refine zE ?_; refine zJ (fun K hK => ?_); simp (disch := omega) only [push_cast, ↓Int.cast_ofNat_Int, simprocAttr]; refine hK _ ?_; clear hK K
 refine zE ?_; refine zJ (fun K hK => ?_); simp (disch := omega) only [push_cast, ↓Int.cast_ofNat_Int, simprocAttr]; refine hK _ ?_; clear hK K
 refine zAc 56 3 9000 31 2 (by decide) rfl rfl (by simp only [push_cast, List.set_cons_succ, List.set_cons_zero, Nat.reduceEqDiff, reduceIte, Nat.reduceBEq, cond_false, cond_true]; exact rfl) ?_
 refine zE ?_; refine zJ (fun K hK => ?_); simp (disch := omega) only [push_cast, ↓Int.cast_ofNat_Int, simprocAttr]
 refine qAz 96 [56, 9000] zRv (cb) rfl (by decide) (by decide) (by simp only [push_cast, simprocAttr]; try rfl) (by simp only [push_cast, simprocAttr]; try rfl) ?_
 rintro _ _ ⟨rfl, rfl⟩
 refine aC ?_; simp (disch := omega) only [push_cast, ↓Int.cast_ofNat_Int, simprocAttr]
 refine hK _ ?_; clear hK K
 refine zE ?_; refine zJ (fun K hK => ?_); simp (disch := omega) only [push_cast, ↓Int.cast_ofNat_Int, simprocAttr]; refine hK _ ?_; clear hK K
 refine zA ?_; refine zW ?_
 simp only [yA, yM, yH, yE, aA, aD, yK, yJ, zS, zM, Nat.reduceEqDiff, reduceIte, reduceCtorEq]
 exact xQ rfl (zCa _) ⟨rfl, rfl⟩
theorem zUj : Tryz.prog.stoodInHeld 31 = false := by kernel_rfl
theorem zJj (p q : ByteArray) (x y : Int) : EqR Tryz.prog 31 [.string p, .int .i64 x].toArray [.string q, .int .i64 y].toArray (decide (p = q ∧ x = y)) := by
 refine ⟨by kernel_rfl, fun w => ?_⟩
 unfold Op.equal Op.maxDepth Op.equalIn
 simp [run_underlying Tryz.underlying31, zUj, i3, i9, part, bD kt3, bD kt9, qZz, qTi, Sem.run_bind]
 have hr : List.range' 0 2 = [0, 1] := rfl
 try rw [hr]
 try simp [bD kt3, bD kt9, qZz, qTi, Sem.run_bind]
 by_cases h1 : p = q <;> by_cases h2 : x = y <;> simp [h1, h2]
theorem qNp (a b c : List Ent) (ha : a.length ≤ 1048576) (hb : b.length ≤ 1048576) (hc : c.length ≤ 1048576) (sa : ∀ e ∈ a, e.1.size ≤ 1048576) (sb : ∀ e ∈ b, e.1.size ≤ 1048576) (sc : ∀ e ∈ c, e.1.size ≤ 1048576) :
  HFun Tryz.prog 10 [.lst false (aS a), .lst false (aS b), .lst false (aS c)] (fun h st => h = .v (.bool (decide (iG a = 0) && (decide (iG b = 0) && decide (iG c = 0))))) := by
 refine eM (N := 20) Tryz.func10 rfl Tryz.ntmps10 Tryz.results10 (by simp) ?_
 have ca := qJi a (by omega) sa
 have cb := qJi b (by omega) sb
 have cc := qJi c (by omega) sc
 refine zE ?_; refine zJ (fun K hK => ?_); simp (disch := omega) only [push_cast, ↓Int.cast_ofNat_Int, simprocAttr]; refine hK _ ?_; clear hK K
 cases d1 : decide (iG a = 0) with
 | false =>
  refine zE ?_; refine zJ (fun K hK => ?_); simp (disch := omega) only [push_cast, ↓Int.cast_ofNat_Int, simprocAttr]
  refine aY zD9 ca (.cons (aK (yT _)) .nil) ?_
  with_reducible refine aC ?_; simp (disch := omega) only [push_cast, ↓Int.cast_ofNat_Int, simprocAttr, d1]
  refine hK _ ?_; clear hK K
  refine zA ?_; refine zW ?_
  simp only [yA, yM, yH, yE, aA, aD, yK, yJ, zS, zM, Nat.reduceEqDiff, reduceIte, reduceCtorEq]
  exact aM rfl
 | true =>
 cases d2 : decide (iG b = 0) with
 | false =>
  refine zE ?_; refine zJ (fun K hK => ?_); simp (disch := omega) only [push_cast, ↓Int.cast_ofNat_Int, simprocAttr]
  refine aY zD9 ca (.cons (aK (yT _)) .nil) ?_
  with_reducible refine aC ?_; simp (disch := omega) only [push_cast, ↓Int.cast_ofNat_Int, simprocAttr, d1]
  refine aY zD9 cb (.cons (aK (yT _)) .nil) ?_
  with_reducible refine aC ?_; simp (disch := omega) only [push_cast, ↓Int.cast_ofNat_Int, simprocAttr, d1, d2]
  refine hK _ ?_; clear hK K
  refine zA ?_; refine zW ?_
  simp only [yA, yM, yH, yE, aA, aD, yK, yJ, zS, zM, Nat.reduceEqDiff, reduceIte, reduceCtorEq]
  exact aM rfl
 | true =>
  refine zE ?_; refine zJ (fun K hK => ?_); simp (disch := omega) only [push_cast, ↓Int.cast_ofNat_Int, simprocAttr]
  refine aY zD9 ca (.cons (aK (yT _)) .nil) ?_
  with_reducible refine aC ?_; simp (disch := omega) only [push_cast, ↓Int.cast_ofNat_Int, simprocAttr, d1]
  refine aY zD9 cb (.cons (aK (yT _)) .nil) ?_
  with_reducible refine aC ?_; simp (disch := omega) only [push_cast, ↓Int.cast_ofNat_Int, simprocAttr, d1, d2]
  refine aY zD9 cc (.cons (aK (yT _)) .nil) ?_
  with_reducible refine aC ?_; simp (disch := omega) only [push_cast, ↓Int.cast_ofNat_Int, simprocAttr, d1, d2]
  refine hK _ ?_; clear hK K
  refine zA ?_; refine zW ?_
  simp only [yA, yM, yH, yE, aA, aD, yK, yJ, zS, zM, Nat.reduceEqDiff, reduceIte, reduceCtorEq]
  exact aM rfl
set_option maxHeartbeats 1000000 in
theorem iZ : HFun Tryz.prog 9 [] (fun h st => h = .v (.bool true)) := by
 refine eM (N := 18) Tryz.func9 rfl Tryz.ntmps9 Tryz.results9 (by simp) ?_
 have ci := qB6 (mg := mgF) zEy zN9 zEy (.inl (.inr (.inr rfl)))
 rw [qP1] at ci
 refine zE ?_; refine zJ (fun K hK => ?_); simp (disch := omega) only [push_cast, ↓Int.cast_ofNat_Int, simprocAttr]; refine hK _ ?_; clear hK K
 refine zE ?_; refine zJ (fun K hK => ?_); simp (disch := omega) only [push_cast, ↓Int.cast_ofNat_Int, simprocAttr]; (repeat refine ⟨by first | omega | decide | ((repeat' apply And.intro) <;> first | omega | decide), ?_⟩); refine hK _ ?_; clear hK K
 have he : [[FV.v (.string { data := #[97] }), .v (.int .i64 2), .v (.string { data := #[104, 105] })]] = aS rcT := rfl
 rw [he]
 have hg : ∀ d, (itl [(rcA, 2)]).getD 0 d = [.v (.string rcA), .v (.int .i64 2)] := fun d => rfl
 have hln : (itl [(rcA, 2)]).length = 1 := rfl
 refine eJ 40 rfl (by simp only [gD, dZ, cX, dR, cT, jD, dW, dX, cW, dV, dU, gF, dY, dT, fY, fZ, gC, Nat.reduceEqDiff, reduceIte, List.map_cons, List.map_nil, List.map_append]; exact rfl) ?_
 refine zE ?_; refine zJ (fun K hK => ?_); simp (disch := omega) only [push_cast, ↓Int.cast_ofNat_Int, simprocAttr]
 refine hat 56 zEb ci (.cons .nil (.cons (aK (yT _)) (.cons .nil .nil))) ?_
 rintro _ _ ⟨rfl, rfl⟩
 with_reducible refine aC ?_; simp (disch := omega) only [push_cast, ↓Int.cast_ofNat_Int, simprocAttr]
 refine hK _ ?_; clear hK K
 refine zE ?_; refine zJ (fun K hK => ?_); simp (disch := omega) only [push_cast, ↓Int.cast_ofNat_Int, simprocAttr, hg, hln, jT]
 refine ⟨_, zJj _ _ _ _, ?_⟩
 with_reducible refine aC ?_; simp (disch := omega) only [push_cast, ↓Int.cast_ofNat_Int, simprocAttr]
 refine hK _ ?_; clear hK K
 refine zA ?_; refine zW ?_
 simp only [yA, yM, yH, yE, aA, aD, yK, yJ, zS, zM, Nat.reduceEqDiff, reduceIte, reduceCtorEq]
 exact aM rfl
end Go.Proofs.YtdfjeokjmigkaaaGreat
