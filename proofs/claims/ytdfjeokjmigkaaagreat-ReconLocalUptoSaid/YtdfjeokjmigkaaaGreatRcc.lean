/-
  A call that hands a variable of plain values in by pointer.
-/
import Derived.Test.YtdfjeokjmigkaaaGreatTrD
import Derived.Laws.RangeAny
import Derived.Test.YtdfjeokjmigkaaaGreatDk
import Derived.Test.YtdfjeokjmigkaaaGreatGc
section
set_option linter.unusedSimpArgs false
set_option linter.unusedVariables false
set_option maxRecDepth 20000
namespace Go.Tr
open Go Go.Eng Go.RowKit Go.Lib
theorem zBl (s : ByteArray) : (parts s).length = s.data.toList.count 47 + 1 := by
 rw [← qNu, splitB_all stroke (by decide) 0 _ s rfl]
 exact congrArg (· + 1) (count_one 47 _)
theorem qPp (s : ByteArray) : (parts s).length ≤ s.size + 1 := by
 rw [zBl]
 have := List.count_le_length (a := (47 : UInt8)) (l := s.data.toList)
 rw [Lib.size_eq]; omega
end Go.Tr
namespace Go.Proofs.YtdfjeokjmigkaaaGreat
open Go Go.Eng Go.RowKit Go.Tr
theorem qSj (s : ByteArray) : HFun Tryz.prog 90 [.v (.string s), .v (.int .u8 47)] (fun h st => h = .v (.int .i64 (Lib.indexByte s.data.toList 47))) := by
 refine (vD fun w vs R => ?_).mono fun h st q => q.1
 obtain ⟨r1, r2⟩ := R
 match vs, r1 with
 | [a, b], _ =>
 have ha := aX (r2 0 (by simp) (by simp))
 have hb := aX (r2 1 (by simp) (by simp))
 simp only [List.getElem_cons_zero, List.getElem_cons_succ] at ha hb
 subst ha; subst hb
 refine (Tryz.stringslite_IndexByte s 47 w).mono ?_
 rintro e w' ⟨rfl, rfl⟩
 exact oY ⟨rfl, Below.refl _ _⟩
theorem qAm : (({ data := #[47] } : ByteArray).size : Int) = 1 := rfl
theorem zAs : fU { data := #[47] } 0 = 47 := rfl
set_option maxHeartbeats 4000000 in
theorem zE5 (s : ByteArray) : HFun Tryz.prog 74 [.v (.string s), .v (.string { data := #[47] })] (fun h st => h = .v (.int .i64 (Lib.indexByte s.data.toList 47))) := by
 refine eM (N := 143) Tryz.func74 rfl Tryz.ntmps74 Tryz.results74 (by simp) ?_
 refine zE ?_; refine zJ (fun K hK => ?_); simp (disch := omega) only [push_cast, ↓Int.cast_ofNat_Int, Nat.reduceBEq, Nat.reduceAdd, Nat.reduceLT, Nat.reduceEqDiff, reduceIte, reduceCtorEq, Nat.reduceLeDiff, Nat.reduceSub, List.reduceReplicate, Nat.reduceMul, Int.reduceToNat, Nat.reducePow]; refine hK _ ?_; clear hK K
 refine zE ?_; refine zJ (fun K hK => ?_); simp (disch := omega) only [push_cast, ↓Int.cast_ofNat_Int, Nat.reduceBEq, Nat.reduceAdd, Nat.reduceLT, Nat.reduceEqDiff, reduceIte, reduceCtorEq, Nat.reduceLeDiff, Nat.reduceSub, List.reduceReplicate, Nat.reduceMul, Int.reduceToNat, Nat.reducePow, qAm]; refine hK _ ?_; clear hK K
 refine zE ?_; refine zD ?_; refine zE ?_
 by_cases h0 : ({ data := #[47] } : ByteArray) = s
 ·have hd : decide (({ data := #[47] } : ByteArray) = s) = true := decide_eq_true h0
  refine zJ (fun K hK => ?_); simp (disch := omega) only [push_cast, ↓Int.cast_ofNat_Int, Nat.reduceBEq, Nat.reduceAdd, Nat.reduceLT, Nat.reduceEqDiff, reduceIte, reduceCtorEq, Nat.reduceLeDiff, Nat.reduceSub, List.reduceReplicate, Nat.reduceMul, Int.reduceToNat, Nat.reducePow, hd]; refine hK _ ?_; clear hK K
  refine yD rfl ?_
  refine zE ?_; refine zJ (fun K hK => ?_); simp (disch := omega) only [push_cast, ↓Int.cast_ofNat_Int, Nat.reduceBEq, Nat.reduceAdd, Nat.reduceLT, Nat.reduceEqDiff, reduceIte, reduceCtorEq, Nat.reduceLeDiff, Nat.reduceSub, List.reduceReplicate, Nat.reduceMul, Int.reduceToNat, Nat.reducePow]; refine hK _ ?_; clear hK K
  refine zA ?_; refine zW ?_; refine zL ?_; refine zK ?_
  simp only [yA, yM, yH, yE, aA, aD, yK, yJ, zS, zM, Nat.reduceEqDiff, reduceIte, reduceCtorEq]
  refine aM ?_
  rw [← h0]; rfl
 ·have hd : decide (({ data := #[47] } : ByteArray) = s) = false := decide_eq_false h0
  refine zJ (fun K hK => ?_); simp (disch := omega) only [push_cast, ↓Int.cast_ofNat_Int, Nat.reduceBEq, Nat.reduceAdd, Nat.reduceLT, Nat.reduceEqDiff, reduceIte, reduceCtorEq, Nat.reduceLeDiff, Nat.reduceSub, List.reduceReplicate, Nat.reduceMul, Int.reduceToNat, Nat.reducePow, hd]; refine hK _ ?_; clear hK K
  refine yC rfl ?_
  refine zE ?_
  refine zJ (fun K hK => ?_); simp (disch := omega) only [push_cast, ↓Int.cast_ofNat_Int, Nat.reduceBEq, Nat.reduceAdd, Nat.reduceLT, Nat.reduceEqDiff, reduceIte, reduceCtorEq, Nat.reduceLeDiff, Nat.reduceSub, List.reduceReplicate, Nat.reduceMul, Int.reduceToNat, Nat.reducePow]; refine hK _ ?_; clear hK K
  refine zA ?_
  refine yD rfl ?_
  refine zE ?_; refine zJ (fun K hK => ?_); simp (disch := omega) only [push_cast, ↓Int.cast_ofNat_Int, Nat.reduceBEq, Nat.reduceAdd, Nat.reduceLT, Nat.reduceEqDiff, reduceIte, reduceCtorEq, Nat.reduceLeDiff, Nat.reduceSub, List.reduceReplicate, Nat.reduceMul, Int.reduceToNat, Nat.reducePow, qAm, zAs]
  refine ⟨by first | omega | decide | ((repeat' apply And.intro) <;> first | omega | decide), ?_⟩
  refine aY zU8 (qSj s) (.cons (.v _) (.cons (.v _) .nil)) ?_
  with_reducible refine aC ?_; simp (disch := omega) only [push_cast, ↓Int.cast_ofNat_Int, Nat.reduceBEq, Nat.reduceAdd, Nat.reduceLT, Nat.reduceEqDiff, reduceIte, reduceCtorEq, Nat.reduceLeDiff, Nat.reduceSub, List.reduceReplicate, Nat.reduceMul, Int.reduceToNat, Nat.reducePow]
  refine hK _ ?_; clear hK K
  refine zA ?_; refine zW ?_; refine zL ?_; refine zK ?_
  simp only [yA, yM, yH, yE, aA, aD, yK, yJ, zS, zM, Nat.reduceEqDiff, reduceIte, reduceCtorEq]
  exact aM rfl
end Go.Proofs.YtdfjeokjmigkaaaGreat
end
section
set_option linter.unusedSimpArgs false
set_option linter.unusedVariables false
set_option maxRecDepth 20000
namespace Go.Tr
open Go
theorem zLd (c : UInt8) : okC c = (decide (97 ≤ c.toNat ∧ c.toNat ≤ 122) || decide (48 ≤ c.toNat ∧ c.toNat ≤ 57) || decide (c.toNat = 95)) := by
 have e : ∀ a b : UInt8, decide (a ≤ b) = decide (a.toNat ≤ b.toNat) := fun a b => rfl
 have e2 : decide (c = 95) = decide (c.toNat = 95) := by
  rw [decide_eq_decide]
  exact ⟨fun h => by rw [h]; rfl, fun h => UInt8.toNat_inj.1 h⟩
 rw [okC, e2, Bool.decide_and, Bool.decide_and, e, e, e, e]
 rfl
def qLt (r : Int) : Bool := ((decide (r < 97) || decide (122 < r)) && (decide (r < 48) || decide (57 < r))) && !decide (r = 95)
theorem zNf (c : UInt8) : qLt (c.toNat : Int) = !okC c := by
 rw [zLd, qLt]
 rw [Bool.eq_iff_iff]
 simp
 omega
end Go.Tr
namespace Go.Proofs.YtdfjeokjmigkaaaGreat
open Go Go.Eng Go.RowKit Go.Tr
attribute [local push_cast] qV1 qPv qQb qE0 qCj qHi qHh qEz qDt qDu qE6 qCs qCy yZ xM wY xE xC xB xL qB7 wX oG xK xD xF xG xH xJ xA wZ vV vU vP vQ vR vS vT sG rZ sK sJ sF sE sD sC sL qCo qCn wE wF wD pK pJ pH lD lE rY qBz qBy oE pG qBn wG qBo qBm qBl qBp wJ qG4 qBr qG3 qPn qZi qG6 qD3 wK qD4 qD2 qD1 qDz qPl wL qG7 qG5 qDy qD6 qPm qD5 qBq qD0 qHl qE2 qE4 qCk qE3 qQe qHm qQd qHj qE1 qHk qQc qBt wM qBx qBw xX xW qPr qG8 qD8 qG9 qEh qCd qCc qHf qB9 qCb qEi qHg xP qCe qEj xN qCa qNi qG0 qNg qGz qDs
attribute [local push_cast] List.take_succ_cons List.take_zero List.drop_succ_cons List.drop_zero true_and and_true Option.isSome_some List.getElem?_cons_zero List.getElem?_cons_succ List.length_cons List.length_nil cond_true cond_false Int.toNat_natCast Nat.mul_one Nat.add_zero Nat.zero_add Addr.add_lit bne_self_eq_false beq_self_eq_true Bool.not_true Bool.not_false List.size_toArray Array.getD_eq_getD_getElem? List.getElem?_toArray Option.getD_some decide_true decide_false eq_self Bool.true_beq Bool.false_beq
end Go.Proofs.YtdfjeokjmigkaaaGreat
end
section
set_option linter.unusedSimpArgs false
set_option linter.unusedVariables false
set_option maxRecDepth 20000
namespace Go.Tr
open Go
end Go.Tr
namespace Go.Proofs.YtdfjeokjmigkaaaGreat
open Go Go.Eng Go.RowKit Go.Tr
theorem zRz (s : ByteArray) (i : Nat) (h : i < s.size) : decide (fU s i = 47) = decide (s.data.toList[i]? = some 47) := by
 have h' : i < s.data.size := h
 rw [Array.getElem?_toList, Array.getElem?_eq_getElem h', decide_eq_decide]
 unfold fU
 rw [Array.getD_eq_getD_getElem?, Array.getElem?_eq_getElem h']
 simp only [Option.getD_some, Option.some.injEq]
 constructor
 ·intro h; apply UInt8.toNat_inj.1; have e : (47 : UInt8).toNat = 47 := rfl; omega
 ·intro h; rw [h]; rfl
def pre (s p : ByteArray) : Bool := p.data.toList.isPrefixOf s.data.toList
theorem qZh (s p : ByteArray) (h : p.size ≤ s.size) : decide (s.extract 0 p.size = p) = pre s p := by
 rw [pre, Bool.eq_iff_iff, decide_eq_true_iff, List.isPrefixOf_iff_prefix]
 have e : (s.extract 0 p.size).data.toList = s.data.toList.take p.data.toList.length := by rw [Lib.extract_from_zero, ← Lib.size_eq]
 rw [List.prefix_iff_eq_take]
 constructor
 ·intro h; rw [← e, h]
 ·intro h
  apply toList_inj
  rw [Lib.toList_data, Lib.toList_data, e]
  exact h.symm
theorem qMh {s p : ByteArray} (h : ¬ p.size ≤ s.size) : pre s p = false := by
 rw [pre, Bool.eq_false_iff]
 intro hp
 have := (List.isPrefixOf_iff_prefix.1 hp).length_le
 rw [← Lib.size_eq, ← Lib.size_eq] at this
 exact h this
set_option maxHeartbeats 1000000 in
theorem qMu (s p : ByteArray) : HFun Tryz.prog 73 [.v (.string s), .v (.string p)] (fun h st => h = .v (.bool (pre s p))) := by
 refine eM (N := 18) Tryz.func73 rfl Tryz.ntmps73 Tryz.results73 (by simp) ?_
 refine zE ?_; refine zJ (fun K hK => ?_); simp (disch := omega) only [push_cast, ↓Int.cast_ofNat_Int, simprocAttr]; refine hK _ ?_; clear hK K
 by_cases h : p.size ≤ s.size
 ·have e := qZh s p h
  refine zE ?_; refine zJ (fun K hK => ?_); simp (disch := omega) only [push_cast, ↓Int.cast_ofNat_Int, simprocAttr, e]
  refine ⟨by first | omega | decide | ((repeat' apply And.intro) <;> first | omega | decide), ?_⟩
  refine hK _ ?_; clear hK K
  refine zA ?_; refine zW ?_
  simp only [yA, yM, yH, yE, aA, aD, yK, yJ, zS, zM, Nat.reduceEqDiff, reduceIte, reduceCtorEq]
  exact aM rfl
 ·rw [qMh h]
  refine zE ?_; refine zJ (fun K hK => ?_); simp (disch := omega) only [push_cast, ↓Int.cast_ofNat_Int, simprocAttr]; refine hK _ ?_; clear hK K
  refine zA ?_; refine zW ?_
  simp only [yA, yM, yH, yE, aA, aD, yK, yJ, zS, zM, Nat.reduceEqDiff, reduceIte, reduceCtorEq]
  exact aM rfl
set_option maxHeartbeats 1000000 in
theorem zHq (s p : ByteArray) : HFun Tryz.prog 53 [.v (.string s), .v (.string p)] (fun h st => h = .v (.bool (pre s p))) := by
 refine eM (N := 8) Tryz.func53 rfl Tryz.ntmps53 Tryz.results53 (by simp) ?_
 refine zE ?_; refine zJ (fun K hK => ?_); simp (disch := omega) only [push_cast, ↓Int.cast_ofNat_Int, simprocAttr]; refine hK _ ?_; clear hK K
 refine zE ?_; refine zJ (fun K hK => ?_); simp (disch := omega) only [push_cast, ↓Int.cast_ofNat_Int, simprocAttr]
 refine aY zRm (qMu s p) (.cons (.v _) (.cons (.v _) .nil)) ?_
 with_reducible refine aC ?_; simp (disch := omega) only [push_cast, ↓Int.cast_ofNat_Int, simprocAttr]
 refine hK _ ?_; clear hK K
 refine zA ?_; refine zW ?_
 simp only [yA, yM, yH, yE, aA, aD, yK, yJ, zS, zM, Nat.reduceEqDiff, reduceIte, reduceCtorEq]
 exact aM rfl
theorem qQw (p t : ByteArray) : bR p t = (decide (t = { data := #[] }) || decide (p = t) || pre p (t ++ { data := #[47] })) := rfl
set_option maxHeartbeats 1000000 in
theorem qY6 (p t : ByteArray) (hp : p.size ≤ 1048576) (ht : t.size ≤ 1048576) : HFun Tryz.prog 37 [.v (.string p), .v (.string t)] (fun h st => h = .v (.bool (bR p t))) := by
 refine eM (N := 18) Tryz.func37 rfl Tryz.ntmps37 Tryz.results37 (by simp) ?_
 rw [qQw]
 have c := zHq p (t ++ { data := #[47] })
 refine zE ?_; refine zJ (fun K hK => ?_); simp (disch := omega) only [push_cast, ↓Int.cast_ofNat_Int, simprocAttr]; refine hK _ ?_; clear hK K
 cases e1 : decide (t = { data := #[] }) with
 | true =>
  refine zE ?_; refine zJ (fun K hK => ?_); simp (disch := omega) only [push_cast, ↓Int.cast_ofNat_Int, simprocAttr, e1]; refine hK _ ?_; clear hK K
  refine zA ?_; refine zW ?_
  simp only [yA, yM, yH, yE, aA, aD, yK, yJ, zS, zM, Nat.reduceEqDiff, reduceIte, reduceCtorEq]
  exact aM rfl
 | false =>
  cases e2 : decide (p = t) with
  | true =>
   refine zE ?_; refine zJ (fun K hK => ?_); simp (disch := omega) only [push_cast, ↓Int.cast_ofNat_Int, simprocAttr, e1, e2]; refine hK _ ?_; clear hK K
   refine zA ?_; refine zW ?_
   simp only [yA, yM, yH, yE, aA, aD, yK, yJ, zS, zM, Nat.reduceEqDiff, reduceIte, reduceCtorEq]
   exact aM rfl
  | false =>
   have hsz : t.size + ({ data := #[47] } : ByteArray).size ≤ 9223372036854775807 := by have : ({ data := #[47] } : ByteArray).size = 1 := rfl; omega
   refine zE ?_; refine zJ (fun K hK => ?_); simp (disch := omega) only [push_cast, ↓Int.cast_ofNat_Int, simprocAttr, e1, e2]
   refine ⟨hsz, ?_⟩
   refine aY zVj c (.cons (.v _) (.cons (.v _) .nil)) ?_
   with_reducible refine aC ?_; simp (disch := omega) only [push_cast, ↓Int.cast_ofNat_Int, simprocAttr]
   refine hK _ ?_; clear hK K
   refine zA ?_; refine zW ?_
   simp only [yA, yM, yH, yE, aA, aD, yK, yJ, zS, zM, Nat.reduceEqDiff, reduceIte, reduceCtorEq]
   exact aM rfl
def okN (b : Bool) : Int := bif b then 0 else 10
end Go.Proofs.YtdfjeokjmigkaaaGreat
end
section
set_option linter.unusedSimpArgs false
set_option linter.unusedVariables false
set_option maxRecDepth 20000
namespace Go.Proofs.YtdfjeokjmigkaaaGreat
open Go Go.Eng Go.RowKit Go.Tr Go.Dk
abbrev kS : TypeId := 9
theorem mtL : MapTy Tryz.prog 64 9 3 (.int .i64 0) := ⟨by kernel_rfl, by kernel_rfl, fun w => by kernel_rfl⟩
end Go.Proofs.YtdfjeokjmigkaaaGreat
end
section
set_option linter.unusedSimpArgs false
set_option linter.unusedVariables false
namespace Go.Eng
open Go Go.RowKit Go.Maps
structure HeadM (P : Program) (N : Nat) (ops : List Oper) (E0 : aH) (st : aB) (g : MS) (hs : Nat → HV) (i : Nat) (o : Oper) : Prop where
 lt : jL N o.dst
 head : ∃ T : aH, FrOk ops E0 hs i T ∧ (∀ t h, hlk T t = some h → t ∈ o.looksAt ops.toArray) ∧ ∀ (c : Ctx) (l : Env) (w : World) (ρ : Nat → Value) (xs : Nat → List Value), Good c ⟨T, st⟩ (lk l) w ρ xs → MsOk P c w g →
  ∃ b, gd l (bQ ops) o.guard (· = b) ∧ (b = true → Yields P (execOp (evD l) o) w fun u w' => RepH w' (c.A ρ st) c.n0 ρ u (hs i) ∧ Below w.heap.size w w') ∧ (b = false → hs i = .v undef)
theorem HeadM.congr {P : Program} {N : Nat} {ops : List Oper} {E0 : aH} {st : aB} {g : MS} {hs hs' : Nat → HV} {i : Nat} {o : Oper} (h : HeadM P N ops E0 st g hs i o) (he : ∀ j, j ≤ i → hs' j = hs j) : HeadM P N ops E0 st g hs' i o := by
 obtain ⟨T, TF, TS, run⟩ := h.head
 refine ⟨h.lt, T, TF.congr fun j hj => he j (by omega), TS, ?_⟩
 rw [he i (Nat.le_refl _)]
 exact run
section
variable {P : Program} {N : Nat} {all : List Oper} {g : MS} {K : HS → Prop} {n i : Nat} {S : HS} {Q : tV}
end
end Go.Eng
end
section
set_option linter.unusedSimpArgs false
set_option linter.unusedVariables false
namespace Go.Eng
open Go Go.RowKit
inductive PlainH : HV → Prop
 | v (x : Value) : PlainH (.v x)
 | tup (xs : List Value) : PlainH (.tup (xs.map .v))
section
variable {P : Program} {N : Nat} {w w' : World} {A A' : Nat → Prop} {n0 n1 : Nat} {ρ ρ' : Nat → Value}
theorem RepH.plain {v : Value} {h : HV} (hr : RepH w A n0 ρ v h) (hp : PlainH h) : RepH w' A' n1 ρ' v h := by
 cases hp with
 | v x => have := aX hr; subst this; exact .v _
 | tup xs =>
  cases hr with
  | tup hn h =>
  refine .tup hn fun j a b => ?_
  have := h j a b
  simp only [List.getElem_map] at this ⊢
  have e := aX this
  rw [e]; exact .v _
end
end Go.Eng
end
section
set_option linter.unusedSimpArgs false
set_option linter.unusedVariables false
namespace Go.Eng
open Go Go.RowKit
section
variable {P : Program} {N : Nat} {c : Ctx} {S : HS} {look : Nat → Option Value} {w w' : World} {ρ : Nat → Value} {xs : Nat → List Value}
theorem qSv {f : FuncId} {args args' : List HV} {xs : List Value} {K : HV → HS → Prop} (hc : aE P f = true) (H : HFun P f args' (fun h st => h = .tup (xs.map .v))) (hl : Lends S.st args args') (hK : K (.tup (xs.map .v)) S) : HAt P f args S K :=
 ⟨hc, fun c look w ρ xs' vs G R => Ret.mono (H w vs (qF G R hl)) fun v w' ⟨B, h, st, h8, q, ρ', xs', G', hr⟩ => ⟨_, _, hK, ρ, _, G.below B, by subst q; exact hr.plain (.tup xs)⟩⟩
end
end Go.Eng
end
