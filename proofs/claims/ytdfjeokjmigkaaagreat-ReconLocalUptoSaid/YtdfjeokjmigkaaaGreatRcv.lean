/-
  A function that is handed a variable by pointer, with plain values in it: its body.
-/
import Derived.Test.YtdfjeokjmigkaaaGreatApe
import Derived.Laws.RangeAny
import Derived.Test.YtdfjeokjmigkaaaGreatDk
import Derived.Test.YtdfjeokjmigkaaaGreatGc
section
set_option linter.unusedSimpArgs false
set_option linter.unusedVariables false
set_option maxRecDepth 20000
namespace Go.Tr
open Go Go.Eng Go.RowKit Go.Lib
theorem qZx (s : ByteArray) : (parts s).length = s.data.toList.count 47 + 1 := by
 rw [← qMg, splitB_all stroke (by decide) 0 _ s rfl]
 exact congrArg (· + 1) (count_one 47 _)
theorem qM9 (s : ByteArray) : (parts s).length ≤ s.size + 1 := by
 rw [qZx]
 have := List.count_le_length (a := (47 : UInt8)) (l := s.data.toList)
 rw [Lib.size_eq]; omega
end Go.Tr
namespace Go.Proofs.YtdfjeokjmigkaaaGreat
open Go Go.Eng Go.RowKit Go.Tr
theorem qQ2 (s : ByteArray) : HFun Tryz.prog 90 [.v (.string s), .v (.int .u8 47)] (fun h st => h = .v (.int .i64 (Lib.indexByte s.data.toList 47))) := by
 refine (tR fun w vs R => ?_).mono fun h st q => q.1
 obtain ⟨r1, r2⟩ := R
 match vs, r1 with
 | [a, b], _ =>
 have ha := aV (r2 0 (by simp) (by simp))
 have hb := aV (r2 1 (by simp) (by simp))
 simp only [List.getElem_cons_zero, List.getElem_cons_succ] at ha hb
 subst ha; subst hb
 refine (Tryz.stringslite_IndexByte s 47 w).mono ?_
 rintro e w' ⟨rfl, rfl⟩
 exact nV ⟨rfl, Below.refl _ _⟩
theorem xG : (({ data := #[47] } : ByteArray).size : Int) = 1 := rfl
theorem qY2 : fD { data := #[47] } 0 = 47 := rfl
set_option maxHeartbeats 4000000 in
theorem zDg (s : ByteArray) : HFun Tryz.prog 74 [.v (.string s), .v (.string { data := #[47] })] (fun h st => h = .v (.int .i64 (Lib.indexByte s.data.toList 47))) := by
 refine fA (N := 143) Tryz.func74 rfl Tryz.ntmps74 Tryz.results74 (by simp) ?_
 refine zE ?_; refine zJ (fun K hK => ?_); simp (disch := omega) only [push_cast, ↓Int.cast_ofNat_Int, Nat.reduceBEq, Nat.reduceAdd, Nat.reduceLT, Nat.reduceEqDiff, reduceIte, reduceCtorEq, Nat.reduceLeDiff, Nat.reduceSub, List.reduceReplicate, Nat.reduceMul, Int.reduceToNat, Nat.reducePow]; refine hK _ ?_; clear hK K
 refine zE ?_; refine zJ (fun K hK => ?_); simp (disch := omega) only [push_cast, ↓Int.cast_ofNat_Int, Nat.reduceBEq, Nat.reduceAdd, Nat.reduceLT, Nat.reduceEqDiff, reduceIte, reduceCtorEq, Nat.reduceLeDiff, Nat.reduceSub, List.reduceReplicate, Nat.reduceMul, Int.reduceToNat, Nat.reducePow, xG]; refine hK _ ?_; clear hK K
 refine zE ?_; refine zD ?_; refine zE ?_
 by_cases h0 : ({ data := #[47] } : ByteArray) = s
 ·have hd : decide (({ data := #[47] } : ByteArray) = s) = true := decide_eq_true h0
  refine zJ (fun K hK => ?_); simp (disch := omega) only [push_cast, ↓Int.cast_ofNat_Int, Nat.reduceBEq, Nat.reduceAdd, Nat.reduceLT, Nat.reduceEqDiff, reduceIte, reduceCtorEq, Nat.reduceLeDiff, Nat.reduceSub, List.reduceReplicate, Nat.reduceMul, Int.reduceToNat, Nat.reducePow, hd]; refine hK _ ?_; clear hK K
  refine yD rfl ?_
  refine zE ?_; refine zJ (fun K hK => ?_); simp (disch := omega) only [push_cast, ↓Int.cast_ofNat_Int, Nat.reduceBEq, Nat.reduceAdd, Nat.reduceLT, Nat.reduceEqDiff, reduceIte, reduceCtorEq, Nat.reduceLeDiff, Nat.reduceSub, List.reduceReplicate, Nat.reduceMul, Int.reduceToNat, Nat.reducePow]; refine hK _ ?_; clear hK K
  refine zA ?_; refine zW ?_; refine zL ?_; refine zK ?_
  simp only [yA, yM, yH, yE, aA, aC, yK, yJ, zS, zM, Nat.reduceEqDiff, reduceIte, reduceCtorEq]
  refine aL ?_
  rw [← h0]; rfl
 ·have hd : decide (({ data := #[47] } : ByteArray) = s) = false := decide_eq_false h0
  refine zJ (fun K hK => ?_); simp (disch := omega) only [push_cast, ↓Int.cast_ofNat_Int, Nat.reduceBEq, Nat.reduceAdd, Nat.reduceLT, Nat.reduceEqDiff, reduceIte, reduceCtorEq, Nat.reduceLeDiff, Nat.reduceSub, List.reduceReplicate, Nat.reduceMul, Int.reduceToNat, Nat.reducePow, hd]; refine hK _ ?_; clear hK K
  refine yC rfl ?_
  refine zE ?_
  refine zJ (fun K hK => ?_); simp (disch := omega) only [push_cast, ↓Int.cast_ofNat_Int, Nat.reduceBEq, Nat.reduceAdd, Nat.reduceLT, Nat.reduceEqDiff, reduceIte, reduceCtorEq, Nat.reduceLeDiff, Nat.reduceSub, List.reduceReplicate, Nat.reduceMul, Int.reduceToNat, Nat.reducePow]; refine hK _ ?_; clear hK K
  refine zA ?_
  refine yD rfl ?_
  refine zE ?_; refine zJ (fun K hK => ?_); simp (disch := omega) only [push_cast, ↓Int.cast_ofNat_Int, Nat.reduceBEq, Nat.reduceAdd, Nat.reduceLT, Nat.reduceEqDiff, reduceIte, reduceCtorEq, Nat.reduceLeDiff, Nat.reduceSub, List.reduceReplicate, Nat.reduceMul, Int.reduceToNat, Nat.reducePow, xG, qY2]
  refine ⟨by first | omega | decide | ((repeat' apply And.intro) <;> first | omega | decide), ?_⟩
  refine bP zTf (qQ2 s) (.cons (.v _) (.cons (.v _) .nil)) ?_
  with_reducible refine aE ?_; simp (disch := omega) only [push_cast, ↓Int.cast_ofNat_Int, Nat.reduceBEq, Nat.reduceAdd, Nat.reduceLT, Nat.reduceEqDiff, reduceIte, reduceCtorEq, Nat.reduceLeDiff, Nat.reduceSub, List.reduceReplicate, Nat.reduceMul, Int.reduceToNat, Nat.reducePow]
  refine hK _ ?_; clear hK K
  refine zA ?_; refine zW ?_; refine zL ?_; refine zK ?_
  simp only [yA, yM, yH, yE, aA, aC, yK, yJ, zS, zM, Nat.reduceEqDiff, reduceIte, reduceCtorEq]
  exact aL rfl
end Go.Proofs.YtdfjeokjmigkaaaGreat
end
section
set_option linter.unusedSimpArgs false
set_option linter.unusedVariables false
set_option maxRecDepth 20000
namespace Go.Tr
open Go
theorem zJl (c : UInt8) : okC c = (decide (97 ≤ c.toNat ∧ c.toNat ≤ 122) || decide (48 ≤ c.toNat ∧ c.toNat ≤ 57) || decide (c.toNat = 95)) := by
 have e : ∀ a b : UInt8, decide (a ≤ b) = decide (a.toNat ≤ b.toNat) := fun a b => rfl
 have e2 : decide (c = 95) = decide (c.toNat = 95) := by
  rw [decide_eq_decide]
  exact ⟨fun h => by rw [h]; rfl, fun h => UInt8.toNat_inj.1 h⟩
 rw [okC, e2, Bool.decide_and, Bool.decide_and, e, e, e, e]
 rfl
def qKk (r : Int) : Bool := ((decide (r < 97) || decide (122 < r)) && (decide (r < 48) || decide (57 < r))) && !decide (r = 95)
theorem zLl (c : UInt8) : qKk (c.toNat : Int) = !okC c := by
 rw [zJl, qKk]
 rw [Bool.eq_iff_iff]
 simp
 omega
end Go.Tr
namespace Go.Proofs.YtdfjeokjmigkaaaGreat
open Go Go.Eng Go.RowKit Go.Tr
attribute [local push_cast] qUk qNe qNv qD1 qBj qGi qGh qD0 qCt qCu qD7 qBs qBx wV vY vK vR vP vN vX qA7 vJ nC vW vQ vS vT vU vV vM vL uL uK uE uF uG uH uJ qT qN qV qU qS qR qQ qP qW qBo qBn uT uU uS oH oG oF kC kD qM qA2 qA1 mY oE qAp uV qAq qAo qAn qAr uW qF4 qAt qF3 qM7 qXs qF6 qC4 uX qC5 qC3 qC2 qC0 qM5 uY qF7 qF5 qCz qC7 qM6 qC6 qAs qC1 qGl qD3 qD5 qBk qD4 qNy qGm qNx qGj qD2 qGk qNw qAv uZ qAz qAy wN wM qNb qF8 qC9 qF9 qDi qBd qBc qGf qA9 qBb qDj qGg wD qBe qDk vZ qBa qL4 qF0 qL2 qFz qCr
attribute [local push_cast] List.take_succ_cons List.take_zero List.drop_succ_cons List.drop_zero true_and and_true Option.isSome_some List.getElem?_cons_zero List.getElem?_cons_succ List.length_cons List.length_nil cond_true cond_false Int.toNat_natCast Nat.mul_one Nat.add_zero Nat.zero_add Addr.add_lit bne_self_eq_false beq_self_eq_true Bool.not_true Bool.not_false List.size_toArray Array.getD_eq_getD_getElem? List.getElem?_toArray Option.getD_some decide_true decide_false eq_self Bool.true_beq Bool.false_beq
end Go.Proofs.YtdfjeokjmigkaaaGreat
end
section
set_option linter.unusedSimpArgs false
set_option linter.unusedVariables false
set_option maxRecDepth 20000
namespace Go.Tr
open Go
end Go.Tr
namespace Go.Proofs.YtdfjeokjmigkaaaGreat
open Go Go.Eng Go.RowKit Go.Tr
theorem zP5 (s : ByteArray) (i : Nat) (h : i < s.size) : decide (fD s i = 47) = decide (s.data.toList[i]? = some 47) := by
 have h' : i < s.data.size := h
 rw [Array.getElem?_toList, Array.getElem?_eq_getElem h', decide_eq_decide]
 unfold fD
 rw [Array.getD_eq_getD_getElem?, Array.getElem?_eq_getElem h']
 simp only [Option.getD_some, Option.some.injEq]
 constructor
 ·intro h; apply UInt8.toNat_inj.1; have e : (47 : UInt8).toNat = 47 := rfl; omega
 ·intro h; rw [h]; rfl
def pre (s p : ByteArray) : Bool := p.data.toList.isPrefixOf s.data.toList
theorem qXr (s p : ByteArray) (h : p.size ≤ s.size) : decide (s.extract 0 p.size = p) = pre s p := by
 rw [pre, Bool.eq_iff_iff, decide_eq_true_iff, List.isPrefixOf_iff_prefix]
 have e : (s.extract 0 p.size).data.toList = s.data.toList.take p.data.toList.length := by rw [Lib.extract_from_zero, ← Lib.size_eq]
 rw [List.prefix_iff_eq_take]
 constructor
 ·intro h; rw [← e, h]
 ·intro h
  apply toList_inj
  rw [Lib.toList_data, Lib.toList_data, e]
  exact h.symm
theorem qK8 {s p : ByteArray} (h : ¬ p.size ≤ s.size) : pre s p = false := by
 rw [pre, Bool.eq_false_iff]
 intro hp
 have := (List.isPrefixOf_iff_prefix.1 hp).length_le
 rw [← Lib.size_eq, ← Lib.size_eq] at this
 exact h this
set_option maxHeartbeats 1000000 in
theorem qLi (s p : ByteArray) : HFun Tryz.prog 73 [.v (.string s), .v (.string p)] (fun h st => h = .v (.bool (pre s p))) := by
 refine fA (N := 18) Tryz.func73 rfl Tryz.ntmps73 Tryz.results73 (by simp) ?_
 refine zE ?_; refine zJ (fun K hK => ?_); simp (disch := omega) only [push_cast, ↓Int.cast_ofNat_Int, simprocAttr]; refine hK _ ?_; clear hK K
 by_cases h : p.size ≤ s.size
 ·have e := qXr s p h
  refine zE ?_; refine zJ (fun K hK => ?_); simp (disch := omega) only [push_cast, ↓Int.cast_ofNat_Int, simprocAttr, e]
  refine ⟨by first | omega | decide | ((repeat' apply And.intro) <;> first | omega | decide), ?_⟩
  refine hK _ ?_; clear hK K
  refine zA ?_; refine zW ?_
  simp only [yA, yM, yH, yE, aA, aC, yK, yJ, zS, zM, Nat.reduceEqDiff, reduceIte, reduceCtorEq]
  exact aL rfl
 ·rw [qK8 h]
  refine zE ?_; refine zJ (fun K hK => ?_); simp (disch := omega) only [push_cast, ↓Int.cast_ofNat_Int, simprocAttr]; refine hK _ ?_; clear hK K
  refine zA ?_; refine zW ?_
  simp only [yA, yM, yH, yE, aA, aC, yK, yJ, zS, zM, Nat.reduceEqDiff, reduceIte, reduceCtorEq]
  exact aL rfl
set_option maxHeartbeats 1000000 in
theorem zFz (s p : ByteArray) : HFun Tryz.prog 53 [.v (.string s), .v (.string p)] (fun h st => h = .v (.bool (pre s p))) := by
 refine fA (N := 8) Tryz.func53 rfl Tryz.ntmps53 Tryz.results53 (by simp) ?_
 refine zE ?_; refine zJ (fun K hK => ?_); simp (disch := omega) only [push_cast, ↓Int.cast_ofNat_Int, simprocAttr]; refine hK _ ?_; clear hK K
 refine zE ?_; refine zJ (fun K hK => ?_); simp (disch := omega) only [push_cast, ↓Int.cast_ofNat_Int, simprocAttr]
 refine bP zPq (qLi s p) (.cons (.v _) (.cons (.v _) .nil)) ?_
 with_reducible refine aE ?_; simp (disch := omega) only [push_cast, ↓Int.cast_ofNat_Int, simprocAttr]
 refine hK _ ?_; clear hK K
 refine zA ?_; refine zW ?_
 simp only [yA, yM, yH, yE, aA, aC, yK, yJ, zS, zM, Nat.reduceEqDiff, reduceIte, reduceCtorEq]
 exact aL rfl
theorem qPh (p t : ByteArray) : cF p t = (decide (t = { data := #[] }) || decide (p = t) || pre p (t ++ { data := #[47] })) := rfl
set_option maxHeartbeats 1000000 in
theorem qXj (p t : ByteArray) (hp : p.size ≤ 1048576) (ht : t.size ≤ 1048576) : HFun Tryz.prog 37 [.v (.string p), .v (.string t)] (fun h st => h = .v (.bool (cF p t))) := by
 refine fA (N := 18) Tryz.func37 rfl Tryz.ntmps37 Tryz.results37 (by simp) ?_
 rw [qPh]
 have c := zFz p (t ++ { data := #[47] })
 refine zE ?_; refine zJ (fun K hK => ?_); simp (disch := omega) only [push_cast, ↓Int.cast_ofNat_Int, simprocAttr]; refine hK _ ?_; clear hK K
 cases e1 : decide (t = { data := #[] }) with
 | true =>
  refine zE ?_; refine zJ (fun K hK => ?_); simp (disch := omega) only [push_cast, ↓Int.cast_ofNat_Int, simprocAttr, e1]; refine hK _ ?_; clear hK K
  refine zA ?_; refine zW ?_
  simp only [yA, yM, yH, yE, aA, aC, yK, yJ, zS, zM, Nat.reduceEqDiff, reduceIte, reduceCtorEq]
  exact aL rfl
 | false =>
  cases e2 : decide (p = t) with
  | true =>
   refine zE ?_; refine zJ (fun K hK => ?_); simp (disch := omega) only [push_cast, ↓Int.cast_ofNat_Int, simprocAttr, e1, e2]; refine hK _ ?_; clear hK K
   refine zA ?_; refine zW ?_
   simp only [yA, yM, yH, yE, aA, aC, yK, yJ, zS, zM, Nat.reduceEqDiff, reduceIte, reduceCtorEq]
   exact aL rfl
  | false =>
   have hsz : t.size + ({ data := #[47] } : ByteArray).size ≤ 9223372036854775807 := by have : ({ data := #[47] } : ByteArray).size = 1 := rfl; omega
   refine zE ?_; refine zJ (fun K hK => ?_); simp (disch := omega) only [push_cast, ↓Int.cast_ofNat_Int, simprocAttr, e1, e2]
   refine ⟨hsz, ?_⟩
   refine bP zTq c (.cons (.v _) (.cons (.v _) .nil)) ?_
   with_reducible refine aE ?_; simp (disch := omega) only [push_cast, ↓Int.cast_ofNat_Int, simprocAttr]
   refine hK _ ?_; clear hK K
   refine zA ?_; refine zW ?_
   simp only [yA, yM, yH, yE, aA, aC, yK, yJ, zS, zM, Nat.reduceEqDiff, reduceIte, reduceCtorEq]
   exact aL rfl
def okN (b : Bool) : Int := bif b then 0 else 10
end Go.Proofs.YtdfjeokjmigkaaaGreat
end
section
set_option linter.unusedSimpArgs false
set_option linter.unusedVariables false
set_option maxRecDepth 20000
namespace Go.Proofs.YtdfjeokjmigkaaaGreat
open Go Go.Eng Go.RowKit Go.Tr Go.Dk
abbrev kS : TypeId := 9
theorem mtL : MapTy Tryz.prog 64 9 3 (.int .i64 0) := ⟨by kernel_rfl, by kernel_rfl, fun w => by kernel_rfl⟩
end Go.Proofs.YtdfjeokjmigkaaaGreat
end
section
set_option linter.unusedSimpArgs false
set_option linter.unusedVariables false
namespace Go.Eng
open Go Go.RowKit Go.Maps
structure HeadM (P : Program) (N : Nat) (ops : List Oper) (E0 : aH) (st : aB) (g : MS) (hs : Nat → HV) (i : Nat) (o : Oper) : Prop where
 lt : iR N o.dst
 head : ∃ T : aH, FrOk ops E0 hs i T ∧ (∀ t h, hlk T t = some h → t ∈ o.looksAt ops.toArray) ∧ ∀ (c : Ctx) (l : Env) (w : World) (ρ : Nat → Value) (xs : Nat → List Value), Good c ⟨T, st⟩ (lk l) w ρ xs → MsOk P c w g →
  ∃ b, gd l (bL ops) o.guard (· = b) ∧ (b = true → Yields P (execOp (evD l) o) w fun u w' => RepH w' (c.A ρ st) c.n0 ρ u (hs i) ∧ Below w.heap.size w w') ∧ (b = false → hs i = .v undef)
theorem HeadM.congr {P : Program} {N : Nat} {ops : List Oper} {E0 : aH} {st : aB} {g : MS} {hs hs' : Nat → HV} {i : Nat} {o : Oper} (h : HeadM P N ops E0 st g hs i o) (he : ∀ j, j ≤ i → hs' j = hs j) : HeadM P N ops E0 st g hs' i o := by
 obtain ⟨T, TF, TS, run⟩ := h.head
 refine ⟨h.lt, T, TF.congr fun j hj => he j (by omega), TS, ?_⟩
 rw [he i (Nat.le_refl _)]
 exact run
section
variable {P : Program} {N : Nat} {all : List Oper} {g : MS} {K : HS → Prop} {n i : Nat} {S : HS} {Q : rY}
end
end Go.Eng
end
section
set_option linter.unusedSimpArgs false
set_option linter.unusedVariables false
namespace Go.Eng
open Go Go.RowKit
inductive PlainH : HV → Prop
 | v (x : Value) : PlainH (.v x)
 | tup (xs : List Value) : PlainH (.tup (xs.map .v))
section
variable {P : Program} {N : Nat} {w w' : World} {A A' : Nat → Prop} {n0 n1 : Nat} {ρ ρ' : Nat → Value}
theorem RepH.plain {v : Value} {h : HV} (hr : RepH w A n0 ρ v h) (hp : PlainH h) : RepH w' A' n1 ρ' v h := by
 cases hp with
 | v x => have := aV hr; subst this; exact .v _
 | tup xs =>
  cases hr with
  | tup hn h =>
  refine .tup hn fun j a b => ?_
  have := h j a b
  simp only [List.getElem_map] at this ⊢
  have e := aV this
  rw [e]; exact .v _
end
end Go.Eng
end
