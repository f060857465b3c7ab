/- What the walk of the law stands on. -/
import Derived.Test.YtlfenddhppoflaaLsp
set_option linter.unusedSimpArgs false
set_option linter.unusedVariables false
set_option maxRecDepth 20000
namespace Go.Proofs.Ytlfenddhppoflaa
open Go Go.Eng Go.RowKit
structure RI where
 a : Nat
 i : Nat
 l : List ByteArray
def lrE (s : ByteArray) (k : RI) : HS := ⟨[(0, .v (.string s)), (3, .own 9000), (4, .v (.int .i64 k.a)), (5, .v (.int .i64 k.i))], [(9000, .sl true 9 1 (strs k.l))]⟩
def lrI (s : ByteArray) (k : RI) : Prop := k.a ≤ k.i ∧ k.i ≤ s.size ∧ k.l.length ≤ k.a ∧ (k.i = s.size → k.a = k.i) ∧ (∀ j, k.a ≤ j → j < k.i → byteAt s j ≠ 10) ∧ splS s = k.l ++ splS (s.extract k.a s.size)
set_option maxHeartbeats 4000000 in
theorem refSplit_H (s : ByteArray) (hs : s.size ≤ 4294967296) : HFun Try.prog 39 [.v (.string s)] (lsQ s) := by
 refine hfun (N := 34) Try.func39 rfl Try.ntmps39 Try.results39 (by simp) ?_
 (repeat first | refine qE ?_ | refine qA ?_ | refine qC ?_ | refine qB ?_ | refine qD ?_); refine qJ (fun K hK => ?_); simp (maxSteps := 2000000) (disch := omega) only [push_cast, ↓Int.cast_ofNat_Int, Nat.reduceBEq, Nat.reduceAdd, Nat.reduceLT, Nat.reduceEqDiff, reduceIte, reduceCtorEq, Nat.reduceLeDiff, Nat.reduceSub, List.reduceReplicate, Nat.reduceMul, Int.reduceToNat, Nat.reducePow]; refine hK _ ?_; clear hK K
 (repeat first | refine qE ?_ | refine qA ?_ | refine qC ?_ | refine qB ?_ | refine qD ?_); refine qJ (fun K hK => ?_); simp (maxSteps := 2000000) (disch := omega) only [push_cast, ↓Int.cast_ofNat_Int, Nat.reduceBEq, Nat.reduceAdd, Nat.reduceLT, Nat.reduceEqDiff, reduceIte, reduceCtorEq, Nat.reduceLeDiff, Nat.reduceSub, List.reduceReplicate, Nat.reduceMul, Int.reduceToNat, Nat.reducePow]; refine hK _ ?_; clear hK K
 refine HW_ownS 3 9000 9 1 rfl (by simp only [kill_eq, row_eq, rep_eq, ekill_nil, ekill_cons, skill_nil, skill_cons, hkill_v, hkill_lst, hkill_own, hkill_ptr, hkill_vw, hkill_agg, hkill_tup, hkill_junk, rkill_sl, rkill_bx, rkill_hl, only_eq, hrep_nil, hrep_cons, Nat.reduceBEq, Nat.reduceEqDiff, reduceIte, cond_true, cond_false, List.map_cons, List.map_nil]; exact rfl) ?_
 (repeat first | refine qE ?_ | refine qA ?_ | refine qC ?_ | refine qB ?_ | refine qD ?_); refine qJ (fun K hK => ?_); simp (maxSteps := 2000000) (disch := omega) only [push_cast, ↓Int.cast_ofNat_Int, Nat.reduceBEq, Nat.reduceAdd, Nat.reduceLT, Nat.reduceEqDiff, reduceIte, reduceCtorEq, Nat.reduceLeDiff, Nat.reduceSub, List.reduceReplicate, Nat.reduceMul, Int.reduceToNat, Nat.reducePow]; refine hK _ ?_; clear hK K
 (repeat first | refine qE ?_ | refine qA ?_ | refine qC ?_ | refine qB ?_ | refine qD ?_); refine qJ (fun K hK => ?_); simp (maxSteps := 2000000) (disch := omega) only [push_cast, ↓Int.cast_ofNat_Int, Nat.reduceBEq, Nat.reduceAdd, Nat.reduceLT, Nat.reduceEqDiff, reduceIte, reduceCtorEq, Nat.reduceLeDiff, Nat.reduceSub, List.reduceReplicate, Nat.reduceMul, Int.reduceToNat, Nat.reducePow]; refine hK _ ?_; clear hK K
 (repeat first | refine qE ?_ | refine qA ?_ | refine qC ?_ | refine qB ?_ | refine qD ?_)
 refine HW_loop (lrE s) (lrI s) (fun k => s.size - k.i) [0, 3, 4, 5] [9000] ⟨0, 0, []⟩ (by simp only [qZ, qR, qP, qQ, qN, qS, qM, qX, qU, Nat.reduceEqDiff, reduceIte, lrE]; rfl) ⟨Nat.le_refl _, Nat.zero_le _, Nat.le_refl _, fun _ => rfl, fun j _ h => absurd h (Nat.not_lt_zero _), by rw [show (⟨0, 0, []⟩ : RI).l = [] from rfl, show (⟨0, 0, []⟩ : RI).a = 0 from rfl, List.nil_append, ← bs_list (s.extract 0 s.size), ext_data, List.take_of_length_le (Nat.le_of_eq (size_data s)), List.drop_zero, bs_list]⟩ ?_
 rintro ⟨a, i, l⟩ ⟨h1, h2, h3, h4, h5, h6⟩
 dsimp only at h1 h2 h3 h4 h5 h6
 simp only [lrE]
 by_cases hlt : i < s.size
 ·(repeat first | refine qE ?_ | refine qA ?_ | refine qC ?_ | refine qB ?_ | refine qD ?_); refine qJ (fun K hK => ?_); simp (maxSteps := 2000000) (disch := omega) only [push_cast, ↓Int.cast_ofNat_Int, Nat.reduceBEq, Nat.reduceAdd, Nat.reduceLT, Nat.reduceEqDiff, reduceIte, reduceCtorEq, Nat.reduceLeDiff, Nat.reduceSub, List.reduceReplicate, Nat.reduceMul, Int.reduceToNat, Nat.reducePow]; refine hK _ ?_; clear hK K
  refine zD rfl ?_
  (repeat first | refine qK ?_ | refine qG ?_ | refine qH ?_ | refine qF rfl ?_ | refine qL ?_ | refine qB ?_ | refine qE ?_ | refine qA ?_ | refine qC ?_ | refine qT ?_ | refine qW ?_)
  by_cases hb : byteAt s i = 10
  ·(repeat first | refine qE ?_ | refine qA ?_ | refine qC ?_ | refine qB ?_ | refine qD ?_); refine qJ (fun K hK => ?_); simp (maxSteps := 2000000) (disch := omega) only [push_cast, ↓Int.cast_ofNat_Int, Nat.reduceBEq, Nat.reduceAdd, Nat.reduceLT, Nat.reduceEqDiff, reduceIte, reduceCtorEq, Nat.reduceLeDiff, Nat.reduceSub, List.reduceReplicate, Nat.reduceMul, Int.reduceToNat, Nat.reducePow, hb]; (repeat refine ⟨by first | omega | decide | ((repeat' apply And.intro) <;> first | omega | decide), ?_⟩); refine hK _ ?_; clear hK K
   refine zD rfl ?_
   (repeat first | refine qE ?_ | refine qA ?_ | refine qC ?_ | refine qB ?_ | refine qD ?_); refine qJ (fun K hK => ?_); simp (maxSteps := 2000000) (disch := omega) only [push_cast, ↓Int.cast_ofNat_Int, Nat.reduceBEq, Nat.reduceAdd, Nat.reduceLT, Nat.reduceEqDiff, reduceIte, reduceCtorEq, Nat.reduceLeDiff, Nat.reduceSub, List.reduceReplicate, Nat.reduceMul, Int.reduceToNat, Nat.reducePow, strs_len]; (repeat refine ⟨by first | omega | decide | ((repeat' apply And.intro) <;> first | omega | decide), ?_⟩); refine hK _ ?_; clear hK K
   (repeat first | refine qE ?_ | refine qA ?_ | refine qC ?_ | refine qB ?_ | refine qD ?_); refine qJ (fun K hK => ?_); simp (maxSteps := 2000000) (disch := omega) only [push_cast, ↓Int.cast_ofNat_Int, Nat.reduceBEq, Nat.reduceAdd, Nat.reduceLT, Nat.reduceEqDiff, reduceIte, reduceCtorEq, Nat.reduceLeDiff, Nat.reduceSub, List.reduceReplicate, Nat.reduceMul, Int.reduceToNat, Nat.reducePow]; refine hK _ ?_; clear hK K
   (repeat first | refine qK ?_ | refine qG ?_ | refine qH ?_ | refine qF rfl ?_ | refine qL ?_ | refine qB ?_ | refine qE ?_ | refine qA ?_ | refine qC ?_ | refine qT ?_ | refine qW ?_)
   (repeat first | refine qE ?_ | refine qA ?_ | refine qC ?_ | refine qB ?_ | refine qD ?_); refine qJ (fun K hK => ?_); simp (maxSteps := 2000000) (disch := omega) only [push_cast, ↓Int.cast_ofNat_Int, Nat.reduceBEq, Nat.reduceAdd, Nat.reduceLT, Nat.reduceEqDiff, reduceIte, reduceCtorEq, Nat.reduceLeDiff, Nat.reduceSub, List.reduceReplicate, Nat.reduceMul, Int.reduceToNat, Nat.reducePow]; refine hK _ ?_; clear hK K
   (repeat first | refine qK ?_ | refine qG ?_ | refine qH ?_ | refine qF rfl ?_ | refine qL ?_ | refine qB ?_ | refine qE ?_ | refine qA ?_ | refine qC ?_ | refine qT ?_ | refine qW ?_)
   refine ⟨⟨i + 1, i + 1, l ++ [s.extract a (i + 1)]⟩, by simp only [qZ, qR, qP, qQ, qN, qS, qM, qX, qU, Nat.reduceEqDiff, reduceIte, lrE, strs_snoc]; try rfl, ⟨Nat.le_refl _, hlt, by simp; omega, fun _ => rfl, fun j p q => by dsimp only at p q; omega, ?_⟩, by dsimp only; omega⟩
   rw [h6, splS_at s a i h1 hlt h5 (.inl hb)]; simp
  ·by_cases hz : i + 1 = s.size
   ·have e1 : decide ((i : Int) = (s.size : Int) - 1) = true := decide_eq_true (by omega)
    have e2 : decide (byteAt s i = 10) = false := decide_eq_false hb
    (repeat first | refine qE ?_ | refine qA ?_ | refine qC ?_ | refine qB ?_ | refine qD ?_); refine qJ (fun K hK => ?_); simp (maxSteps := 2000000) (disch := omega) only [push_cast, ↓Int.cast_ofNat_Int, Nat.reduceBEq, Nat.reduceAdd, Nat.reduceLT, Nat.reduceEqDiff, reduceIte, reduceCtorEq, Nat.reduceLeDiff, Nat.reduceSub, List.reduceReplicate, Nat.reduceMul, Int.reduceToNat, Nat.reducePow, e1, e2]; (repeat refine ⟨by first | omega | decide | ((repeat' apply And.intro) <;> first | omega | decide), ?_⟩); refine hK _ ?_; clear hK K
    refine zD rfl ?_
    (repeat first | refine qE ?_ | refine qA ?_ | refine qC ?_ | refine qB ?_ | refine qD ?_); refine qJ (fun K hK => ?_); simp (maxSteps := 2000000) (disch := omega) only [push_cast, ↓Int.cast_ofNat_Int, Nat.reduceBEq, Nat.reduceAdd, Nat.reduceLT, Nat.reduceEqDiff, reduceIte, reduceCtorEq, Nat.reduceLeDiff, Nat.reduceSub, List.reduceReplicate, Nat.reduceMul, Int.reduceToNat, Nat.reducePow, strs_len]; (repeat refine ⟨by first | omega | decide | ((repeat' apply And.intro) <;> first | omega | decide), ?_⟩); refine hK _ ?_; clear hK K
    (repeat first | refine qE ?_ | refine qA ?_ | refine qC ?_ | refine qB ?_ | refine qD ?_); refine qJ (fun K hK => ?_); simp (maxSteps := 2000000) (disch := omega) only [push_cast, ↓Int.cast_ofNat_Int, Nat.reduceBEq, Nat.reduceAdd, Nat.reduceLT, Nat.reduceEqDiff, reduceIte, reduceCtorEq, Nat.reduceLeDiff, Nat.reduceSub, List.reduceReplicate, Nat.reduceMul, Int.reduceToNat, Nat.reducePow]; refine hK _ ?_; clear hK K
    (repeat first | refine qK ?_ | refine qG ?_ | refine qH ?_ | refine qF rfl ?_ | refine qL ?_ | refine qB ?_ | refine qE ?_ | refine qA ?_ | refine qC ?_ | refine qT ?_ | refine qW ?_)
    (repeat first | refine qE ?_ | refine qA ?_ | refine qC ?_ | refine qB ?_ | refine qD ?_); refine qJ (fun K hK => ?_); simp (maxSteps := 2000000) (disch := omega) only [push_cast, ↓Int.cast_ofNat_Int, Nat.reduceBEq, Nat.reduceAdd, Nat.reduceLT, Nat.reduceEqDiff, reduceIte, reduceCtorEq, Nat.reduceLeDiff, Nat.reduceSub, List.reduceReplicate, Nat.reduceMul, Int.reduceToNat, Nat.reducePow]; refine hK _ ?_; clear hK K
    (repeat first | refine qK ?_ | refine qG ?_ | refine qH ?_ | refine qF rfl ?_ | refine qL ?_ | refine qB ?_ | refine qE ?_ | refine qA ?_ | refine qC ?_ | refine qT ?_ | refine qW ?_)
    refine ⟨⟨i + 1, i + 1, l ++ [s.extract a (i + 1)]⟩, by simp only [qZ, qR, qP, qQ, qN, qS, qM, qX, qU, Nat.reduceEqDiff, reduceIte, lrE, strs_snoc]; try rfl, ⟨Nat.le_refl _, hlt, by simp; omega, fun _ => rfl, fun j p q => by dsimp only at p q; omega, ?_⟩, by dsimp only; omega⟩
    rw [h6, splS_at s a i h1 hlt h5 (.inr hz)]; simp
   ·have e1 : decide ((i : Int) = (s.size : Int) - 1) = false := decide_eq_false (by omega)
    have e2 : decide (byteAt s i = 10) = false := decide_eq_false hb
    (repeat first | refine qE ?_ | refine qA ?_ | refine qC ?_ | refine qB ?_ | refine qD ?_); refine qJ (fun K hK => ?_); simp (maxSteps := 2000000) (disch := omega) only [push_cast, ↓Int.cast_ofNat_Int, Nat.reduceBEq, Nat.reduceAdd, Nat.reduceLT, Nat.reduceEqDiff, reduceIte, reduceCtorEq, Nat.reduceLeDiff, Nat.reduceSub, List.reduceReplicate, Nat.reduceMul, Int.reduceToNat, Nat.reducePow, e1, e2]; (repeat refine ⟨by first | omega | decide | ((repeat' apply And.intro) <;> first | omega | decide), ?_⟩); refine hK _ ?_; clear hK K
    refine zC rfl ?_
    (repeat first | refine qK ?_ | refine qG ?_ | refine qH ?_ | refine qF rfl ?_ | refine qL ?_ | refine qB ?_ | refine qE ?_ | refine qA ?_ | refine qC ?_ | refine qT ?_ | refine qW ?_)
    (repeat first | refine qE ?_ | refine qA ?_ | refine qC ?_ | refine qB ?_ | refine qD ?_); refine qJ (fun K hK => ?_); simp (maxSteps := 2000000) (disch := omega) only [push_cast, ↓Int.cast_ofNat_Int, Nat.reduceBEq, Nat.reduceAdd, Nat.reduceLT, Nat.reduceEqDiff, reduceIte, reduceCtorEq, Nat.reduceLeDiff, Nat.reduceSub, List.reduceReplicate, Nat.reduceMul, Int.reduceToNat, Nat.reducePow]; refine hK _ ?_; clear hK K
    (repeat first | refine qK ?_ | refine qG ?_ | refine qH ?_ | refine qF rfl ?_ | refine qL ?_ | refine qB ?_ | refine qE ?_ | refine qA ?_ | refine qC ?_ | refine qT ?_ | refine qW ?_)
    refine ⟨⟨a, i + 1, l⟩, by simp only [qZ, qR, qP, qQ, qN, qS, qM, qX, qU, Nat.reduceEqDiff, reduceIte, lrE]; try rfl, ⟨by dsimp only; omega, hlt, h3, fun h => absurd h hz, fun j p q => ?_, h6⟩, by dsimp only; omega⟩
    dsimp only at p q
    by_cases e : j = i
    ·subst e; exact hb
    ·exact h5 j p (by omega)
 ·have hi : i = s.size := by omega
  have ha := h4 hi
  (repeat first | refine qE ?_ | refine qA ?_ | refine qC ?_ | refine qB ?_ | refine qD ?_); refine qJ (fun K hK => ?_); simp (maxSteps := 2000000) (disch := omega) only [push_cast, ↓Int.cast_ofNat_Int, Nat.reduceBEq, Nat.reduceAdd, Nat.reduceLT, Nat.reduceEqDiff, reduceIte, reduceCtorEq, Nat.reduceLeDiff, Nat.reduceSub, List.reduceReplicate, Nat.reduceMul, Int.reduceToNat, Nat.reducePow]; refine hK _ ?_; clear hK K
  refine zC rfl ?_
  (repeat first | refine qK ?_ | refine qG ?_ | refine qH ?_ | refine qF rfl ?_ | refine qL ?_ | refine qB ?_ | refine qE ?_ | refine qA ?_ | refine qC ?_ | refine qT ?_ | refine qW ?_)
  (repeat first | refine qE ?_ | refine qA ?_ | refine qC ?_ | refine qB ?_ | refine qD ?_); refine qJ (fun K hK => ?_); simp (maxSteps := 2000000) (disch := omega) only [push_cast, ↓Int.cast_ofNat_Int, Nat.reduceBEq, Nat.reduceAdd, Nat.reduceLT, Nat.reduceEqDiff, reduceIte, reduceCtorEq, Nat.reduceLeDiff, Nat.reduceSub, List.reduceReplicate, Nat.reduceMul, Int.reduceToNat, Nat.reducePow]; refine hK _ ?_; clear hK K
  (repeat first | refine qK ?_ | refine qG ?_ | refine qH ?_ | refine qF rfl ?_ | refine qL ?_ | refine qB ?_ | refine qE ?_ | refine qA ?_ | refine qC ?_ | refine qT ?_ | refine qW ?_)
  simp only [zA, zM, zH, zE, zK, zJ, qS, qM, Nat.reduceEqDiff, reduceIte, reduceCtorEq]
  have e : splS s = l := by
   rw [h6, ha, hi]
   unfold splS
   rw [ext_data, List.drop_eq_nil_of_le (by simp)]; simp [spl]
  exact hres_o rfl (strs_fresh _) ⟨rfl, by rw [e]⟩
end Go.Proofs.Ytlfenddhppoflaa
