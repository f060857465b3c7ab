/- What the walk of the law stands on. -/
import Derived.Test.YtlfenddhppoflaaSmH
import Derived.Test.YtlfenddhppoflaaShpD
set_option linter.unusedSimpArgs false
set_option linter.unusedVariables false
set_option maxRecDepth 20000
namespace Go.Proofs.Ytlfenddhppoflaa
open Go Go.Eng Go.RowKit

theorem clone_H (a : List ByteArray) (ha : a.length ≤ 1000000000000) : HFun Try.prog 58 [.lst false (strs a)] (fun h st => h = .own 0 ∧ st = [(0, .sl true 9 1 (strs a))]) := by
 intro w vs R
 obtain ⟨v, rfl⟩ : ∃ v, vs = [v] := by
  match vs, R.1 with
  | [v], _ => exact ⟨v, rfl⟩
 have hv := R.2 0 (by simp) (by simp)
 simp only [List.getElem_cons_zero] at hv
 cases hv with
 | lst hF =>
 cases hF with
 | lst sz vals hn hc hm hnil hsz hadd h1 hr =>
 rename_i ad n cap
 have hn' : a.length = n := by rw [← hn, strs_len]
 subst hn'
 have fin : ∀ {v' : Value} {w' : World} {l : List Value}, Own w' w.heap.size 9 1 v' a.length l → Below w.heap.size w w' → (∀ i (hi : i < a.length), l[i]? = some (.string a[i])) →
   Below w.heap.size w w' ∧ ∃ h st', (∀ i r, rlk st' i = some r → i < 8) ∧ (h = .own 0 ∧ st' = [(0, Row.sl true 9 1 (strs a))]) ∧ InvV (cx w (fun _ => False) (fun b => b < w.heap.size)) ⟨[], st'⟩ h v' (fun _ => none) w' := by
  intro v' w' l hO hB hl
  obtain ⟨ρ, xs, G, e⟩ := res_own (P := Try.prog) (ty := 9) (sz := 1) (els := strs a) (v := v') (l := l) hB (by rw [strs_len]; exact hO) (fun x hx => by simp [strs, strE] at hx; obtain ⟨b, _, rfl⟩ := hx; rfl) (fun i k hi hk => by
   have hi' : i < a.length := by rw [strs_len] at hi; exact hi
   have hk' : k = 0 := by simpa [strs, strE] using hk
   subst hk'
   refine ⟨.string a[i], by rw [Nat.mul_one, Nat.add_zero]; exact hl i hi', rfl, ?_⟩
   simp [strs, strE])
  refine ⟨hB, .own 0, _, fun i r hi => ?_, ⟨rfl, rfl⟩, ρ, xs, G, ?_⟩
  ·simp only [rlk] at hi
   split at hi
   ·omega
   ·cases hi
  ·rw [← e]
   refine .own 0 ?_
   rw [e]
   obtain ⟨_, _, rfl⟩ := own_shape hO
   rfl
 by_cases h0 : a.length = 0
 ·have : a = [] := List.eq_nil_of_length_eq_zero h0
  subst this
  cases ad with
  | none =>
   refine (Try.slices_Clone_string_nil 0 cap w).mono ?_
   rintro e w' ⟨rfl, rfl⟩
   exact ret_of (fin (World.ownsRow_nil _ _ 9 1) (Below.refl _ _) (fun i hi => absurd hi (Nat.not_lt_zero _)))
  | some ad =>
   refine (Try.slices_Clone_string_zero ad cap w).mono ?_
   rintro e w' ⟨v', rfl, hO, -, hB⟩
   exact ret_of (fin hO hB (fun i hi => absurd hi (Nat.not_lt_zero _)))
 ·obtain ⟨bk, off, rfl, -, hbk, -, hcell⟩ := hadd (by omega)
  have hszz : sz = 1 := by
   have := hsz ((strs a)[0]'(by rw [strs_len]; omega)) (List.getElem_mem _)
   rw [← this]; simp [strs, strE]
  subst hszz
  have hcl : ∀ j, j < a.length → w.cell? ⟨bk, off + j, none⟩ = some (.string (a.getD j ByteArray.empty)) := fun j hj => by
   have h3 := hcell j 0 hj (by omega)
   rw [show off + (j * 1 + 0) = off + j by omega] at h3
   rw [h3]
   have h4 := hr j 0 (by rw [strs_len]; exact hj) (by simp [strs, strE])
   simp only [strs, strE, List.getElem_map, List.getElem_cons_zero] at h4
   generalize vals j 0 = u at h4
   cases h4
   rw [List.getD_eq_getElem?_getD, List.getElem?_eq_getElem hj]; rfl
  refine (Try.slices_Clone_string bk off a.length cap a w (Nat.le_refl _) (by omega) hcl).mono ?_
  rintro e w' ⟨v', rfl, hO, hB⟩
  exact ret_of (fin hO hB.2 (fun i hi => by rw [List.take_length]; simp [hi]))
def seE (a b : List ByteArray) (i : Nat) : HS := ⟨[(0, .lst false (strs a)), (1, .lst false (strs b)), (11, .lst false (strs a)), (12, .v (.int .i64 a.length)), (13, .v (.int .i64 i))], []⟩
set_option maxHeartbeats 4000000 in
theorem sequal_H (a b : List ByteArray) (ha : a.length ≤ 140737488355328) (hb : b.length ≤ 140737488355328) : HFun Try.prog 62 [.lst false (strs a), .lst false (strs b)] (fun h st => h = .v (.bool (decide (a = b)))) := by
 refine hfun (N := 26) Try.func62 rfl Try.ntmps62 Try.results62 (by simp) ?_
 (repeat first | refine qE ?_ | refine qA ?_ | refine qC ?_ | refine qB ?_ | refine qD ?_); refine qJ (fun K hK => ?_); simp (maxSteps := 2000000) (disch := omega) only [push_cast, ↓Int.cast_ofNat_Int, Nat.reduceBEq, Nat.reduceAdd, Nat.reduceLT, Nat.reduceEqDiff, reduceIte, reduceCtorEq, Nat.reduceLeDiff, Nat.reduceSub, List.reduceReplicate, Nat.reduceMul, Int.reduceToNat, Nat.reducePow]; refine hK _ ?_; clear hK K
 by_cases h : a.length = b.length
 ·(repeat first | refine qE ?_ | refine qA ?_ | refine qC ?_ | refine qB ?_ | refine qD ?_); refine qJ (fun K hK => ?_); simp (maxSteps := 2000000) (disch := omega) only [push_cast, ↓Int.cast_ofNat_Int, Nat.reduceBEq, Nat.reduceAdd, Nat.reduceLT, Nat.reduceEqDiff, reduceIte, reduceCtorEq, Nat.reduceLeDiff, Nat.reduceSub, List.reduceReplicate, Nat.reduceMul, Int.reduceToNat, Nat.reducePow, strs_len]; refine hK _ ?_; clear hK K
  refine zC rfl ?_
  (repeat first | refine qE ?_ | refine qA ?_ | refine qC ?_ | refine qB ?_ | refine qD ?_)
  (repeat first | refine qE ?_ | refine qA ?_ | refine qC ?_ | refine qB ?_ | refine qD ?_); refine qJ (fun K hK => ?_); simp (maxSteps := 2000000) (disch := omega) only [push_cast, ↓Int.cast_ofNat_Int, Nat.reduceBEq, Nat.reduceAdd, Nat.reduceLT, Nat.reduceEqDiff, reduceIte, reduceCtorEq, Nat.reduceLeDiff, Nat.reduceSub, List.reduceReplicate, Nat.reduceMul, Int.reduceToNat, Nat.reducePow, strs_len]; refine hK _ ?_; clear hK K
  (repeat first | refine qE ?_ | refine qA ?_ | refine qC ?_ | refine qB ?_ | refine qD ?_)
  refine HW_loop (seE a b) (fun i => i ≤ a.length ∧ a.take i = b.take i) (fun i => a.length - i) [0, 1, 11, 12, 13] [] 0 (by simp only [qZ, qR, qP, qQ, qN, qS, qM, qX, qU, Nat.reduceEqDiff, reduceIte, seE]; rfl) ⟨Nat.zero_le _, by simp⟩ ?_
  rintro i ⟨hi, he⟩
  simp only [seE]
  by_cases hlt : i < a.length
  ·have hlt2 : i < b.length := by omega
   (repeat first | refine qE ?_ | refine qA ?_ | refine qC ?_ | refine qB ?_ | refine qD ?_); refine qJ (fun K hK => ?_); simp (maxSteps := 2000000) (disch := omega) only [push_cast, ↓Int.cast_ofNat_Int, Nat.reduceBEq, Nat.reduceAdd, Nat.reduceLT, Nat.reduceEqDiff, reduceIte, reduceCtorEq, Nat.reduceLeDiff, Nat.reduceSub, List.reduceReplicate, Nat.reduceMul, Int.reduceToNat, Nat.reducePow, strs_len]; refine hK _ ?_; clear hK K
   (repeat first | refine qE ?_ | refine qA ?_ | refine qC ?_ | refine qB ?_ | refine qD ?_)
   refine zD rfl ?_
   (repeat first | refine qK ?_ | refine qG ?_ | refine qH ?_ | refine qF rfl ?_ | refine qL ?_ | refine qB ?_ | refine qE ?_ | refine qA ?_ | refine qC ?_ | refine qT ?_ | refine qW ?_)
   (repeat first | refine qE ?_ | refine qA ?_ | refine qC ?_ | refine qB ?_ | refine qD ?_); refine qJ (fun K hK => ?_); simp (maxSteps := 2000000) (disch := omega) only [push_cast, ↓Int.cast_ofNat_Int, Nat.reduceBEq, Nat.reduceAdd, Nat.reduceLT, Nat.reduceEqDiff, reduceIte, reduceCtorEq, Nat.reduceLeDiff, Nat.reduceSub, List.reduceReplicate, Nat.reduceMul, Int.reduceToNat, Nat.reducePow]; refine hK _ ?_; clear hK K
   by_cases heq : a[i] = b[i]
   ·have hd : decide (a[i] = b[i]) = true := decide_eq_true heq
    (repeat first | refine qE ?_ | refine qA ?_ | refine qC ?_ | refine qB ?_ | refine qD ?_); refine HW_drw 9 mixed (by kernel_rfl) (fun K hK => ?_); simp (maxSteps := 2000000) (disch := omega) only [push_cast, ↓Int.cast_ofNat_Int, Nat.reduceBEq, Nat.reduceAdd, Nat.reduceLT, Nat.reduceEqDiff, reduceIte, reduceCtorEq, Nat.reduceLeDiff, Nat.reduceSub, List.reduceReplicate, Nat.reduceMul, Int.reduceToNat, Nat.reducePow, strs_len, strs_get, strs_wid, hd]
    with_reducible refine hstop ?_; simp (maxSteps := 2000000) (disch := omega) only [push_cast, ↓Int.cast_ofNat_Int, Nat.reduceBEq, Nat.reduceAdd, Nat.reduceLT, Nat.reduceEqDiff, reduceIte, reduceCtorEq, Nat.reduceLeDiff, Nat.reduceSub, List.reduceReplicate, Nat.reduceMul, Int.reduceToNat, Nat.reducePow]
    refine hK _ ?_; clear hK K
    refine zC rfl ?_
    (repeat first | refine qK ?_ | refine qG ?_ | refine qH ?_ | refine qF rfl ?_ | refine qL ?_ | refine qB ?_ | refine qE ?_ | refine qA ?_ | refine qC ?_ | refine qT ?_ | refine qW ?_)
    (repeat first | refine qE ?_ | refine qA ?_ | refine qC ?_ | refine qB ?_ | refine qD ?_); refine qJ (fun K hK => ?_); simp (maxSteps := 2000000) (disch := omega) only [push_cast, ↓Int.cast_ofNat_Int, Nat.reduceBEq, Nat.reduceAdd, Nat.reduceLT, Nat.reduceEqDiff, reduceIte, reduceCtorEq, Nat.reduceLeDiff, Nat.reduceSub, List.reduceReplicate, Nat.reduceMul, Int.reduceToNat, Nat.reducePow]; refine hK _ ?_; clear hK K
    (repeat first | refine qK ?_ | refine qG ?_ | refine qH ?_ | refine qF rfl ?_ | refine qL ?_ | refine qB ?_ | refine qE ?_ | refine qA ?_ | refine qC ?_ | refine qT ?_ | refine qW ?_)
    refine ⟨i + 1, by simp only [qZ, qR, qP, qQ, qN, qS, qM, qX, qU, Nat.reduceEqDiff, reduceIte, seE]; try rfl, ⟨hlt, ?_⟩, by omega⟩
    rw [List.take_succ_eq_append_getElem hlt, List.take_succ_eq_append_getElem hlt2, he, heq]
   ·have hd : decide (a[i] = b[i]) = false := decide_eq_false heq
    have hne : decide (a = b) = false := decide_eq_false (fun e => heq (by subst e; rfl))
    rw [hne]
    (repeat first | refine qE ?_ | refine qA ?_ | refine qC ?_ | refine qB ?_ | refine qD ?_); refine HW_drw 9 mixed (by kernel_rfl) (fun K hK => ?_); simp (maxSteps := 2000000) (disch := omega) only [push_cast, ↓Int.cast_ofNat_Int, Nat.reduceBEq, Nat.reduceAdd, Nat.reduceLT, Nat.reduceEqDiff, reduceIte, reduceCtorEq, Nat.reduceLeDiff, Nat.reduceSub, List.reduceReplicate, Nat.reduceMul, Int.reduceToNat, Nat.reducePow, strs_len, strs_get, strs_wid, hd]
    with_reducible refine hstop ?_; simp (maxSteps := 2000000) (disch := omega) only [push_cast, ↓Int.cast_ofNat_Int, Nat.reduceBEq, Nat.reduceAdd, Nat.reduceLT, Nat.reduceEqDiff, reduceIte, reduceCtorEq, Nat.reduceLeDiff, Nat.reduceSub, List.reduceReplicate, Nat.reduceMul, Int.reduceToNat, Nat.reducePow]
    refine hK _ ?_; clear hK K
    refine zD rfl ?_
    (repeat first | refine qE ?_ | refine qA ?_ | refine qC ?_ | refine qB ?_ | refine qD ?_); refine qJ (fun K hK => ?_); simp (maxSteps := 2000000) (disch := omega) only [push_cast, ↓Int.cast_ofNat_Int, Nat.reduceBEq, Nat.reduceAdd, Nat.reduceLT, Nat.reduceEqDiff, reduceIte, reduceCtorEq, Nat.reduceLeDiff, Nat.reduceSub, List.reduceReplicate, Nat.reduceMul, Int.reduceToNat, Nat.reducePow]; refine hK _ ?_; clear hK K
    (repeat first | refine qK ?_ | refine qG ?_ | refine qH ?_ | refine qF rfl ?_ | refine qL ?_ | refine qB ?_ | refine qE ?_ | refine qA ?_ | refine qC ?_ | refine qT ?_ | refine qW ?_)
    simp only [zA, zM, zH, zE, zK, zJ, qS, qM, Nat.reduceEqDiff, reduceIte, reduceCtorEq]
    exact hres_v rfl
  ·have hab : a = b := by
    rw [List.take_of_length_le (by omega), List.take_of_length_le (by omega)] at he; exact he
   rw [decide_eq_true hab]
   (repeat first | refine qE ?_ | refine qA ?_ | refine qC ?_ | refine qB ?_ | refine qD ?_); refine qJ (fun K hK => ?_); simp (maxSteps := 2000000) (disch := omega) only [push_cast, ↓Int.cast_ofNat_Int, Nat.reduceBEq, Nat.reduceAdd, Nat.reduceLT, Nat.reduceEqDiff, reduceIte, reduceCtorEq, Nat.reduceLeDiff, Nat.reduceSub, List.reduceReplicate, Nat.reduceMul, Int.reduceToNat, Nat.reducePow, strs_len]; refine hK _ ?_; clear hK K
   (repeat first | refine qE ?_ | refine qA ?_ | refine qC ?_ | refine qB ?_ | refine qD ?_)
   refine zC rfl ?_
   (repeat first | refine qK ?_ | refine qG ?_ | refine qH ?_ | refine qF rfl ?_ | refine qL ?_ | refine qB ?_ | refine qE ?_ | refine qA ?_ | refine qC ?_ | refine qT ?_ | refine qW ?_)
   (repeat first | refine qE ?_ | refine qA ?_ | refine qC ?_ | refine qB ?_ | refine qD ?_); refine qJ (fun K hK => ?_); simp (maxSteps := 2000000) (disch := omega) only [push_cast, ↓Int.cast_ofNat_Int, Nat.reduceBEq, Nat.reduceAdd, Nat.reduceLT, Nat.reduceEqDiff, reduceIte, reduceCtorEq, Nat.reduceLeDiff, Nat.reduceSub, List.reduceReplicate, Nat.reduceMul, Int.reduceToNat, Nat.reducePow]; refine hK _ ?_; clear hK K
   (repeat first | refine qK ?_ | refine qG ?_ | refine qH ?_ | refine qF rfl ?_ | refine qL ?_ | refine qB ?_ | refine qE ?_ | refine qA ?_ | refine qC ?_ | refine qT ?_ | refine qW ?_)
   simp only [zA, zM, zH, zE, zK, zJ, qS, qM, Nat.reduceEqDiff, reduceIte, reduceCtorEq]
   exact hres_v rfl
 ·have hne : decide (a = b) = false := decide_eq_false (fun e => h (by rw [e]))
  rw [hne]
  (repeat first | refine qE ?_ | refine qA ?_ | refine qC ?_ | refine qB ?_ | refine qD ?_); refine qJ (fun K hK => ?_); simp (maxSteps := 2000000) (disch := omega) only [push_cast, ↓Int.cast_ofNat_Int, Nat.reduceBEq, Nat.reduceAdd, Nat.reduceLT, Nat.reduceEqDiff, reduceIte, reduceCtorEq, Nat.reduceLeDiff, Nat.reduceSub, List.reduceReplicate, Nat.reduceMul, Int.reduceToNat, Nat.reducePow, strs_len]; refine hK _ ?_; clear hK K
  refine zD rfl ?_
  (repeat first | refine qE ?_ | refine qA ?_ | refine qC ?_ | refine qB ?_ | refine qD ?_); refine qJ (fun K hK => ?_); simp (maxSteps := 2000000) (disch := omega) only [push_cast, ↓Int.cast_ofNat_Int, Nat.reduceBEq, Nat.reduceAdd, Nat.reduceLT, Nat.reduceEqDiff, reduceIte, reduceCtorEq, Nat.reduceLeDiff, Nat.reduceSub, List.reduceReplicate, Nat.reduceMul, Int.reduceToNat, Nat.reducePow]; refine hK _ ?_; clear hK K
  (repeat first | refine qK ?_ | refine qG ?_ | refine qH ?_ | refine qF rfl ?_ | refine qL ?_ | refine qB ?_ | refine qE ?_ | refine qA ?_ | refine qC ?_ | refine qT ?_ | refine qW ?_)
  simp only [zA, zM, zH, zE, zK, zJ, qS, qM, Nat.reduceEqDiff, reduceIte, reduceCtorEq]
  exact hres_v rfl
end Go.Proofs.Ytlfenddhppoflaa
