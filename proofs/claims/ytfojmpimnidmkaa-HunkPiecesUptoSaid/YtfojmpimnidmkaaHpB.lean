/-
  The document's least, gaps: walked.
-/
import Derived.Test.YtfojmpimnidmkaaHpA
import Derived.Test.YtfojmpimnidmkaaScr
import Derived.Test.YtfojmpimnidmkaaHnkT
import Derived.Test.YtfojmpimnidmkaaHnk
set_option linter.unusedSimpArgs false
set_option linter.unusedVariables false
set_option maxRecDepth 20000
namespace Go.Proofs.Ytfojmpimnidmkaa
open Go Go.Eng Go.RowKit Go.DiffM
theorem least_H (x y : Int) : HFun Try.prog 12 [.v (.int .i64 x), .v (.int .i64 y)] (fun h st => h = .v (.int .i64 (if y < x then y else x))) := by
 refine hfun (N := 10) Try.func12 rfl Try.ntmps12 Try.results12 (by simp) ?_
 (repeat first | refine zE ?_ | refine zA ?_ | refine zC ?_ | refine zB ?_ | refine zD ?_); refine zJ (fun K hK => ?_); simp (maxSteps := 2000000) (disch := omega) only [push_cast, ↓Int.cast_ofNat_Int, Nat.reduceBEq, Nat.reduceAdd, Nat.reduceLT, Nat.reduceEqDiff, reduceIte, reduceCtorEq, Nat.reduceLeDiff, Nat.reduceSub, List.reduceReplicate, Nat.reduceMul, Int.reduceToNat, Int.toNat_natCast, Nat.reducePow, reduceIte]; refine hK _ ?_; clear hK K
 by_cases hlt : y < x
 ·(repeat first | refine zE ?_ | refine zA ?_ | refine zC ?_ | refine zB ?_ | refine zD ?_); refine zJ (fun K hK => ?_); simp (maxSteps := 2000000) (disch := omega) only [push_cast, ↓Int.cast_ofNat_Int, Nat.reduceBEq, Nat.reduceAdd, Nat.reduceLT, Nat.reduceEqDiff, reduceIte, reduceCtorEq, Nat.reduceLeDiff, Nat.reduceSub, List.reduceReplicate, Nat.reduceMul, Int.reduceToNat, Int.toNat_natCast, Nat.reducePow, reduceIte]; refine hK _ ?_; clear hK K
  (repeat first | refine zE ?_ | refine zA ?_ | refine zC ?_ | refine zB ?_ | refine zD ?_)
  refine yD rfl ?_
  (repeat first | refine zE ?_ | refine zA ?_ | refine zC ?_ | refine zB ?_ | refine zD ?_); refine zJ (fun K hK => ?_); simp (maxSteps := 2000000) (disch := omega) only [push_cast, ↓Int.cast_ofNat_Int, Nat.reduceBEq, Nat.reduceAdd, Nat.reduceLT, Nat.reduceEqDiff, reduceIte, reduceCtorEq, Nat.reduceLeDiff, Nat.reduceSub, List.reduceReplicate, Nat.reduceMul, Int.reduceToNat, Int.toNat_natCast, Nat.reducePow, reduceIte]; refine hK _ ?_; clear hK K
  (repeat first | refine zK ?_ | refine zG ?_ | refine zH ?_ | refine zF rfl ?_ | refine zL ?_ | refine zB ?_ | refine zE ?_ | refine zA ?_ | refine zC ?_ | refine zT ?_ | refine zW ?_)
  simp only [yA, yM, yH, yE, resH_cell, resC_go, yK, yJ, zS, zM, Nat.reduceEqDiff, reduceIte, reduceCtorEq]
  rw [if_pos hlt]
  exact hres_v rfl
 ·(repeat first | refine zE ?_ | refine zA ?_ | refine zC ?_ | refine zB ?_ | refine zD ?_); refine zJ (fun K hK => ?_); simp (maxSteps := 2000000) (disch := omega) only [push_cast, ↓Int.cast_ofNat_Int, Nat.reduceBEq, Nat.reduceAdd, Nat.reduceLT, Nat.reduceEqDiff, reduceIte, reduceCtorEq, Nat.reduceLeDiff, Nat.reduceSub, List.reduceReplicate, Nat.reduceMul, Int.reduceToNat, Int.toNat_natCast, Nat.reducePow, reduceIte]; refine hK _ ?_; clear hK K
  (repeat first | refine zE ?_ | refine zA ?_ | refine zC ?_ | refine zB ?_ | refine zD ?_)
  refine yC rfl ?_
  (repeat first | refine zK ?_ | refine zG ?_ | refine zH ?_ | refine zF rfl ?_ | refine zL ?_ | refine zB ?_ | refine zE ?_ | refine zA ?_ | refine zC ?_ | refine zT ?_ | refine zW ?_)
  (repeat first | refine zE ?_ | refine zA ?_ | refine zC ?_ | refine zB ?_ | refine zD ?_); refine zJ (fun K hK => ?_); simp (maxSteps := 2000000) (disch := omega) only [push_cast, ↓Int.cast_ofNat_Int, Nat.reduceBEq, Nat.reduceAdd, Nat.reduceLT, Nat.reduceEqDiff, reduceIte, reduceCtorEq, Nat.reduceLeDiff, Nat.reduceSub, List.reduceReplicate, Nat.reduceMul, Int.reduceToNat, Int.toNat_natCast, Nat.reducePow, reduceIte]; refine hK _ ?_; clear hK K
  (repeat first | refine zK ?_ | refine zG ?_ | refine zH ?_ | refine zF rfl ?_ | refine zL ?_ | refine zB ?_ | refine zE ?_ | refine zA ?_ | refine zC ?_ | refine zT ?_ | refine zW ?_)
  simp only [yA, yM, yH, yE, resH_cell, resC_go, yK, yJ, zS, zM, Nat.reduceEqDiff, reduceIte, reduceCtorEq]
  rw [if_neg hlt]
  exact hres_v rfl
def pcast (K : List (Nat × Nat)) : List (Int × Int) := K.map fun p => ((p.1 : Int), (p.2 : Int))
theorem pcast_get {K : List (Nat × Nat)} {n : Nat} (h : n < K.length) {d : List FV} : (int2s (pcast K)).getD n d = [.v (.int .i64 (K[n].1 : Int)), .v (.int .i64 (K[n].2 : Int))] := by
 have h' : n < (pcast K).length := by simpa [pcast] using h
 rw [int2s_get h']
 simp [pcast]
theorem pcast_len (K : List (Nat × Nat)) : (int2s (pcast K)).length = K.length := by rw [int2s_len]; simp [pcast]
set_option maxHeartbeats 8000000 in
theorem gaps_H (a b : List ByteArray) (hA : a.length ≤ 400) (hB : b.length ≤ 400) (g : Nat) (hg : g ≤ 800) : HFun Try.prog 13 [.lst false (strs a), .lst false (strs b), .v (.int .i64 g)] (fun h st => h = .own 0 ∧ st = [(0, .sl true 49 4 (sps (spans g a b)))]) := by
 refine hfun (N := 113) Try.func13 rfl Try.ntmps13 Try.results13 (by simp) ?_
 (repeat first | refine zE ?_ | refine zA ?_ | refine zC ?_ | refine zB ?_ | refine zD ?_); refine zJ (fun K hK => ?_); simp (maxSteps := 2000000) (disch := omega) only [push_cast, ↓Int.cast_ofNat_Int, Nat.reduceBEq, Nat.reduceAdd, Nat.reduceLT, Nat.reduceEqDiff, reduceIte, reduceCtorEq, Nat.reduceLeDiff, Nat.reduceSub, List.reduceReplicate, Nat.reduceMul, Int.reduceToNat, Int.toNat_natCast, Nat.reducePow, reduceIte]; refine hK _ ?_; clear hK K
 (repeat first | refine zE ?_ | refine zA ?_ | refine zC ?_ | refine zB ?_ | refine zD ?_); refine zJ (fun K hK => ?_); simp (maxSteps := 2000000) (disch := omega) only [push_cast, ↓Int.cast_ofNat_Int, Nat.reduceBEq, Nat.reduceAdd, Nat.reduceLT, Nat.reduceEqDiff, reduceIte, reduceCtorEq, Nat.reduceLeDiff, Nat.reduceSub, List.reduceReplicate, Nat.reduceMul, Int.reduceToNat, Int.toNat_natCast, Nat.reducePow, reduceIte]
 refine hat 136 cl17 (refKept_H a b) (.cons (lendL (strs_old _)) (.cons (lendL (strs_old _)) .nil)) ?_
 rintro _ _ (⟨hlim, rfl, rfl⟩ | ⟨-, -, rfl, rfl⟩)
 ·omega
 with_reducible refine hstop ?_; simp (maxSteps := 2000000) (disch := omega) only [push_cast, ↓Int.cast_ofNat_Int, Nat.reduceBEq, Nat.reduceAdd, Nat.reduceLT, Nat.reduceEqDiff, reduceIte, reduceCtorEq, Nat.reduceLeDiff, Nat.reduceSub, List.reduceReplicate, Nat.reduceMul, Int.reduceToNat, Int.toNat_natCast, Nat.reducePow, reduceIte]
 refine hK _ ?_; clear hK K
 refine yB [0, 1, 2, 7] [136] (by simp only [zZ, zR, zP, zQ, zN, zS, zM, zX, zU, Nat.reduceEqDiff, reduceIte]; exact rfl) ?_
 rw [← gaps_spans]
 have hk1 : int2s (keptP a b) ++ [[.v (.int .i64 (a.length : Int)), .v (.int .i64 (b.length : Int))]] = int2s (pcast (keptN (script a b) 0 0 ++ [(a.length, b.length)])) := by
  rw [int2s_snoc, keptP, keptR_N, pcast, List.map_append]; rfl
 obtain ⟨hkb, hkl0⟩ := kept_bd hA hB
 have hkp : (keptP a b).length ≤ 400 := by rw [keptP, keptR_N, List.length_map]; exact hkl0
 have hkl : (keptN (script a b) 0 0 ++ [(a.length, b.length)]).length ≤ 401 := by rw [List.length_append, List.length_singleton]; omega
 obtain ⟨K, hK⟩ : ∃ K, keptN (script a b) 0 0 ++ [(a.length, b.length)] = K := ⟨_, rfl⟩
 rw [hK] at hk1 hkb hkl ⊢
 (repeat first | refine zE ?_ | refine zA ?_ | refine zC ?_ | refine zB ?_ | refine zD ?_); refine zJ (fun K hK => ?_); simp (maxSteps := 2000000) (disch := omega) only [push_cast, ↓Int.cast_ofNat_Int, Nat.reduceBEq, Nat.reduceAdd, Nat.reduceLT, Nat.reduceEqDiff, reduceIte, reduceCtorEq, Nat.reduceLeDiff, Nat.reduceSub, List.reduceReplicate, Nat.reduceMul, Int.reduceToNat, Int.toNat_natCast, Nat.reducePow, reduceIte, strs_len, int2s_len, hk1]; (repeat refine ⟨by first | omega | decide | ((repeat' apply And.intro) <;> first | omega | decide), ?_⟩); refine hK _ ?_; clear hK K
 refine yB [0, 1, 2, 7] [136] (by simp only [zZ, zR, zP, zQ, zN, zS, zM, zX, zU, Nat.reduceEqDiff, reduceIte]; exact rfl) ?_
 (repeat first | refine zE ?_ | refine zA ?_ | refine zC ?_ | refine zB ?_ | refine zD ?_); refine zJ (fun K hK => ?_); simp (maxSteps := 2000000) (disch := omega) only [push_cast, ↓Int.cast_ofNat_Int, Nat.reduceBEq, Nat.reduceAdd, Nat.reduceLT, Nat.reduceEqDiff, reduceIte, reduceCtorEq, Nat.reduceLeDiff, Nat.reduceSub, List.reduceReplicate, Nat.reduceMul, Int.reduceToNat, Int.toNat_natCast, Nat.reducePow, reduceIte]; refine hK _ ?_; clear hK K
 refine HW_ownS 9 9000 49 4 rfl (by simp only [kill_eq, row_eq, rep_eq, ekill_nil, ekill_cons, skill_nil, skill_cons, hkill_v, hkill_lst, hkill_elt, hkill_own, hkill_ptr, hkill_vw, hkill_agg, hkill_tup, hkill_junk, rkill_sl, rkill_bx, rkill_hl, only_eq, hrep_nil, hrep_cons, Nat.reduceBEq, Nat.reduceEqDiff, reduceIte, cond_true, cond_false, List.map_cons, List.map_nil]; exact rfl) ?_
 rw [show ([] : List (List FV)) = sps [] from rfl]
 (repeat first | refine zE ?_ | refine zA ?_ | refine zC ?_ | refine zB ?_ | refine zD ?_); refine zJ (fun K hK => ?_); simp (maxSteps := 2000000) (disch := omega) only [push_cast, ↓Int.cast_ofNat_Int, Nat.reduceBEq, Nat.reduceAdd, Nat.reduceLT, Nat.reduceEqDiff, reduceIte, reduceCtorEq, Nat.reduceLeDiff, Nat.reduceSub, List.reduceReplicate, Nat.reduceMul, Int.reduceToNat, Int.toNat_natCast, Nat.reducePow, reduceIte]; refine hK _ ?_; clear hK K
 (repeat first | refine zE ?_ | refine zA ?_ | refine zC ?_ | refine zB ?_ | refine zD ?_); refine zJ (fun K hK => ?_); simp (maxSteps := 2000000) (disch := omega) only [push_cast, ↓Int.cast_ofNat_Int, Nat.reduceBEq, Nat.reduceAdd, Nat.reduceLT, Nat.reduceEqDiff, reduceIte, reduceCtorEq, Nat.reduceLeDiff, Nat.reduceSub, List.reduceReplicate, Nat.reduceMul, Int.reduceToNat, Int.toNat_natCast, Nat.reducePow, reduceIte]; refine hK _ ?_; clear hK K
 (repeat first | refine zE ?_ | refine zA ?_ | refine zC ?_ | refine zB ?_ | refine zD ?_)
 refine HW_loop (fun x : Nat × Nat × Nat × List Sp => ⟨[(0, .lst false (strs a)), (1, .lst false (strs b)), (2, .v (.int .i64 g)), (7, .own 136), (9, .own 9000), (10, .v (.int .i64 x.2.1)), (11, .v (.int .i64 x.2.2.1)), (12, .v (.int .i64 x.1))], [(136, .sl true 59 2 (int2s (pcast K))), (9000, .sl true 49 4 (sps x.2.2.2))]⟩)
  (fun x => x.1 ≤ K.length ∧ x.2.1 ≤ 401 ∧ x.2.2.1 ≤ 401 ∧ x.2.2.2.length ≤ x.1 ∧ (∀ s ∈ x.2.2.2, s.a1 ≤ 401) ∧ gapF g (K.drop x.1) x.2.1 x.2.2.1 x.2.2.2 = gapF g K 0 0 []) (fun x => K.length - x.1)
  [0, 1, 2, 7, 9, 10, 11, 12] [136, 9000] (0, 0, 0, []) (by simp only [zZ, zR, zP, zQ, zN, zS, zM, zX, zU, Nat.reduceEqDiff, reduceIte]; rfl) ⟨Nat.zero_le _, by dsimp only; omega, by dsimp only; omega, Nat.le_refl _, by simp, rfl⟩ ?_
 rintro ⟨n, i, j, out⟩ ⟨hn, hi, hj, hac, hbd, hF⟩
 dsimp only at hn hi hj hac hbd hF ⊢
 by_cases hnl : n < K.length
 ·rw [List.drop_eq_getElem_cons hnl] at hF
  have hkn := hkb _ (List.getElem_mem hnl)
  have hge : ∀ d, (int2s (pcast K)).getD n d = [.v (.int .i64 (K[n].1 : Int)), .v (.int .i64 (K[n].2 : Int))] := fun d => pcast_get hnl
  obtain ⟨k, hk⟩ : ∃ k, K[n] = k := ⟨_, rfl⟩
  rw [hk] at hF hkn hge
  obtain ⟨p, q⟩ := k
  dsimp only at hF hkn hge
  rw [gapF] at hF
  (repeat first | refine zE ?_ | refine zA ?_ | refine zC ?_ | refine zB ?_ | refine zD ?_); refine zJ (fun K hK => ?_); simp (maxSteps := 2000000) (disch := omega) only [push_cast, ↓Int.cast_ofNat_Int, Nat.reduceBEq, Nat.reduceAdd, Nat.reduceLT, Nat.reduceEqDiff, reduceIte, reduceCtorEq, Nat.reduceLeDiff, Nat.reduceSub, List.reduceReplicate, Nat.reduceMul, Int.reduceToNat, Int.toNat_natCast, Nat.reducePow, reduceIte, pcast_len]; refine hK _ ?_; clear hK K
  (repeat first | refine zE ?_ | refine zA ?_ | refine zC ?_ | refine zB ?_ | refine zD ?_)
  refine yD rfl ?_
  (repeat first | refine zK ?_ | refine zG ?_ | refine zH ?_ | refine zF rfl ?_ | refine zL ?_ | refine zB ?_ | refine zE ?_ | refine zA ?_ | refine zC ?_ | refine zT ?_ | refine zW ?_)
  by_cases hip : i < p
  ·have e0 : decide ((i : Int) < (p : Int)) = true := decide_eq_true (by omega)
   (repeat first | refine zE ?_ | refine zA ?_ | refine zC ?_ | refine zB ?_ | refine zD ?_); refine zJ (fun K hK => ?_); simp (maxSteps := 2000000) (disch := omega) only [push_cast, ↓Int.cast_ofNat_Int, Nat.reduceBEq, Nat.reduceAdd, Nat.reduceLT, Nat.reduceEqDiff, reduceIte, reduceCtorEq, Nat.reduceLeDiff, Nat.reduceSub, List.reduceReplicate, Nat.reduceMul, Int.reduceToNat, Int.toNat_natCast, Nat.reducePow, reduceIte, pcast_len, int2s_wid, hge, e0]; refine hK _ ?_; clear hK K
   have hgap : i < p ∨ j < q := by omega
   rw [if_pos hgap] at hF
   have hfl : (addSp g out ⟨i, p, j, q⟩).length ≤ n + 1 := by
    rcases List.eq_nil_or_concat out with rfl | ⟨u, l', rfl⟩
    ·simp [addSp]
    ·rw [List.concat_eq_append] at hac ⊢
     rw [addSp_snoc]; simp only [List.length_append, List.length_singleton] at hac; split <;> simp <;> omega
   have hfin : ∀ s ∈ addSp g out ⟨i, p, j, q⟩, s.a1 ≤ 401 := by
    rcases List.eq_nil_or_concat out with rfl | ⟨u, l', rfl⟩
    ·intro s hs; simp [addSp] at hs; subst hs; dsimp only; omega
    ·rw [List.concat_eq_append] at hbd ⊢
     rw [addSp_snoc]
     have hl' := hbd l' (by simp)
     intro s hs
     split at hs
     ·rcases List.mem_append.1 hs with h | h
      ·exact hbd s (by simp [h])
      ·simp at h; subst h; dsimp only; omega
     ·rcases List.mem_append.1 hs with h | h
      ·exact hbd s (by simp [h])
      ·simp at h
       rcases h with rfl | rfl
       ·exact hl'
       ·dsimp only; omega
   (repeat first | refine zE ?_ | refine zA ?_ | refine zC ?_ | refine zB ?_ | refine zD ?_)
   refine yD rfl ?_
   (repeat first | refine zE ?_ | refine zA ?_ | refine zC ?_ | refine zB ?_ | refine zD ?_)
   (repeat first | refine zE ?_ | refine zA ?_ | refine zC ?_ | refine zB ?_ | refine zD ?_); refine zJ (fun K hK => ?_); simp (maxSteps := 2000000) (disch := omega) only [push_cast, ↓Int.cast_ofNat_Int, Nat.reduceBEq, Nat.reduceAdd, Nat.reduceLT, Nat.reduceEqDiff, reduceIte, reduceCtorEq, Nat.reduceLeDiff, Nat.reduceSub, List.reduceReplicate, Nat.reduceMul, Int.reduceToNat, Int.toNat_natCast, Nat.reducePow, reduceIte, sps_len]; refine hK _ ?_; clear hK K
   rcases List.eq_nil_or_concat out with rfl | ⟨u, l', rfl⟩
   ·(repeat first | refine zE ?_ | refine zA ?_ | refine zC ?_ | refine zB ?_ | refine zD ?_); refine zJ (fun K hK => ?_); simp (maxSteps := 2000000) (disch := omega) only [push_cast, ↓Int.cast_ofNat_Int, Nat.reduceBEq, Nat.reduceAdd, Nat.reduceLT, Nat.reduceEqDiff, reduceIte, reduceCtorEq, Nat.reduceLeDiff, Nat.reduceSub, List.reduceReplicate, Nat.reduceMul, Int.reduceToNat, Int.toNat_natCast, Nat.reducePow, reduceIte, sps_len]; refine hK _ ?_; clear hK K
    (repeat first | refine zE ?_ | refine zA ?_ | refine zC ?_ | refine zB ?_ | refine zD ?_)
    refine yC rfl ?_
    (repeat first | refine zE ?_ | refine zA ?_ | refine zC ?_ | refine zB ?_ | refine zD ?_); refine HW_drwR2 15 mixed (by kernel_rfl) (fun K hK K1 hK1 => ?_); simp (maxSteps := 2000000) (disch := omega) only [push_cast, ↓Int.cast_ofNat_Int, Nat.reduceBEq, Nat.reduceAdd, Nat.reduceLT, Nat.reduceEqDiff, reduceIte, reduceCtorEq, Nat.reduceLeDiff, Nat.reduceSub, List.reduceReplicate, Nat.reduceMul, Int.reduceToNat, Int.toNat_natCast, Nat.reducePow, reduceIte, pcast_len, int2s_wid, hge]
    refine hK1 _ ?_; (try clear hK1 K1); with_reducible refine hstop ?_; simp (maxSteps := 2000000) (disch := omega) only [push_cast, ↓Int.cast_ofNat_Int, Nat.reduceBEq, Nat.reduceAdd, Nat.reduceLT, Nat.reduceEqDiff, reduceIte, reduceCtorEq, Nat.reduceLeDiff, Nat.reduceSub, List.reduceReplicate, Nat.reduceMul, Int.reduceToNat, Int.toNat_natCast, Nat.reducePow, reduceIte, sps_len, sps_snoc]
    refine ⟨fun x hx => by rw [List.mem_singleton.1 hx]; rfl, ?_⟩
    refine hK _ ?_; clear hK K
    (repeat first | refine zK ?_ | refine zG ?_ | refine zH ?_ | refine zF rfl ?_ | refine zL ?_ | refine zB ?_ | refine zE ?_ | refine zA ?_ | refine zC ?_ | refine zT ?_ | refine zW ?_)
    (repeat first | refine zE ?_ | refine zA ?_ | refine zC ?_ | refine zB ?_ | refine zD ?_); refine HW_drw 14 mixed (by kernel_rfl) (fun K hK => ?_); simp (maxSteps := 2000000) (disch := omega) only [push_cast, ↓Int.cast_ofNat_Int, Nat.reduceBEq, Nat.reduceAdd, Nat.reduceLT, Nat.reduceEqDiff, reduceIte, reduceCtorEq, Nat.reduceLeDiff, Nat.reduceSub, List.reduceReplicate, Nat.reduceMul, Int.reduceToNat, Int.toNat_natCast, Nat.reducePow, reduceIte, pcast_len, int2s_wid, hge]
    with_reducible refine hstop ?_; simp (maxSteps := 2000000) (disch := omega) only [push_cast, ↓Int.cast_ofNat_Int, Nat.reduceBEq, Nat.reduceAdd, Nat.reduceLT, Nat.reduceEqDiff, reduceIte, reduceCtorEq, Nat.reduceLeDiff, Nat.reduceSub, List.reduceReplicate, Nat.reduceMul, Int.reduceToNat, Int.toNat_natCast, Nat.reducePow, reduceIte]
    refine hK _ ?_; clear hK K
    (repeat first | refine zK ?_ | refine zG ?_ | refine zH ?_ | refine zF rfl ?_ | refine zL ?_ | refine zB ?_ | refine zE ?_ | refine zA ?_ | refine zC ?_ | refine zT ?_ | refine zW ?_)
    (repeat first | refine zE ?_ | refine zA ?_ | refine zC ?_ | refine zB ?_ | refine zD ?_); refine zJ (fun K hK => ?_); simp (maxSteps := 2000000) (disch := omega) only [push_cast, ↓Int.cast_ofNat_Int, Nat.reduceBEq, Nat.reduceAdd, Nat.reduceLT, Nat.reduceEqDiff, reduceIte, reduceCtorEq, Nat.reduceLeDiff, Nat.reduceSub, List.reduceReplicate, Nat.reduceMul, Int.reduceToNat, Int.toNat_natCast, Nat.reducePow, reduceIte]; refine hK _ ?_; clear hK K
    (repeat first | refine zK ?_ | refine zG ?_ | refine zH ?_ | refine zF rfl ?_ | refine zL ?_ | refine zB ?_ | refine zE ?_ | refine zA ?_ | refine zC ?_ | refine zT ?_ | refine zW ?_)
    exact ⟨(n + 1, p + 1, q + 1, addSp g [] ⟨i, p, j, q⟩), by simp only [zZ, zR, zP, zQ, zN, zS, zM, zX, zU, Nat.reduceEqDiff, reduceIte]; rfl, ⟨hnl, by dsimp only; omega, by dsimp only; omega, hfl, hfin, hF⟩, by dsimp only; omega⟩
   ·rw [List.concat_eq_append] at hbd hac hF hfin hfl ⊢
    have hl' := hbd l' (by simp)
    have hql : ((((u ++ [l']).length : Nat) : Int) - 1) = (u.length : Int) := by simp
    rw [hql]
    rw [addSp_snoc] at hF hfin hfl
    dsimp only at hF hfin hfl
    by_cases hgg : i - l'.a1 ≤ g
    ·rw [if_pos hgg] at hF hfin hfl
     have e1 : decide ((i : Int) - (l'.a1 : Int) ≤ (g : Int)) = true := decide_eq_true (by omega)
     (repeat first | refine zE ?_ | refine zA ?_ | refine zC ?_ | refine zB ?_ | refine zD ?_); refine zJ (fun K hK => ?_); simp (maxSteps := 2000000) (disch := omega) only [push_cast, ↓Int.cast_ofNat_Int, Nat.reduceBEq, Nat.reduceAdd, Nat.reduceLT, Nat.reduceEqDiff, reduceIte, reduceCtorEq, Nat.reduceLeDiff, Nat.reduceSub, List.reduceReplicate, Nat.reduceMul, Int.reduceToNat, Int.toNat_natCast, Nat.reducePow, reduceIte, sps_len, sps_wid, sps_last, e1]; refine hK _ ?_; clear hK K
     (repeat first | refine zE ?_ | refine zA ?_ | refine zC ?_ | refine zB ?_ | refine zD ?_)
     refine yD rfl ?_
     refine yB [0, 1, 2, 7, 9, 10, 11, 12, 13] [136, 9000] (by simp only [zZ, zR, zP, zQ, zN, zS, zM, zX, zU, Nat.reduceEqDiff, reduceIte]; exact rfl) ?_
     (repeat first | refine zE ?_ | refine zA ?_ | refine zC ?_ | refine zB ?_ | refine zD ?_)
     refine HW_hl 9000 rfl (by simp only [sset_nil, sset_cons, List.map_cons, List.map_nil, fh_v, fh_lst, Nat.reduceEqDiff, reduceIte, spsH_eq]; exact rfl) ?_
     (repeat first | refine zE ?_ | refine zA ?_ | refine zC ?_ | refine zB ?_ | refine zD ?_); refine HW_drwP 18 [(9000, u.length, 1)] mixed (by kernel_rfl) (by simp only [junkAll_nil, junkAll_cons, rset_bx, rset_hl, zX, zU, sset_nil, sset_cons, List.set_cons_succ, List.set_cons_zero, Nat.reduceEqDiff, reduceIte, spsH_n, spsH_get, spsH_set, pcast_len, int2s_wid, hge]; exact rfl) (fun K hK => ?_); simp (maxSteps := 2000000) (disch := omega) only [push_cast, ↓Int.cast_ofNat_Int, Nat.reduceBEq, Nat.reduceAdd, Nat.reduceLT, Nat.reduceEqDiff, reduceIte, reduceCtorEq, Nat.reduceLeDiff, Nat.reduceSub, List.reduceReplicate, Nat.reduceMul, Int.reduceToNat, Int.toNat_natCast, Nat.reducePow, reduceIte, hvp_nil, hvp_cons, hStoreP_eq, hStoreP2_eq, inB, rset_bx, rset_hl, List.set_cons_succ, List.set_cons_zero, storeOf_store, storeOf_move, storeOf_assign, storeOf_pick, storeOf_extract, storeOf_field, storeOf_faddr, storeOf_nilc, storeOf_iaddr, storeOf_slice, storeOf_load, storeOf_build, storeOf_bin, storeOf_un, storeOf_conv, storeOf_index, storeOf_call, storeOf_alloc, storeOf_box, storeOf_make, storeOf_buildS, spsH_n, spsH_get, spsH_set, pcast_len, int2s_wid, hge]
     refine ⟨⟨by omega, fun _ h => by cases h⟩, hstop ?_⟩
     simp only [fillAll_nil, fillAll_cons, zX, zU, sset_nil, sset_cons, rset_bx, rset_hl, List.set_cons_succ, List.set_cons_zero, Nat.reduceEqDiff, reduceIte, spsH_get, spsH_set]
     with_reducible refine hstop ?_; simp (maxSteps := 2000000) (disch := omega) only [push_cast, ↓Int.cast_ofNat_Int, Nat.reduceBEq, Nat.reduceAdd, Nat.reduceLT, Nat.reduceEqDiff, reduceIte, reduceCtorEq, Nat.reduceLeDiff, Nat.reduceSub, List.reduceReplicate, Nat.reduceMul, Int.reduceToNat, Int.toNat_natCast, Nat.reducePow, reduceIte, spsH_n, spsH_get, spsH_set]
     refine hK _ ?_; clear hK K
     (repeat first | refine zK ?_ | refine zG ?_ | refine zH ?_ | refine zF rfl ?_ | refine zL ?_ | refine zB ?_ | refine zE ?_ | refine zA ?_ | refine zC ?_ | refine zT ?_ | refine zW ?_)
     (repeat first | refine zE ?_ | refine zA ?_ | refine zC ?_ | refine zB ?_ | refine zD ?_)
     refine HW_sl 9000 (sps (u ++ [⟨l'.a0, p, l'.b0, q⟩])) (spsH_eq u ⟨l'.a0, p, l'.b0, q⟩).symm rfl (by simp only [sset_nil, sset_cons, Nat.reduceEqDiff, reduceIte]; exact rfl) ?_
     (repeat first | refine zE ?_ | refine zA ?_ | refine zC ?_ | refine zB ?_ | refine zD ?_); refine HW_drw 14 mixed (by kernel_rfl) (fun K hK => ?_); simp (maxSteps := 2000000) (disch := omega) only [push_cast, ↓Int.cast_ofNat_Int, Nat.reduceBEq, Nat.reduceAdd, Nat.reduceLT, Nat.reduceEqDiff, reduceIte, reduceCtorEq, Nat.reduceLeDiff, Nat.reduceSub, List.reduceReplicate, Nat.reduceMul, Int.reduceToNat, Int.toNat_natCast, Nat.reducePow, reduceIte, pcast_len, int2s_wid, hge]
     with_reducible refine hstop ?_; simp (maxSteps := 2000000) (disch := omega) only [push_cast, ↓Int.cast_ofNat_Int, Nat.reduceBEq, Nat.reduceAdd, Nat.reduceLT, Nat.reduceEqDiff, reduceIte, reduceCtorEq, Nat.reduceLeDiff, Nat.reduceSub, List.reduceReplicate, Nat.reduceMul, Int.reduceToNat, Int.toNat_natCast, Nat.reducePow, reduceIte]
     refine hK _ ?_; clear hK K
     (repeat first | refine zK ?_ | refine zG ?_ | refine zH ?_ | refine zF rfl ?_ | refine zL ?_ | refine zB ?_ | refine zE ?_ | refine zA ?_ | refine zC ?_ | refine zT ?_ | refine zW ?_)
     (repeat first | refine zE ?_ | refine zA ?_ | refine zC ?_ | refine zB ?_ | refine zD ?_); refine zJ (fun K hK => ?_); simp (maxSteps := 2000000) (disch := omega) only [push_cast, ↓Int.cast_ofNat_Int, Nat.reduceBEq, Nat.reduceAdd, Nat.reduceLT, Nat.reduceEqDiff, reduceIte, reduceCtorEq, Nat.reduceLeDiff, Nat.reduceSub, List.reduceReplicate, Nat.reduceMul, Int.reduceToNat, Int.toNat_natCast, Nat.reducePow, reduceIte]; refine hK _ ?_; clear hK K
     (repeat first | refine zK ?_ | refine zG ?_ | refine zH ?_ | refine zF rfl ?_ | refine zL ?_ | refine zB ?_ | refine zE ?_ | refine zA ?_ | refine zC ?_ | refine zT ?_ | refine zW ?_)
     exact ⟨(n + 1, p + 1, q + 1, u ++ [⟨l'.a0, p, l'.b0, q⟩]), by simp only [zZ, zR, zP, zQ, zN, zS, zM, zX, zU, Nat.reduceEqDiff, reduceIte]; rfl, ⟨hnl, by dsimp only; omega, by dsimp only; omega, hfl, hfin, hF⟩, by dsimp only; omega⟩
    ·rw [if_neg hgg] at hF hfin hfl
     have e1 : decide ((i : Int) - (l'.a1 : Int) ≤ (g : Int)) = false := decide_eq_false (by omega)
     (repeat first | refine zE ?_ | refine zA ?_ | refine zC ?_ | refine zB ?_ | refine zD ?_); refine zJ (fun K hK => ?_); simp (maxSteps := 2000000) (disch := omega) only [push_cast, ↓Int.cast_ofNat_Int, Nat.reduceBEq, Nat.reduceAdd, Nat.reduceLT, Nat.reduceEqDiff, reduceIte, reduceCtorEq, Nat.reduceLeDiff, Nat.reduceSub, List.reduceReplicate, Nat.reduceMul, Int.reduceToNat, Int.toNat_natCast, Nat.reducePow, reduceIte, sps_len, sps_wid, sps_last, e1]; refine hK _ ?_; clear hK K
     (repeat first | refine zE ?_ | refine zA ?_ | refine zC ?_ | refine zB ?_ | refine zD ?_)
     refine yC rfl ?_
     (repeat first | refine zE ?_ | refine zA ?_ | refine zC ?_ | refine zB ?_ | refine zD ?_); refine HW_drwR2 15 mixed (by kernel_rfl) (fun K hK K1 hK1 => ?_); simp (maxSteps := 2000000) (disch := omega) only [push_cast, ↓Int.cast_ofNat_Int, Nat.reduceBEq, Nat.reduceAdd, Nat.reduceLT, Nat.reduceEqDiff, reduceIte, reduceCtorEq, Nat.reduceLeDiff, Nat.reduceSub, List.reduceReplicate, Nat.reduceMul, Int.reduceToNat, Int.toNat_natCast, Nat.reducePow, reduceIte, pcast_len, int2s_wid, hge]
     refine hK1 _ ?_; (try clear hK1 K1); with_reducible refine hstop ?_; simp (maxSteps := 2000000) (disch := omega) only [push_cast, ↓Int.cast_ofNat_Int, Nat.reduceBEq, Nat.reduceAdd, Nat.reduceLT, Nat.reduceEqDiff, reduceIte, reduceCtorEq, Nat.reduceLeDiff, Nat.reduceSub, List.reduceReplicate, Nat.reduceMul, Int.reduceToNat, Int.toNat_natCast, Nat.reducePow, reduceIte, sps_len, sps_snoc]
     refine ⟨fun x hx => by rw [List.mem_singleton.1 hx]; rfl, ?_⟩
     refine hK _ ?_; clear hK K
     (repeat first | refine zK ?_ | refine zG ?_ | refine zH ?_ | refine zF rfl ?_ | refine zL ?_ | refine zB ?_ | refine zE ?_ | refine zA ?_ | refine zC ?_ | refine zT ?_ | refine zW ?_)
     (repeat first | refine zE ?_ | refine zA ?_ | refine zC ?_ | refine zB ?_ | refine zD ?_); refine HW_drw 14 mixed (by kernel_rfl) (fun K hK => ?_); simp (maxSteps := 2000000) (disch := omega) only [push_cast, ↓Int.cast_ofNat_Int, Nat.reduceBEq, Nat.reduceAdd, Nat.reduceLT, Nat.reduceEqDiff, reduceIte, reduceCtorEq, Nat.reduceLeDiff, Nat.reduceSub, List.reduceReplicate, Nat.reduceMul, Int.reduceToNat, Int.toNat_natCast, Nat.reducePow, reduceIte, pcast_len, int2s_wid, hge]
     with_reducible refine hstop ?_; simp (maxSteps := 2000000) (disch := omega) only [push_cast, ↓Int.cast_ofNat_Int, Nat.reduceBEq, Nat.reduceAdd, Nat.reduceLT, Nat.reduceEqDiff, reduceIte, reduceCtorEq, Nat.reduceLeDiff, Nat.reduceSub, List.reduceReplicate, Nat.reduceMul, Int.reduceToNat, Int.toNat_natCast, Nat.reducePow, reduceIte]
     refine hK _ ?_; clear hK K
     (repeat first | refine zK ?_ | refine zG ?_ | refine zH ?_ | refine zF rfl ?_ | refine zL ?_ | refine zB ?_ | refine zE ?_ | refine zA ?_ | refine zC ?_ | refine zT ?_ | refine zW ?_)
     (repeat first | refine zE ?_ | refine zA ?_ | refine zC ?_ | refine zB ?_ | refine zD ?_); refine zJ (fun K hK => ?_); simp (maxSteps := 2000000) (disch := omega) only [push_cast, ↓Int.cast_ofNat_Int, Nat.reduceBEq, Nat.reduceAdd, Nat.reduceLT, Nat.reduceEqDiff, reduceIte, reduceCtorEq, Nat.reduceLeDiff, Nat.reduceSub, List.reduceReplicate, Nat.reduceMul, Int.reduceToNat, Int.toNat_natCast, Nat.reducePow, reduceIte]; refine hK _ ?_; clear hK K
     (repeat first | refine zK ?_ | refine zG ?_ | refine zH ?_ | refine zF rfl ?_ | refine zL ?_ | refine zB ?_ | refine zE ?_ | refine zA ?_ | refine zC ?_ | refine zT ?_ | refine zW ?_)
     exact ⟨(n + 1, p + 1, q + 1, u ++ [l', ⟨i, p, j, q⟩]), by simp only [zZ, zR, zP, zQ, zN, zS, zM, zX, zU, Nat.reduceEqDiff, reduceIte]; rw [show (u ++ [l', ⟨i, p, j, q⟩] : List Sp) = (u ++ [l']) ++ [⟨i, p, j, q⟩] by simp]; rfl, ⟨hnl, by dsimp only; omega, by dsimp only; omega, hfl, hfin, hF⟩, by dsimp only; omega⟩
  ·have e0 : decide ((i : Int) < (p : Int)) = false := decide_eq_false (by omega)
   by_cases hjq : j < q
   ·have e2 : decide ((j : Int) < (q : Int)) = true := decide_eq_true (by omega)
    (repeat first | refine zE ?_ | refine zA ?_ | refine zC ?_ | refine zB ?_ | refine zD ?_); refine zJ (fun K hK => ?_); simp (maxSteps := 2000000) (disch := omega) only [push_cast, ↓Int.cast_ofNat_Int, Nat.reduceBEq, Nat.reduceAdd, Nat.reduceLT, Nat.reduceEqDiff, reduceIte, reduceCtorEq, Nat.reduceLeDiff, Nat.reduceSub, List.reduceReplicate, Nat.reduceMul, Int.reduceToNat, Int.toNat_natCast, Nat.reducePow, reduceIte, pcast_len, int2s_wid, hge, e0, e2]; refine hK _ ?_; clear hK K
    have hgap : i < p ∨ j < q := by omega
    rw [if_pos hgap] at hF
    have hfl : (addSp g out ⟨i, p, j, q⟩).length ≤ n + 1 := by
     rcases List.eq_nil_or_concat out with rfl | ⟨u, l', rfl⟩
     ·simp [addSp]
     ·rw [List.concat_eq_append] at hac ⊢
      rw [addSp_snoc]; simp only [List.length_append, List.length_singleton] at hac; split <;> simp <;> omega
    have hfin : ∀ s ∈ addSp g out ⟨i, p, j, q⟩, s.a1 ≤ 401 := by
     rcases List.eq_nil_or_concat out with rfl | ⟨u, l', rfl⟩
     ·intro s hs; simp [addSp] at hs; subst hs; dsimp only; omega
     ·rw [List.concat_eq_append] at hbd ⊢
      rw [addSp_snoc]
      have hl' := hbd l' (by simp)
      intro s hs
      split at hs
      ·rcases List.mem_append.1 hs with h | h
       ·exact hbd s (by simp [h])
       ·simp at h; subst h; dsimp only; omega
      ·rcases List.mem_append.1 hs with h | h
       ·exact hbd s (by simp [h])
       ·simp at h
        rcases h with rfl | rfl
        ·exact hl'
        ·dsimp only; omega
    (repeat first | refine zE ?_ | refine zA ?_ | refine zC ?_ | refine zB ?_ | refine zD ?_)
    refine yD rfl ?_
    (repeat first | refine zE ?_ | refine zA ?_ | refine zC ?_ | refine zB ?_ | refine zD ?_)
    (repeat first | refine zE ?_ | refine zA ?_ | refine zC ?_ | refine zB ?_ | refine zD ?_); refine zJ (fun K hK => ?_); simp (maxSteps := 2000000) (disch := omega) only [push_cast, ↓Int.cast_ofNat_Int, Nat.reduceBEq, Nat.reduceAdd, Nat.reduceLT, Nat.reduceEqDiff, reduceIte, reduceCtorEq, Nat.reduceLeDiff, Nat.reduceSub, List.reduceReplicate, Nat.reduceMul, Int.reduceToNat, Int.toNat_natCast, Nat.reducePow, reduceIte, sps_len]; refine hK _ ?_; clear hK K
    rcases List.eq_nil_or_concat out with rfl | ⟨u, l', rfl⟩
    ·(repeat first | refine zE ?_ | refine zA ?_ | refine zC ?_ | refine zB ?_ | refine zD ?_); refine zJ (fun K hK => ?_); simp (maxSteps := 2000000) (disch := omega) only [push_cast, ↓Int.cast_ofNat_Int, Nat.reduceBEq, Nat.reduceAdd, Nat.reduceLT, Nat.reduceEqDiff, reduceIte, reduceCtorEq, Nat.reduceLeDiff, Nat.reduceSub, List.reduceReplicate, Nat.reduceMul, Int.reduceToNat, Int.toNat_natCast, Nat.reducePow, reduceIte, sps_len]; refine hK _ ?_; clear hK K
     (repeat first | refine zE ?_ | refine zA ?_ | refine zC ?_ | refine zB ?_ | refine zD ?_)
     refine yC rfl ?_
     (repeat first | refine zE ?_ | refine zA ?_ | refine zC ?_ | refine zB ?_ | refine zD ?_); refine HW_drwR2 15 mixed (by kernel_rfl) (fun K hK K1 hK1 => ?_); simp (maxSteps := 2000000) (disch := omega) only [push_cast, ↓Int.cast_ofNat_Int, Nat.reduceBEq, Nat.reduceAdd, Nat.reduceLT, Nat.reduceEqDiff, reduceIte, reduceCtorEq, Nat.reduceLeDiff, Nat.reduceSub, List.reduceReplicate, Nat.reduceMul, Int.reduceToNat, Int.toNat_natCast, Nat.reducePow, reduceIte, pcast_len, int2s_wid, hge]
     refine hK1 _ ?_; (try clear hK1 K1); with_reducible refine hstop ?_; simp (maxSteps := 2000000) (disch := omega) only [push_cast, ↓Int.cast_ofNat_Int, Nat.reduceBEq, Nat.reduceAdd, Nat.reduceLT, Nat.reduceEqDiff, reduceIte, reduceCtorEq, Nat.reduceLeDiff, Nat.reduceSub, List.reduceReplicate, Nat.reduceMul, Int.reduceToNat, Int.toNat_natCast, Nat.reducePow, reduceIte, sps_len, sps_snoc]
     refine ⟨fun x hx => by rw [List.mem_singleton.1 hx]; rfl, ?_⟩
     refine hK _ ?_; clear hK K
     (repeat first | refine zK ?_ | refine zG ?_ | refine zH ?_ | refine zF rfl ?_ | refine zL ?_ | refine zB ?_ | refine zE ?_ | refine zA ?_ | refine zC ?_ | refine zT ?_ | refine zW ?_)
     (repeat first | refine zE ?_ | refine zA ?_ | refine zC ?_ | refine zB ?_ | refine zD ?_); refine HW_drw 14 mixed (by kernel_rfl) (fun K hK => ?_); simp (maxSteps := 2000000) (disch := omega) only [push_cast, ↓Int.cast_ofNat_Int, Nat.reduceBEq, Nat.reduceAdd, Nat.reduceLT, Nat.reduceEqDiff, reduceIte, reduceCtorEq, Nat.reduceLeDiff, Nat.reduceSub, List.reduceReplicate, Nat.reduceMul, Int.reduceToNat, Int.toNat_natCast, Nat.reducePow, reduceIte, pcast_len, int2s_wid, hge]
     with_reducible refine hstop ?_; simp (maxSteps := 2000000) (disch := omega) only [push_cast, ↓Int.cast_ofNat_Int, Nat.reduceBEq, Nat.reduceAdd, Nat.reduceLT, Nat.reduceEqDiff, reduceIte, reduceCtorEq, Nat.reduceLeDiff, Nat.reduceSub, List.reduceReplicate, Nat.reduceMul, Int.reduceToNat, Int.toNat_natCast, Nat.reducePow, reduceIte]
     refine hK _ ?_; clear hK K
     (repeat first | refine zK ?_ | refine zG ?_ | refine zH ?_ | refine zF rfl ?_ | refine zL ?_ | refine zB ?_ | refine zE ?_ | refine zA ?_ | refine zC ?_ | refine zT ?_ | refine zW ?_)
     (repeat first | refine zE ?_ | refine zA ?_ | refine zC ?_ | refine zB ?_ | refine zD ?_); refine zJ (fun K hK => ?_); simp (maxSteps := 2000000) (disch := omega) only [push_cast, ↓Int.cast_ofNat_Int, Nat.reduceBEq, Nat.reduceAdd, Nat.reduceLT, Nat.reduceEqDiff, reduceIte, reduceCtorEq, Nat.reduceLeDiff, Nat.reduceSub, List.reduceReplicate, Nat.reduceMul, Int.reduceToNat, Int.toNat_natCast, Nat.reducePow, reduceIte]; refine hK _ ?_; clear hK K
     (repeat first | refine zK ?_ | refine zG ?_ | refine zH ?_ | refine zF rfl ?_ | refine zL ?_ | refine zB ?_ | refine zE ?_ | refine zA ?_ | refine zC ?_ | refine zT ?_ | refine zW ?_)
     exact ⟨(n + 1, p + 1, q + 1, addSp g [] ⟨i, p, j, q⟩), by simp only [zZ, zR, zP, zQ, zN, zS, zM, zX, zU, Nat.reduceEqDiff, reduceIte]; rfl, ⟨hnl, by dsimp only; omega, by dsimp only; omega, hfl, hfin, hF⟩, by dsimp only; omega⟩
    ·rw [List.concat_eq_append] at hbd hac hF hfin hfl ⊢
     have hl' := hbd l' (by simp)
     have hql : ((((u ++ [l']).length : Nat) : Int) - 1) = (u.length : Int) := by simp
     rw [hql]
     rw [addSp_snoc] at hF hfin hfl
     dsimp only at hF hfin hfl
     by_cases hgg : i - l'.a1 ≤ g
     ·rw [if_pos hgg] at hF hfin hfl
      have e1 : decide ((i : Int) - (l'.a1 : Int) ≤ (g : Int)) = true := decide_eq_true (by omega)
      (repeat first | refine zE ?_ | refine zA ?_ | refine zC ?_ | refine zB ?_ | refine zD ?_); refine zJ (fun K hK => ?_); simp (maxSteps := 2000000) (disch := omega) only [push_cast, ↓Int.cast_ofNat_Int, Nat.reduceBEq, Nat.reduceAdd, Nat.reduceLT, Nat.reduceEqDiff, reduceIte, reduceCtorEq, Nat.reduceLeDiff, Nat.reduceSub, List.reduceReplicate, Nat.reduceMul, Int.reduceToNat, Int.toNat_natCast, Nat.reducePow, reduceIte, sps_len, sps_wid, sps_last, e1]; refine hK _ ?_; clear hK K
      (repeat first | refine zE ?_ | refine zA ?_ | refine zC ?_ | refine zB ?_ | refine zD ?_)
      refine yD rfl ?_
      refine yB [0, 1, 2, 7, 9, 10, 11, 12, 13] [136, 9000] (by simp only [zZ, zR, zP, zQ, zN, zS, zM, zX, zU, Nat.reduceEqDiff, reduceIte]; exact rfl) ?_
      (repeat first | refine zE ?_ | refine zA ?_ | refine zC ?_ | refine zB ?_ | refine zD ?_)
      refine HW_hl 9000 rfl (by simp only [sset_nil, sset_cons, List.map_cons, List.map_nil, fh_v, fh_lst, Nat.reduceEqDiff, reduceIte, spsH_eq]; exact rfl) ?_
      (repeat first | refine zE ?_ | refine zA ?_ | refine zC ?_ | refine zB ?_ | refine zD ?_); refine HW_drwP 18 [(9000, u.length, 1)] mixed (by kernel_rfl) (by simp only [junkAll_nil, junkAll_cons, rset_bx, rset_hl, zX, zU, sset_nil, sset_cons, List.set_cons_succ, List.set_cons_zero, Nat.reduceEqDiff, reduceIte, spsH_n, spsH_get, spsH_set, pcast_len, int2s_wid, hge]; exact rfl) (fun K hK => ?_); simp (maxSteps := 2000000) (disch := omega) only [push_cast, ↓Int.cast_ofNat_Int, Nat.reduceBEq, Nat.reduceAdd, Nat.reduceLT, Nat.reduceEqDiff, reduceIte, reduceCtorEq, Nat.reduceLeDiff, Nat.reduceSub, List.reduceReplicate, Nat.reduceMul, Int.reduceToNat, Int.toNat_natCast, Nat.reducePow, reduceIte, hvp_nil, hvp_cons, hStoreP_eq, hStoreP2_eq, inB, rset_bx, rset_hl, List.set_cons_succ, List.set_cons_zero, storeOf_store, storeOf_move, storeOf_assign, storeOf_pick, storeOf_extract, storeOf_field, storeOf_faddr, storeOf_nilc, storeOf_iaddr, storeOf_slice, storeOf_load, storeOf_build, storeOf_bin, storeOf_un, storeOf_conv, storeOf_index, storeOf_call, storeOf_alloc, storeOf_box, storeOf_make, storeOf_buildS, spsH_n, spsH_get, spsH_set, pcast_len, int2s_wid, hge]
      refine ⟨⟨by omega, fun _ h => by cases h⟩, hstop ?_⟩
      simp only [fillAll_nil, fillAll_cons, zX, zU, sset_nil, sset_cons, rset_bx, rset_hl, List.set_cons_succ, List.set_cons_zero, Nat.reduceEqDiff, reduceIte, spsH_get, spsH_set]
      with_reducible refine hstop ?_; simp (maxSteps := 2000000) (disch := omega) only [push_cast, ↓Int.cast_ofNat_Int, Nat.reduceBEq, Nat.reduceAdd, Nat.reduceLT, Nat.reduceEqDiff, reduceIte, reduceCtorEq, Nat.reduceLeDiff, Nat.reduceSub, List.reduceReplicate, Nat.reduceMul, Int.reduceToNat, Int.toNat_natCast, Nat.reducePow, reduceIte, spsH_n, spsH_get, spsH_set]
      refine hK _ ?_; clear hK K
      (repeat first | refine zK ?_ | refine zG ?_ | refine zH ?_ | refine zF rfl ?_ | refine zL ?_ | refine zB ?_ | refine zE ?_ | refine zA ?_ | refine zC ?_ | refine zT ?_ | refine zW ?_)
      (repeat first | refine zE ?_ | refine zA ?_ | refine zC ?_ | refine zB ?_ | refine zD ?_)
      refine HW_sl 9000 (sps (u ++ [⟨l'.a0, p, l'.b0, q⟩])) (spsH_eq u ⟨l'.a0, p, l'.b0, q⟩).symm rfl (by simp only [sset_nil, sset_cons, Nat.reduceEqDiff, reduceIte]; exact rfl) ?_
      (repeat first | refine zE ?_ | refine zA ?_ | refine zC ?_ | refine zB ?_ | refine zD ?_); refine HW_drw 14 mixed (by kernel_rfl) (fun K hK => ?_); simp (maxSteps := 2000000) (disch := omega) only [push_cast, ↓Int.cast_ofNat_Int, Nat.reduceBEq, Nat.reduceAdd, Nat.reduceLT, Nat.reduceEqDiff, reduceIte, reduceCtorEq, Nat.reduceLeDiff, Nat.reduceSub, List.reduceReplicate, Nat.reduceMul, Int.reduceToNat, Int.toNat_natCast, Nat.reducePow, reduceIte, pcast_len, int2s_wid, hge]
      with_reducible refine hstop ?_; simp (maxSteps := 2000000) (disch := omega) only [push_cast, ↓Int.cast_ofNat_Int, Nat.reduceBEq, Nat.reduceAdd, Nat.reduceLT, Nat.reduceEqDiff, reduceIte, reduceCtorEq, Nat.reduceLeDiff, Nat.reduceSub, List.reduceReplicate, Nat.reduceMul, Int.reduceToNat, Int.toNat_natCast, Nat.reducePow, reduceIte]
      refine hK _ ?_; clear hK K
      (repeat first | refine zK ?_ | refine zG ?_ | refine zH ?_ | refine zF rfl ?_ | refine zL ?_ | refine zB ?_ | refine zE ?_ | refine zA ?_ | refine zC ?_ | refine zT ?_ | refine zW ?_)
      (repeat first | refine zE ?_ | refine zA ?_ | refine zC ?_ | refine zB ?_ | refine zD ?_); refine zJ (fun K hK => ?_); simp (maxSteps := 2000000) (disch := omega) only [push_cast, ↓Int.cast_ofNat_Int, Nat.reduceBEq, Nat.reduceAdd, Nat.reduceLT, Nat.reduceEqDiff, reduceIte, reduceCtorEq, Nat.reduceLeDiff, Nat.reduceSub, List.reduceReplicate, Nat.reduceMul, Int.reduceToNat, Int.toNat_natCast, Nat.reducePow, reduceIte]; refine hK _ ?_; clear hK K
      (repeat first | refine zK ?_ | refine zG ?_ | refine zH ?_ | refine zF rfl ?_ | refine zL ?_ | refine zB ?_ | refine zE ?_ | refine zA ?_ | refine zC ?_ | refine zT ?_ | refine zW ?_)
      exact ⟨(n + 1, p + 1, q + 1, u ++ [⟨l'.a0, p, l'.b0, q⟩]), by simp only [zZ, zR, zP, zQ, zN, zS, zM, zX, zU, Nat.reduceEqDiff, reduceIte]; rfl, ⟨hnl, by dsimp only; omega, by dsimp only; omega, hfl, hfin, hF⟩, by dsimp only; omega⟩
     ·rw [if_neg hgg] at hF hfin hfl
      have e1 : decide ((i : Int) - (l'.a1 : Int) ≤ (g : Int)) = false := decide_eq_false (by omega)
      (repeat first | refine zE ?_ | refine zA ?_ | refine zC ?_ | refine zB ?_ | refine zD ?_); refine zJ (fun K hK => ?_); simp (maxSteps := 2000000) (disch := omega) only [push_cast, ↓Int.cast_ofNat_Int, Nat.reduceBEq, Nat.reduceAdd, Nat.reduceLT, Nat.reduceEqDiff, reduceIte, reduceCtorEq, Nat.reduceLeDiff, Nat.reduceSub, List.reduceReplicate, Nat.reduceMul, Int.reduceToNat, Int.toNat_natCast, Nat.reducePow, reduceIte, sps_len, sps_wid, sps_last, e1]; refine hK _ ?_; clear hK K
      (repeat first | refine zE ?_ | refine zA ?_ | refine zC ?_ | refine zB ?_ | refine zD ?_)
      refine yC rfl ?_
      (repeat first | refine zE ?_ | refine zA ?_ | refine zC ?_ | refine zB ?_ | refine zD ?_); refine HW_drwR2 15 mixed (by kernel_rfl) (fun K hK K1 hK1 => ?_); simp (maxSteps := 2000000) (disch := omega) only [push_cast, ↓Int.cast_ofNat_Int, Nat.reduceBEq, Nat.reduceAdd, Nat.reduceLT, Nat.reduceEqDiff, reduceIte, reduceCtorEq, Nat.reduceLeDiff, Nat.reduceSub, List.reduceReplicate, Nat.reduceMul, Int.reduceToNat, Int.toNat_natCast, Nat.reducePow, reduceIte, pcast_len, int2s_wid, hge]
      refine hK1 _ ?_; (try clear hK1 K1); with_reducible refine hstop ?_; simp (maxSteps := 2000000) (disch := omega) only [push_cast, ↓Int.cast_ofNat_Int, Nat.reduceBEq, Nat.reduceAdd, Nat.reduceLT, Nat.reduceEqDiff, reduceIte, reduceCtorEq, Nat.reduceLeDiff, Nat.reduceSub, List.reduceReplicate, Nat.reduceMul, Int.reduceToNat, Int.toNat_natCast, Nat.reducePow, reduceIte, sps_len, sps_snoc]
      refine ⟨fun x hx => by rw [List.mem_singleton.1 hx]; rfl, ?_⟩
      refine hK _ ?_; clear hK K
      (repeat first | refine zK ?_ | refine zG ?_ | refine zH ?_ | refine zF rfl ?_ | refine zL ?_ | refine zB ?_ | refine zE ?_ | refine zA ?_ | refine zC ?_ | refine zT ?_ | refine zW ?_)
      (repeat first | refine zE ?_ | refine zA ?_ | refine zC ?_ | refine zB ?_ | refine zD ?_); refine HW_drw 14 mixed (by kernel_rfl) (fun K hK => ?_); simp (maxSteps := 2000000) (disch := omega) only [push_cast, ↓Int.cast_ofNat_Int, Nat.reduceBEq, Nat.reduceAdd, Nat.reduceLT, Nat.reduceEqDiff, reduceIte, reduceCtorEq, Nat.reduceLeDiff, Nat.reduceSub, List.reduceReplicate, Nat.reduceMul, Int.reduceToNat, Int.toNat_natCast, Nat.reducePow, reduceIte, pcast_len, int2s_wid, hge]
      with_reducible refine hstop ?_; simp (maxSteps := 2000000) (disch := omega) only [push_cast, ↓Int.cast_ofNat_Int, Nat.reduceBEq, Nat.reduceAdd, Nat.reduceLT, Nat.reduceEqDiff, reduceIte, reduceCtorEq, Nat.reduceLeDiff, Nat.reduceSub, List.reduceReplicate, Nat.reduceMul, Int.reduceToNat, Int.toNat_natCast, Nat.reducePow, reduceIte]
      refine hK _ ?_; clear hK K
      (repeat first | refine zK ?_ | refine zG ?_ | refine zH ?_ | refine zF rfl ?_ | refine zL ?_ | refine zB ?_ | refine zE ?_ | refine zA ?_ | refine zC ?_ | refine zT ?_ | refine zW ?_)
      (repeat first | refine zE ?_ | refine zA ?_ | refine zC ?_ | refine zB ?_ | refine zD ?_); refine zJ (fun K hK => ?_); simp (maxSteps := 2000000) (disch := omega) only [push_cast, ↓Int.cast_ofNat_Int, Nat.reduceBEq, Nat.reduceAdd, Nat.reduceLT, Nat.reduceEqDiff, reduceIte, reduceCtorEq, Nat.reduceLeDiff, Nat.reduceSub, List.reduceReplicate, Nat.reduceMul, Int.reduceToNat, Int.toNat_natCast, Nat.reducePow, reduceIte]; refine hK _ ?_; clear hK K
      (repeat first | refine zK ?_ | refine zG ?_ | refine zH ?_ | refine zF rfl ?_ | refine zL ?_ | refine zB ?_ | refine zE ?_ | refine zA ?_ | refine zC ?_ | refine zT ?_ | refine zW ?_)
      exact ⟨(n + 1, p + 1, q + 1, u ++ [l', ⟨i, p, j, q⟩]), by simp only [zZ, zR, zP, zQ, zN, zS, zM, zX, zU, Nat.reduceEqDiff, reduceIte]; rw [show (u ++ [l', ⟨i, p, j, q⟩] : List Sp) = (u ++ [l']) ++ [⟨i, p, j, q⟩] by simp]; rfl, ⟨hnl, by dsimp only; omega, by dsimp only; omega, hfl, hfin, hF⟩, by dsimp only; omega⟩
   ·have e2 : decide ((j : Int) < (q : Int)) = false := decide_eq_false (by omega)
    rw [if_neg (by omega)] at hF
    (repeat first | refine zE ?_ | refine zA ?_ | refine zC ?_ | refine zB ?_ | refine zD ?_); refine zJ (fun K hK => ?_); simp (maxSteps := 2000000) (disch := omega) only [push_cast, ↓Int.cast_ofNat_Int, Nat.reduceBEq, Nat.reduceAdd, Nat.reduceLT, Nat.reduceEqDiff, reduceIte, reduceCtorEq, Nat.reduceLeDiff, Nat.reduceSub, List.reduceReplicate, Nat.reduceMul, Int.reduceToNat, Int.toNat_natCast, Nat.reducePow, reduceIte, pcast_len, int2s_wid, hge, e0, e2]; refine hK _ ?_; clear hK K
    (repeat first | refine zE ?_ | refine zA ?_ | refine zC ?_ | refine zB ?_ | refine zD ?_)
    refine yC rfl ?_
    (repeat first | refine zE ?_ | refine zA ?_ | refine zC ?_ | refine zB ?_ | refine zD ?_)
    (repeat first | refine zE ?_ | refine zA ?_ | refine zC ?_ | refine zB ?_ | refine zD ?_); refine HW_drw 14 mixed (by kernel_rfl) (fun K hK => ?_); simp (maxSteps := 2000000) (disch := omega) only [push_cast, ↓Int.cast_ofNat_Int, Nat.reduceBEq, Nat.reduceAdd, Nat.reduceLT, Nat.reduceEqDiff, reduceIte, reduceCtorEq, Nat.reduceLeDiff, Nat.reduceSub, List.reduceReplicate, Nat.reduceMul, Int.reduceToNat, Int.toNat_natCast, Nat.reducePow, reduceIte, pcast_len, int2s_wid, hge]
    with_reducible refine hstop ?_; simp (maxSteps := 2000000) (disch := omega) only [push_cast, ↓Int.cast_ofNat_Int, Nat.reduceBEq, Nat.reduceAdd, Nat.reduceLT, Nat.reduceEqDiff, reduceIte, reduceCtorEq, Nat.reduceLeDiff, Nat.reduceSub, List.reduceReplicate, Nat.reduceMul, Int.reduceToNat, Int.toNat_natCast, Nat.reducePow, reduceIte]
    refine hK _ ?_; clear hK K
    (repeat first | refine zK ?_ | refine zG ?_ | refine zH ?_ | refine zF rfl ?_ | refine zL ?_ | refine zB ?_ | refine zE ?_ | refine zA ?_ | refine zC ?_ | refine zT ?_ | refine zW ?_)
    (repeat first | refine zE ?_ | refine zA ?_ | refine zC ?_ | refine zB ?_ | refine zD ?_); refine zJ (fun K hK => ?_); simp (maxSteps := 2000000) (disch := omega) only [push_cast, ↓Int.cast_ofNat_Int, Nat.reduceBEq, Nat.reduceAdd, Nat.reduceLT, Nat.reduceEqDiff, reduceIte, reduceCtorEq, Nat.reduceLeDiff, Nat.reduceSub, List.reduceReplicate, Nat.reduceMul, Int.reduceToNat, Int.toNat_natCast, Nat.reducePow, reduceIte]; refine hK _ ?_; clear hK K
    (repeat first | refine zK ?_ | refine zG ?_ | refine zH ?_ | refine zF rfl ?_ | refine zL ?_ | refine zB ?_ | refine zE ?_ | refine zA ?_ | refine zC ?_ | refine zT ?_ | refine zW ?_)
    exact ⟨(n + 1, p + 1, q + 1, out), by simp only [zZ, zR, zP, zQ, zN, zS, zM, zX, zU, Nat.reduceEqDiff, reduceIte]; rfl, ⟨hnl, by dsimp only; omega, by dsimp only; omega, by dsimp only; omega, hbd, hF⟩, by dsimp only; omega⟩
 ·have hne : n = K.length := by omega
  rw [hne, List.drop_length, gapF] at hF
  (repeat first | refine zE ?_ | refine zA ?_ | refine zC ?_ | refine zB ?_ | refine zD ?_); refine zJ (fun K hK => ?_); simp (maxSteps := 2000000) (disch := omega) only [push_cast, ↓Int.cast_ofNat_Int, Nat.reduceBEq, Nat.reduceAdd, Nat.reduceLT, Nat.reduceEqDiff, reduceIte, reduceCtorEq, Nat.reduceLeDiff, Nat.reduceSub, List.reduceReplicate, Nat.reduceMul, Int.reduceToNat, Int.toNat_natCast, Nat.reducePow, reduceIte, pcast_len]; refine hK _ ?_; clear hK K
  (repeat first | refine zE ?_ | refine zA ?_ | refine zC ?_ | refine zB ?_ | refine zD ?_)
  refine yC rfl ?_
  (repeat first | refine zK ?_ | refine zG ?_ | refine zH ?_ | refine zF rfl ?_ | refine zL ?_ | refine zB ?_ | refine zE ?_ | refine zA ?_ | refine zC ?_ | refine zT ?_ | refine zW ?_)
  (repeat first | refine zE ?_ | refine zA ?_ | refine zC ?_ | refine zB ?_ | refine zD ?_); refine zJ (fun K hK => ?_); simp (maxSteps := 2000000) (disch := omega) only [push_cast, ↓Int.cast_ofNat_Int, Nat.reduceBEq, Nat.reduceAdd, Nat.reduceLT, Nat.reduceEqDiff, reduceIte, reduceCtorEq, Nat.reduceLeDiff, Nat.reduceSub, List.reduceReplicate, Nat.reduceMul, Int.reduceToNat, Int.toNat_natCast, Nat.reducePow, reduceIte]; refine hK _ ?_; clear hK K
  (repeat first | refine zK ?_ | refine zG ?_ | refine zH ?_ | refine zF rfl ?_ | refine zL ?_ | refine zB ?_ | refine zE ?_ | refine zA ?_ | refine zC ?_ | refine zT ?_ | refine zW ?_)
  simp only [yA, yM, yH, yE, resH_cell, resC_go, yK, yJ, zS, zM, Nat.reduceEqDiff, reduceIte, reduceCtorEq]
  rw [← hF]
  exact hres_o rfl (fun x hx f hf => by
   obtain ⟨s, -, rfl⟩ := List.mem_map.1 hx
   simp only [spE, List.mem_cons, List.not_mem_nil, or_false] at hf
   rcases hf with rfl | rfl | rfl | rfl <;> exact .v _) ⟨rfl, rfl⟩
end Go.Proofs.Ytfojmpimnidmkaa
