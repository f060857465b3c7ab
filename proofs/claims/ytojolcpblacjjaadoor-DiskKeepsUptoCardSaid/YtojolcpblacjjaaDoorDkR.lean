/-
  The disk's call Restart: what was not synced is lost, by chance.
-/
import Derived.Test.YtojolcpblacjjaaDoorDkH
import Derived.Test.YtojolcpblacjjaaDoorDkL
import Derived.Test.YtojolcpblacjjaaDoorItr
set_option linter.unusedSimpArgs false
set_option linter.unusedVariables false
set_option maxRecDepth 20000
namespace Go.Proofs.YtojolcpblacjjaaDoor
open Go Go.Eng Go.RowKit Go.Tr Go.Dk
theorem mix_H (a b : Int) : HFun Tryd.prog 37 [.v (.int .u64 a), .v (.int .u64 b)] (fun h st => h = .v (.int .u64 (mixD a b))) := by
 refine hfun (N := 24) Tryd.func37 rfl Tryd.ntmps37 Tryd.results37 (by simp) ?_
 unfold mixD mixW
 (repeat first | refine zE ?_ | refine zA ?_ | refine zC ?_ | refine zB ?_ | refine zD ?_); refine zJ (fun K hK => ?_); simp (maxSteps := 2000000) (disch := omega) only [push_cast, ↓Int.cast_ofNat_Int, Nat.reduceBEq, Nat.reduceAdd, Nat.reduceLT, Nat.reduceEqDiff, reduceIte, reduceCtorEq, Nat.reduceLeDiff, Nat.reduceSub, List.reduceReplicate, Nat.reduceMul, Int.reduceToNat, Int.toNat_natCast, Nat.reducePow, reduceIte]; refine hK _ ?_; clear hK K
 (repeat first | refine zE ?_ | refine zA ?_ | refine zC ?_ | refine zB ?_ | refine zD ?_); refine zJ (fun K hK => ?_); simp (maxSteps := 2000000) (disch := omega) only [push_cast, ↓Int.cast_ofNat_Int, Nat.reduceBEq, Nat.reduceAdd, Nat.reduceLT, Nat.reduceEqDiff, reduceIte, reduceCtorEq, Nat.reduceLeDiff, Nat.reduceSub, List.reduceReplicate, Nat.reduceMul, Int.reduceToNat, Int.toNat_natCast, Nat.reducePow, reduceIte]; refine hK _ ?_; clear hK K
 generalize IntKind.u64.wrap (a + IntKind.u64.wrap (b * 11400714819323198485)) = x
 (repeat first | refine zE ?_ | refine zA ?_ | refine zC ?_ | refine zB ?_ | refine zD ?_); refine zJ (fun K hK => ?_); simp (maxSteps := 2000000) (disch := omega) only [push_cast, ↓Int.cast_ofNat_Int, Nat.reduceBEq, Nat.reduceAdd, Nat.reduceLT, Nat.reduceEqDiff, reduceIte, reduceCtorEq, Nat.reduceLeDiff, Nat.reduceSub, List.reduceReplicate, Nat.reduceMul, Int.reduceToNat, Int.toNat_natCast, Nat.reducePow, reduceIte]; (repeat refine ⟨by first | omega | decide | ((repeat' apply And.intro) <;> first | omega | decide), ?_⟩); refine hK _ ?_; clear hK K
 refine yB [4, 5] [] (by simp only [zZ, zR, zP, zQ, zN, zS, zM, zX, zU, Nat.reduceEqDiff, reduceIte]; exact rfl) ?_
 generalize IntKind.u64.wrap (bits .xor .u64 x (x.fdiv (2 ^ min 30 IntKind.u64.bits)) * 13787848793156543929) = y
 (repeat first | refine zE ?_ | refine zA ?_ | refine zC ?_ | refine zB ?_ | refine zD ?_); refine zJ (fun K hK => ?_); simp (maxSteps := 2000000) (disch := omega) only [push_cast, ↓Int.cast_ofNat_Int, Nat.reduceBEq, Nat.reduceAdd, Nat.reduceLT, Nat.reduceEqDiff, reduceIte, reduceCtorEq, Nat.reduceLeDiff, Nat.reduceSub, List.reduceReplicate, Nat.reduceMul, Int.reduceToNat, Int.toNat_natCast, Nat.reducePow, reduceIte]; (repeat refine ⟨by first | omega | decide | ((repeat' apply And.intro) <;> first | omega | decide), ?_⟩); refine hK _ ?_; clear hK K
 refine yB [4, 5] [] (by simp only [zZ, zR, zP, zQ, zN, zS, zM, zX, zU, Nat.reduceEqDiff, reduceIte]; exact rfl) ?_
 generalize IntKind.u64.wrap (bits .xor .u64 y (y.fdiv (2 ^ min 27 IntKind.u64.bits)) * 10723151780598845931) = z
 (repeat first | refine zE ?_ | refine zA ?_ | refine zC ?_ | refine zB ?_ | refine zD ?_); refine zJ (fun K hK => ?_); simp (maxSteps := 2000000) (disch := omega) only [push_cast, ↓Int.cast_ofNat_Int, Nat.reduceBEq, Nat.reduceAdd, Nat.reduceLT, Nat.reduceEqDiff, reduceIte, reduceCtorEq, Nat.reduceLeDiff, Nat.reduceSub, List.reduceReplicate, Nat.reduceMul, Int.reduceToNat, Int.toNat_natCast, Nat.reducePow, reduceIte]; (repeat refine ⟨by first | omega | decide | ((repeat' apply And.intro) <;> first | omega | decide), ?_⟩); refine hK _ ?_; clear hK K
 (repeat first | refine zK ?_ | refine zG ?_ | refine zH ?_ | refine zF rfl ?_ | refine zL ?_ | refine zB ?_ | refine zE ?_ | refine zA ?_ | refine zC ?_ | refine zT ?_ | refine zW ?_)
 simp only [yA, yM, yH, yE, resH_cell, resC_go, yK, yJ, zS, zM, Nat.reduceEqDiff, reduceIte, reduceCtorEq]
 exact hres_v rfl
set_option maxHeartbeats 4000000 in
theorem restart_H (d : Dk) (B : Int) (hd : d.Ok B) (hB : B ≤ 1073741824) (hlo : Lo d) (hlen : d.L.length ≤ 1000) (loss : Int) (r1 r2 : Nat) :
  HFunM Tryd.prog 18 [.ptr 0 6 0 0, .v (.int .i64 loss)] [(0, .bx false 45 (d.cells r1 r2))] (d.maps kS r1 r2) (fun h st g => h = .v (.int .i64 0) ∧ st = [(0, .bx false 45 ((restart d loss).cells r1 r2))] ∧ g = (restart d loss).maps kS r1 r2) := by
 refine hfunM (N := 93) Tryd.func18 rfl Tryd.ntmps18 Tryd.results18 (by simp) ?_
 simp only [cells_eq]
 (repeat first | refine HWM_seq ?_ | refine msQ_normal ?_ | refine HWM_skip ?_ | refine mbQ_normal ?_ | refine HWM_block ?_); refine HWM_regE (fun K hK => ?_); simp (maxSteps := 2000000) (disch := omega) only [push_cast, ↓Int.cast_ofNat_Int, Nat.reduceBEq, Nat.reduceAdd, Nat.reduceLT, Nat.reduceEqDiff, reduceIte, reduceCtorEq, Nat.reduceLeDiff, Nat.reduceSub, List.reduceReplicate, Nat.reduceMul, Int.reduceToNat, Int.toNat_natCast, Nat.reducePow, reduceIte]; refine hK _ ?_; clear hK K
 (repeat first | refine HWM_seq ?_ | refine msQ_normal ?_ | refine HWM_skip ?_ | refine mbQ_normal ?_ | refine HWM_block ?_); refine HWM_regE (fun K hK => ?_); simp (maxSteps := 2000000) (disch := omega) only [push_cast, ↓Int.cast_ofNat_Int, Nat.reduceBEq, Nat.reduceAdd, Nat.reduceLT, Nat.reduceEqDiff, reduceIte, reduceCtorEq, Nat.reduceLeDiff, Nat.reduceSub, List.reduceReplicate, Nat.reduceMul, Int.reduceToNat, Int.toNat_natCast, Nat.reducePow, reduceIte]; refine hK _ ?_; clear hK K
 (repeat first | refine HWM_seq ?_ | refine msQ_normal ?_ | refine HWM_skip ?_ | refine mbQ_normal ?_ | refine HWM_block ?_)
 refine HWM_false rfl ?_
 (repeat first | refine HWM_seq ?_ | refine msQ_normal ?_ | refine HWM_skip ?_ | refine mbQ_normal ?_ | refine HWM_block ?_); refine HWM_regE (fun K hK => ?_); simp (maxSteps := 2000000) (disch := omega) only [push_cast, ↓Int.cast_ofNat_Int, Nat.reduceBEq, Nat.reduceAdd, Nat.reduceLT, Nat.reduceEqDiff, reduceIte, reduceCtorEq, Nat.reduceLeDiff, Nat.reduceSub, List.reduceReplicate, Nat.reduceMul, Int.reduceToNat, Int.toNat_natCast, Nat.reducePow, reduceIte]; refine hK _ ?_; clear hK K
 rw [maps_eq]
 (repeat first | refine HWM_seq ?_ | refine msQ_normal ?_ | refine HWM_skip ?_ | refine mbQ_normal ?_ | refine HWM_block ?_); refine HWM_reg ?_; refine HVM_eng 4 (fun K1 hK1 => ?_); simp (maxSteps := 2000000) (disch := omega) only [push_cast, ↓Int.cast_ofNat_Int, Nat.reduceBEq, Nat.reduceAdd, Nat.reduceLT, Nat.reduceEqDiff, reduceIte, reduceCtorEq, Nat.reduceLeDiff, Nat.reduceSub, List.reduceReplicate, Nat.reduceMul, Int.reduceToNat, Int.toNat_natCast, Nat.reducePow, reduceIte]; refine hK1 _ ?_; (try clear hK1 K1)
 refine HVM_keys (i := 0) (fI := 46) (tM := 42) 144 hd.rise (by have := hd.n; omega) (by kernel_rfl) rfl rfl rfl rfl rfl rfl rfl rfl cl36 cl35 (fun b W => (callsIn_wide.1 (Tryd.mapsKeys (some b) W))) (fun b nn D0 w hown hmax hbytes => callsIn_wide.1 (Tryd.sortedKeys b nn D0 _ w hown hmax hbytes)) rfl rfl ?_
 refine HVM_eng 2 (fun K1 hK1 => ?_); simp (maxSteps := 2000000) (disch := omega) only [push_cast, ↓Int.cast_ofNat_Int, Nat.reduceBEq, Nat.reduceAdd, Nat.reduceLT, Nat.reduceEqDiff, reduceIte, reduceCtorEq, Nat.reduceLeDiff, Nat.reduceSub, List.reduceReplicate, Nat.reduceMul, Int.reduceToNat, Int.toNat_natCast, Nat.reducePow, reduceIte, Option.getD_some, Bool.or_true, Bool.or_false, Bool.and_true, Bool.and_false, Nat.zero_add, pos_nil, yF, Option.map_some, Option.map_none, lookH_true, lookH_false, strs_len]; refine hK1 _ ?_; (try clear hK1 K1)
 refine HVM_nil ?_
 obtain ⟨ks, hks⟩ : ∃ ks, keysD d.L = ks := ⟨_, rfl⟩
 have hkl : ks.length = d.L.length := by rw [← hks]; simp [keysD]
 have hksz : ∀ p ∈ ks, p.size ≤ 1048576 := fun p hp => by
  rw [← hks] at hp
  obtain ⟨e, he, rfl⟩ := List.mem_map.1 hp
  exact hd.keys e he
 have hre : restart d loss = { restGo loss ks 0 d with down := false, armed := -1 } := by rw [restart, hks]
 rw [hks]
 (repeat first | refine HWM_seq ?_ | refine msQ_normal ?_ | refine HWM_skip ?_ | refine mbQ_normal ?_ | refine HWM_block ?_)
 refine HWM_loop (ι := Nat × Int × Dk) (fun q => ⟨[(0, .ptr 0 6 0 0), (1, .v (.int .i64 loss)), (5, .v (.int .i64 q.2.1)), (18, .own 144), (19, .v (.int .i64 (ks.length : Int))), (20, .v (.int .i64 (q.1 : Int)))],
   [(0, .bx false 45 [.v (.map (some r1)), .v (.map (some r2)), .v (.int .i64 q.2.2.steps), .v (.int .i64 q.2.2.stamps), .v (.int .i64 q.2.2.armed), .v (.bool q.2.2.down)]), (144, .sl true 9 1 (strs ks))]⟩)
  (fun q => q.2.2.maps kS r1 r2) (fun q => q.1 ≤ ks.length ∧ restGo loss (ks.drop q.1) q.2.1 q.2.2 = restGo loss ks 0 d ∧ q.2.2.Ok (B + q.1 * 2097153) ∧ Lo q.2.2 ∧ 0 ≤ q.2.1 ∧ q.2.1 ≤ q.1) (fun q => ks.length - q.1) [0, 1, 5, 18, 19, 20] [0, 144] (0, 0, d) rfl rfl
  ⟨Nat.zero_le _, rfl, ok_mono hd (by simp), hlo, Int.le_refl _, Int.le_refl _⟩ ?_
 rintro ⟨j, m, e⟩ ⟨hj, hgo, hO, hL, hm0, hm1⟩
 dsimp only at hj hgo hO hL hm0 hm1 ⊢
 rcases (Decidable.em (j < ks.length)).symm with h1 | h1
 ·have hjl : j = ks.length := by omega
  rw [hjl, List.drop_length] at hgo
  have hgo : e = restGo loss ks 0 d := hgo
  (repeat first | refine HWM_seq ?_ | refine msQ_normal ?_ | refine HWM_skip ?_ | refine mbQ_normal ?_ | refine HWM_block ?_); refine HWM_regE (fun K hK => ?_); simp (maxSteps := 2000000) (disch := omega) only [push_cast, ↓Int.cast_ofNat_Int, Nat.reduceBEq, Nat.reduceAdd, Nat.reduceLT, Nat.reduceEqDiff, reduceIte, reduceCtorEq, Nat.reduceLeDiff, Nat.reduceSub, List.reduceReplicate, Nat.reduceMul, Int.reduceToNat, Int.toNat_natCast, Nat.reducePow, reduceIte]; refine hK _ ?_; clear hK K
  (repeat first | refine HWM_seq ?_ | refine msQ_normal ?_ | refine HWM_skip ?_ | refine mbQ_normal ?_ | refine HWM_block ?_)
  refine HWM_false rfl ?_
  (repeat first | refine msQ_ret ?_ | refine msQ_exit ?_ | refine mbQ_exit ?_ | refine mbQ_other rfl ?_ | refine mbQ_ret ?_ | refine mbQ_normal ?_ | refine HWM_seq ?_ | refine msQ_normal ?_ | refine HWM_skip ?_ | refine HWM_exit ?_ | refine HWM_ret ?_)
  (repeat first | refine HWM_seq ?_ | refine msQ_normal ?_ | refine HWM_skip ?_ | refine mbQ_normal ?_ | refine HWM_block ?_); refine HWM_regE (fun K hK => ?_); simp (maxSteps := 2000000) (disch := omega) only [push_cast, ↓Int.cast_ofNat_Int, Nat.reduceBEq, Nat.reduceAdd, Nat.reduceLT, Nat.reduceEqDiff, reduceIte, reduceCtorEq, Nat.reduceLeDiff, Nat.reduceSub, List.reduceReplicate, Nat.reduceMul, Int.reduceToNat, Int.toNat_natCast, Nat.reducePow, reduceIte]; refine hK _ ?_; clear hK K
  (repeat first | refine HWM_seq ?_ | refine msQ_normal ?_ | refine HWM_skip ?_ | refine mbQ_normal ?_ | refine HWM_block ?_); refine HWM_regE (fun K hK => ?_); simp (maxSteps := 2000000) (disch := omega) only [push_cast, ↓Int.cast_ofNat_Int, Nat.reduceBEq, Nat.reduceAdd, Nat.reduceLT, Nat.reduceEqDiff, reduceIte, reduceCtorEq, Nat.reduceLeDiff, Nat.reduceSub, List.reduceReplicate, Nat.reduceMul, Int.reduceToNat, Int.toNat_natCast, Nat.reducePow, reduceIte]; refine hK _ ?_; clear hK K
  (repeat first | refine msQ_ret ?_ | refine msQ_exit ?_ | refine mbQ_exit ?_ | refine mbQ_other rfl ?_ | refine mbQ_ret ?_ | refine mbQ_normal ?_ | refine HWM_seq ?_ | refine msQ_normal ?_ | refine HWM_skip ?_ | refine HWM_exit ?_ | refine HWM_ret ?_)
  simp only [hfunMQ_normal, hfunMQ_ret, yH, yE, yK, yJ, htup_nil, zS, zM, Nat.reduceEqDiff, reduceIte, reduceCtorEq]
  refine hresM [0] [] (by first | rfl | simp [bsL, MO.bs]) (by decide) (by decide) (by simp only [push_cast, pos_nil, yF, rpick_nil, yG, boxOk_nil, yL, keepB_nil, keepB_sl, keepB_hl, keepB_bt, keepB_bf, Option.getD_some, Option.map_some, Option.map_none, Nat.zero_add, hren_v, hren_lst, hren_own, hren_tup, hren_agg, rren_sl, rren_bx, rren_hl, List.map_cons, List.map_nil, Nat.reduceEqDiff, reduceIte, implies_true, and_self, true_and, and_true, true_implies, false_implies, Nat.reduceBEq, Nat.reduceAdd, Nat.reduceLT, Nat.reduceEqDiff, reduceIte, reduceCtorEq, Nat.reduceLeDiff, Nat.reduceSub, List.reduceReplicate, Nat.reduceMul, Int.reduceToNat, Int.toNat_natCast, Nat.reducePow, reduceIte]) (by simp only [push_cast, pos_nil, yF, rpick_nil, yG, boxOk_nil, yL, keepB_nil, keepB_sl, keepB_hl, keepB_bt, keepB_bf, Option.getD_some, Option.map_some, Option.map_none, Nat.zero_add, hren_v, hren_lst, hren_own, hren_tup, hren_agg, rren_sl, rren_bx, rren_hl, List.map_cons, List.map_nil, Nat.reduceEqDiff, reduceIte, implies_true, and_self, true_and, and_true, true_implies, false_implies, Nat.reduceBEq, Nat.reduceAdd, Nat.reduceLT, Nat.reduceEqDiff, reduceIte, reduceCtorEq, Nat.reduceLeDiff, Nat.reduceSub, List.reduceReplicate, Nat.reduceMul, Int.reduceToNat, Int.toNat_natCast, Nat.reducePow, reduceIte]) (by simp only [push_cast, pos_nil, yF, rpick_nil, yG, boxOk_nil, yL, keepB_nil, keepB_sl, keepB_hl, keepB_bt, keepB_bf, Option.getD_some, Option.map_some, Option.map_none, Nat.zero_add, hren_v, hren_lst, hren_own, hren_tup, hren_agg, rren_sl, rren_bx, rren_hl, List.map_cons, List.map_nil, Nat.reduceEqDiff, reduceIte, implies_true, and_self, true_and, and_true, true_implies, false_implies, Nat.reduceBEq, Nat.reduceAdd, Nat.reduceLT, Nat.reduceEqDiff, reduceIte, reduceCtorEq, Nat.reduceLeDiff, Nat.reduceSub, List.reduceReplicate, Nat.reduceMul, Int.reduceToNat, Int.toNat_natCast, Nat.reducePow, reduceIte]; rfl) (by simp only [push_cast, pos_nil, yF, rpick_nil, yG, boxOk_nil, yL, keepB_nil, keepB_sl, keepB_hl, keepB_bt, keepB_bf, Option.getD_some, Option.map_some, Option.map_none, Nat.zero_add, hren_v, hren_lst, hren_own, hren_tup, hren_agg, rren_sl, rren_bx, rren_hl, List.map_cons, List.map_nil, Nat.reduceEqDiff, reduceIte, implies_true, and_self, true_and, and_true, true_implies, false_implies, Nat.reduceBEq, Nat.reduceAdd, Nat.reduceLT, Nat.reduceEqDiff, reduceIte, reduceCtorEq, Nat.reduceLeDiff, Nat.reduceSub, List.reduceReplicate, Nat.reduceMul, Int.reduceToNat, Int.toNat_natCast, Nat.reducePow, reduceIte]; rfl) ?_
  refine ⟨rfl, ?_, ?_⟩
  ·rw [hre, ← hgo]
  ·rw [hre, ← hgo]; rfl
 have hlen2 : (ks.length : Int) ≤ 1000 := by omega
 obtain ⟨p, hp⟩ : ∃ p, p = ks[j] := ⟨_, rfl⟩
 have hgp : (strs ks).getD j [] = [FV.v (.string p)] := by
  rw [strs, List.getD_eq_getElem?_getD, List.getElem?_map, List.getElem?_eq_getElem h1, hp]; rfl
 have hps : p.size ≤ 1048576 := hksz p (by rw [hp]; exact List.getElem_mem h1)
 have hdr : ks.drop j = p :: ks.drop (j + 1) := by rw [hp]; exact List.drop_eq_getElem_cons h1
 rw [hdr, restGo] at hgo
 have hLp := hL p
 obtain ⟨l1, l2, l3⟩ := hLp
 have hn2 := hO.n
 have hs2 := hO.stamps
 have hne : e.n < maxLen := by simp only [maxLen]; omega
 (repeat first | refine HWM_seq ?_ | refine msQ_normal ?_ | refine HWM_skip ?_ | refine mbQ_normal ?_ | refine HWM_block ?_); refine HWM_regE (fun K hK => ?_); simp (maxSteps := 2000000) (disch := omega) only [push_cast, ↓Int.cast_ofNat_Int, Nat.reduceBEq, Nat.reduceAdd, Nat.reduceLT, Nat.reduceEqDiff, reduceIte, reduceCtorEq, Nat.reduceLeDiff, Nat.reduceSub, List.reduceReplicate, Nat.reduceMul, Int.reduceToNat, Int.toNat_natCast, Nat.reducePow, reduceIte]; refine hK _ ?_; clear hK K
 (repeat first | refine HWM_seq ?_ | refine msQ_normal ?_ | refine HWM_skip ?_ | refine mbQ_normal ?_ | refine HWM_block ?_)
 refine HWM_true rfl ?_
 (repeat first | refine HWM_seq ?_ | refine msQ_normal ?_ | refine HWM_skip ?_ | refine mbQ_normal ?_ | refine HWM_block ?_); refine HWM_regE (fun K hK => ?_); simp (maxSteps := 2000000) (disch := omega) only [push_cast, ↓Int.cast_ofNat_Int, Nat.reduceBEq, Nat.reduceAdd, Nat.reduceLT, Nat.reduceEqDiff, reduceIte, reduceCtorEq, Nat.reduceLeDiff, Nat.reduceSub, List.reduceReplicate, Nat.reduceMul, Int.reduceToNat, Int.toNat_natCast, Nat.reducePow, reduceIte, strs_len, strs_wid, hgp]; (repeat refine ⟨by first | omega | decide | ((repeat' apply And.intro) <;> first | omega | decide), ?_⟩); refine hK _ ?_; clear hK K
 rw [maps_eq]
 (repeat first | refine HWM_seq ?_ | refine msQ_normal ?_ | refine HWM_skip ?_ | refine mbQ_normal ?_ | refine HWM_block ?_); refine HWM_reg ?_; refine HVM_eng 5 (fun K1 hK1 => ?_); simp (maxSteps := 2000000) (disch := omega) only [push_cast, ↓Int.cast_ofNat_Int, Nat.reduceBEq, Nat.reduceAdd, Nat.reduceLT, Nat.reduceEqDiff, reduceIte, reduceCtorEq, Nat.reduceLeDiff, Nat.reduceSub, List.reduceReplicate, Nat.reduceMul, Int.reduceToNat, Int.toNat_natCast, Nat.reducePow, reduceIte]; refine hK1 _ ?_; (try clear hK1 K1)
 refine HVM_look (i := 0) mtI rfl rfl rfl rfl rfl rfl (mx hps) ?_
 refine HVM_eng 2 (fun K1 hK1 => ?_); simp (maxSteps := 2000000) (disch := omega) only [push_cast, ↓Int.cast_ofNat_Int, Nat.reduceBEq, Nat.reduceAdd, Nat.reduceLT, Nat.reduceEqDiff, reduceIte, reduceCtorEq, Nat.reduceLeDiff, Nat.reduceSub, List.reduceReplicate, Nat.reduceMul, Int.reduceToNat, Int.toNat_natCast, Nat.reducePow, reduceIte, Option.getD_some, Bool.or_true, Bool.or_false, Bool.and_true, Bool.and_false, Nat.zero_add, pos_nil, yF, Option.map_some, Option.map_none, lookH_true, lookH_false, itm_look, itm_hv]; refine hK1 _ ?_; (try clear hK1 K1)
 refine HVM_nil ?_
 have hxd : (lookD e.L p).getD itm0 = item e p := rfl
 rw [hxd]
 obtain ⟨x, hx⟩ : ∃ x, item e p = x := ⟨_, rfl⟩
 rw [hx] at hgo l1 l2 l3 ⊢
 refine HWM_keep [0, 1, 5, 7, 8, 18, 19, 20] [0, 64, 144] (by simp only [zZ, zR, zP, zQ, zN, zS, zM, zX, zU, Nat.reduceEqDiff, reduceIte]; exact rfl) ?_
 (repeat first | refine HWM_seq ?_ | refine msQ_normal ?_ | refine HWM_skip ?_ | refine mbQ_normal ?_ | refine HWM_block ?_); refine HWM_regE (fun K hK => ?_); simp (maxSteps := 2000000) (disch := omega) only [push_cast, ↓Int.cast_ofNat_Int, Nat.reduceBEq, Nat.reduceAdd, Nat.reduceLT, Nat.reduceEqDiff, reduceIte, reduceCtorEq, Nat.reduceLeDiff, Nat.reduceSub, List.reduceReplicate, Nat.reduceMul, Int.reduceToNat, Int.toNat_natCast, Nat.reducePow, reduceIte]; refine hK _ ?_; clear hK K
 (repeat first | refine HWM_seq ?_ | refine msQ_normal ?_ | refine HWM_skip ?_ | refine mbQ_normal ?_ | refine HWM_block ?_)
 cases hlo1 : x.loose with
 | false =>
  rw [hlo1, if_neg (by decide)] at hgo
  refine HWM_true rfl ?_
  (repeat first | refine msQ_ret ?_ | refine msQ_exit ?_ | refine mbQ_exit ?_ | refine mbQ_other rfl ?_ | refine mbQ_ret ?_ | refine mbQ_normal ?_ | refine HWM_seq ?_ | refine msQ_normal ?_ | refine HWM_skip ?_ | refine HWM_exit ?_ | refine HWM_ret ?_)
  (repeat first | refine HWM_seq ?_ | refine msQ_normal ?_ | refine HWM_skip ?_ | refine mbQ_normal ?_ | refine HWM_block ?_); refine HWM_regE (fun K hK => ?_); simp (maxSteps := 2000000) (disch := omega) only [push_cast, ↓Int.cast_ofNat_Int, Nat.reduceBEq, Nat.reduceAdd, Nat.reduceLT, Nat.reduceEqDiff, reduceIte, reduceCtorEq, Nat.reduceLeDiff, Nat.reduceSub, List.reduceReplicate, Nat.reduceMul, Int.reduceToNat, Int.toNat_natCast, Nat.reducePow, reduceIte]; refine hK _ ?_; clear hK K
  (repeat first | refine msQ_ret ?_ | refine msQ_exit ?_ | refine mbQ_exit ?_ | refine mbQ_other rfl ?_ | refine mbQ_ret ?_ | refine mbQ_normal ?_ | refine HWM_seq ?_ | refine msQ_normal ?_ | refine HWM_skip ?_ | refine HWM_exit ?_ | refine HWM_ret ?_)
  refine ⟨(j + 1, m, e), ?_, rfl, ⟨by show j + 1 ≤ _; omega, hgo, ok_mono hO (by push_cast; omega), hL, hm0, by show m ≤ ((j + 1 : Nat) : Int); push_cast; omega⟩, by show ks.length - (j + 1) < ks.length - j; omega⟩
  dsimp only
  rw [show (((j + 1 : Nat) : Int)) = (j : Int) + 1 from Int.natCast_succ j]
  rfl
 | true =>
  rw [hlo1, if_pos rfl] at hgo
  refine HWM_false rfl ?_
  (repeat first | refine HWM_seq ?_ | refine msQ_normal ?_ | refine HWM_skip ?_ | refine mbQ_normal ?_ | refine HWM_block ?_); refine HWM_regE (fun K hK => ?_); simp (maxSteps := 2000000) (disch := omega) only [push_cast, ↓Int.cast_ofNat_Int, Nat.reduceBEq, Nat.reduceAdd, Nat.reduceLT, Nat.reduceEqDiff, reduceIte, reduceCtorEq, Nat.reduceLeDiff, Nat.reduceSub, List.reduceReplicate, Nat.reduceMul, Int.reduceToNat, Int.toNat_natCast, Nat.reducePow, reduceIte]; refine hK _ ?_; clear hK K
  have hmx := mix_H (IntKind.u64.wrap loss) (IntKind.u64.wrap (m + 1))
  have hrg := mix_range (IntKind.u64.wrap loss) (IntKind.u64.wrap (m + 1))
  obtain ⟨pk, hpk⟩ : ∃ pk, mixD (IntKind.u64.wrap loss) (IntKind.u64.wrap (m + 1)) = pk := ⟨_, rfl⟩
  rw [hpk] at hgo hmx hrg
  (repeat first | refine HWM_seq ?_ | refine msQ_normal ?_ | refine HWM_skip ?_ | refine mbQ_normal ?_ | refine HWM_block ?_); refine HWM_regE (fun K hK => ?_); simp (maxSteps := 2000000) (disch := omega) only [push_cast, ↓Int.cast_ofNat_Int, Nat.reduceBEq, Nat.reduceAdd, Nat.reduceLT, Nat.reduceEqDiff, reduceIte, reduceCtorEq, Nat.reduceLeDiff, Nat.reduceSub, List.reduceReplicate, Nat.reduceMul, Int.reduceToNat, Int.toNat_natCast, Nat.reducePow, reduceIte]
  refine hatv cl37 hmx (.cons (.v _) (.cons (.v _) .nil)) ?_
  with_reducible refine hstop ?_; simp (maxSteps := 2000000) (disch := omega) only [push_cast, ↓Int.cast_ofNat_Int, Nat.reduceBEq, Nat.reduceAdd, Nat.reduceLT, Nat.reduceEqDiff, reduceIte, reduceCtorEq, Nat.reduceLeDiff, Nat.reduceSub, List.reduceReplicate, Nat.reduceMul, Int.reduceToNat, Int.toNat_natCast, Nat.reducePow, reduceIte]
  refine hK _ ?_; clear hK K
  refine HWM_keep [0, 1, 5, 7, 8, 9, 18, 19, 20] [0, 64, 144] (by simp only [zZ, zR, zP, zQ, zN, zS, zM, zX, zU, Nat.reduceEqDiff, reduceIte]; exact rfl) ?_
  (repeat first | refine HWM_seq ?_ | refine msQ_normal ?_ | refine HWM_skip ?_ | refine mbQ_normal ?_ | refine HWM_block ?_); refine HWM_regE (fun K hK => ?_); simp (maxSteps := 2000000) (disch := omega) only [push_cast, ↓Int.cast_ofNat_Int, Nat.reduceBEq, Nat.reduceAdd, Nat.reduceLT, Nat.reduceEqDiff, reduceIte, reduceCtorEq, Nat.reduceLeDiff, Nat.reduceSub, List.reduceReplicate, Nat.reduceMul, Int.reduceToNat, Int.toNat_natCast, Nat.reducePow, reduceIte]; refine hK _ ?_; clear hK K
  (repeat first | refine HWM_seq ?_ | refine msQ_normal ?_ | refine HWM_skip ?_ | refine mbQ_normal ?_ | refine HWM_block ?_)
  refine HWM_meet (ι := Unit) (fun _ => ⟨[(0, .ptr 0 6 0 0), (1, .v (.int .i64 loss)), (5, .v (.int .i64 (m + 1))), (7, .v (.string p)), (8, .ptr 64 6 0 0), (18, .own 144), (19, .v (.int .i64 (ks.length : Int))), (20, .v (.int .i64 (j : Int)))],
   [(0, .bx false 45 [.v (.map (some r1)), .v (.map (some r2)), .v (.int .i64 e.steps), .v (.int .i64 e.stamps), .v (.int .i64 e.armed), .v (.bool e.down)]), (64, .bx true 47 [.v (.bool x.dir), .v (.string x.data), .v (.string (cutR pk x)), .v (.bool true), .v (.bool x.anew), .v (.int .i64 x.stamp)]), (144, .sl true 9 1 (strs ks))]⟩)
   (fun _ => [.map r1 kS e.n (tab Itm.val e.L), .map r2 kS e.m (tab numV e.R)]) (fun _ => True) [0, 1, 5, 7, 8, 18, 19, 20] [0, 64, 144] ?_ ?_
  ·cases han : x.anew with
   | true =>
    refine HWM_true rfl ?_
    have hw1 : IntKind.u64.wrap ((x.data.size : Int) + 2) = (x.data.size : Int) + 2 := by rw [IntKind.wrap_u64]; omega
    obtain ⟨k, hk⟩ : ∃ k, pk.tmod ((x.data.size : Int) + 2) = k := ⟨_, rfl⟩
    have hk2 : 0 ≤ k ∧ k < (x.data.size : Int) + 2 := by
     rw [← hk, Int.tmod_eq_emod_of_nonneg hrg.1]
     exact ⟨Int.emod_nonneg _ (by omega), Int.emod_lt_of_pos _ (by omega)⟩
    have hcut : cutR pk x = if 0 < k then x.data.extract 0 (k - 1).toNat else x.kept := by
     unfold cutR
     rw [if_pos han, hk]
    rw [hcut]
    (repeat first | refine HWM_seq ?_ | refine msQ_normal ?_ | refine HWM_skip ?_ | refine mbQ_normal ?_ | refine HWM_block ?_); refine HWM_regE (fun K hK => ?_); simp (maxSteps := 2000000) (disch := omega) only [push_cast, ↓Int.cast_ofNat_Int, Nat.reduceBEq, Nat.reduceAdd, Nat.reduceLT, Nat.reduceEqDiff, reduceIte, reduceCtorEq, Nat.reduceLeDiff, Nat.reduceSub, List.reduceReplicate, Nat.reduceMul, Int.reduceToNat, Int.toNat_natCast, Nat.reducePow, reduceIte, hw1, hk]
    refine ⟨by omega, hK _ ?_⟩
    clear hK K
    (repeat first | refine HWM_seq ?_ | refine msQ_normal ?_ | refine HWM_skip ?_ | refine mbQ_normal ?_ | refine HWM_block ?_); refine HWM_regE (fun K hK => ?_); simp (maxSteps := 2000000) (disch := omega) only [push_cast, ↓Int.cast_ofNat_Int, Nat.reduceBEq, Nat.reduceAdd, Nat.reduceLT, Nat.reduceEqDiff, reduceIte, reduceCtorEq, Nat.reduceLeDiff, Nat.reduceSub, List.reduceReplicate, Nat.reduceMul, Int.reduceToNat, Int.toNat_natCast, Nat.reducePow, reduceIte]; refine hK _ ?_; clear hK K
    (repeat first | refine HWM_seq ?_ | refine msQ_normal ?_ | refine HWM_skip ?_ | refine mbQ_normal ?_ | refine HWM_block ?_)
    by_cases hk0 : 0 < k
    ·rw [if_pos hk0]
     have hw2 : IntKind.u64.wrap (k - 1) = k - 1 := by rw [IntKind.wrap_u64]; omega
     refine HWM_cond rfl (fun _ => ?_) (fun h => by simp [hk0] at h)
     (repeat first | refine HWM_seq ?_ | refine msQ_normal ?_ | refine HWM_skip ?_ | refine mbQ_normal ?_ | refine HWM_block ?_); refine HWM_regE (fun K hK => ?_); simp (maxSteps := 2000000) (disch := omega) only [push_cast, ↓Int.cast_ofNat_Int, Nat.reduceBEq, Nat.reduceAdd, Nat.reduceLT, Nat.reduceEqDiff, reduceIte, reduceCtorEq, Nat.reduceLeDiff, Nat.reduceSub, List.reduceReplicate, Nat.reduceMul, Int.reduceToNat, Int.toNat_natCast, Nat.reducePow, reduceIte, hw2]
     (repeat refine ⟨by first | omega | decide | ((repeat' apply And.intro) <;> first | omega | decide), ?_⟩)
     refine hK _ ?_; clear hK K
     (repeat first | refine msQ_ret ?_ | refine msQ_exit ?_ | refine mbQ_exit ?_ | refine mbQ_other rfl ?_ | refine mbQ_ret ?_ | refine mbQ_normal ?_ | refine HWM_seq ?_ | refine msQ_normal ?_ | refine HWM_skip ?_ | refine HWM_exit ?_ | refine HWM_ret ?_)
     exact ⟨(), rfl, rfl, trivial⟩
    ·rw [if_neg hk0]
     refine HWM_cond rfl (fun h => by simp [hk0] at h) (fun _ => ?_)
     (repeat first | refine msQ_ret ?_ | refine msQ_exit ?_ | refine mbQ_exit ?_ | refine mbQ_other rfl ?_ | refine mbQ_ret ?_ | refine mbQ_normal ?_ | refine HWM_seq ?_ | refine msQ_normal ?_ | refine HWM_skip ?_ | refine HWM_exit ?_ | refine HWM_ret ?_)
     exact ⟨(), rfl, rfl, trivial⟩
   | false =>
    have l4 := l3 han
    obtain ⟨k, hk⟩ : ∃ k, pk.tmod ((x.data.size : Int) - x.kept.size + 1) = k := ⟨_, rfl⟩
    have hk2 : 0 ≤ k ∧ k < (x.data.size : Int) - x.kept.size + 1 := by
     rw [← hk, Int.tmod_eq_emod_of_nonneg hrg.1]
     exact ⟨Int.emod_nonneg _ (by omega), Int.emod_lt_of_pos _ (by omega)⟩
    have hw1 : IntKind.u64.wrap ((x.data.size : Int) - x.kept.size + 1) = (x.data.size : Int) - x.kept.size + 1 := by rw [IntKind.wrap_u64]; omega
    have hcut : cutR pk x = x.data.extract 0 ((x.kept.size : Int) + k).toNat := by
     unfold cutR
     rw [if_neg (by rw [han]; decide), hk]
    rw [hcut]
    refine HWM_false rfl ?_
    (repeat first | refine HWM_seq ?_ | refine msQ_normal ?_ | refine HWM_skip ?_ | refine mbQ_normal ?_ | refine HWM_block ?_)
    refine HWM_lift ?_
    refine HW_drw 18 mixed (by kernel_rfl) (fun K hK => ?_)
    simp (maxSteps := 2000000) (disch := omega) only [push_cast, ↓Int.cast_ofNat_Int, Nat.reduceBEq, Nat.reduceAdd, Nat.reduceLT, Nat.reduceEqDiff, reduceIte, reduceCtorEq, Nat.reduceLeDiff, Nat.reduceSub, List.reduceReplicate, Nat.reduceMul, Int.reduceToNat, Int.toNat_natCast, Nat.reducePow, reduceIte, hw1, hk]
    refine ⟨by omega, ?_⟩
    with_reducible refine hstop ?_; simp (maxSteps := 2000000) (disch := omega) only [push_cast, ↓Int.cast_ofNat_Int, Nat.reduceBEq, Nat.reduceAdd, Nat.reduceLT, Nat.reduceEqDiff, reduceIte, reduceCtorEq, Nat.reduceLeDiff, Nat.reduceSub, List.reduceReplicate, Nat.reduceMul, Int.reduceToNat, Int.toNat_natCast, Nat.reducePow, reduceIte]
    (repeat refine ⟨by first | omega | decide | ((repeat' apply And.intro) <;> first | omega | decide), ?_⟩)
    refine hK _ ?_; clear hK K
    (repeat first | refine msQ_ret ?_ | refine msQ_exit ?_ | refine mbQ_exit ?_ | refine mbQ_other rfl ?_ | refine mbQ_ret ?_ | refine mbQ_normal ?_ | refine HWM_seq ?_ | refine msQ_normal ?_ | refine HWM_skip ?_ | refine HWM_exit ?_ | refine HWM_ret ?_)
    exact ⟨(), rfl, rfl, trivial⟩
  rintro - -
  have hse := set_H e p (lostI pk x) r1 r2 hps hne (by omega)
  simp only [cells_eq] at hse
  rw [maps_eq] at hse
  (repeat first | refine HWM_seq ?_ | refine msQ_normal ?_ | refine HWM_skip ?_ | refine mbQ_normal ?_ | refine HWM_block ?_); refine HWM_regE (fun K hK => ?_); simp (maxSteps := 2000000) (disch := omega) only [push_cast, ↓Int.cast_ofNat_Int, Nat.reduceBEq, Nat.reduceAdd, Nat.reduceLT, Nat.reduceEqDiff, reduceIte, reduceCtorEq, Nat.reduceLeDiff, Nat.reduceSub, List.reduceReplicate, Nat.reduceMul, Int.reduceToNat, Int.toNat_natCast, Nat.reducePow, reduceIte]; refine hK _ ?_; clear hK K
  (repeat first | refine HWM_seq ?_ | refine msQ_normal ?_ | refine HWM_skip ?_ | refine mbQ_normal ?_ | refine HWM_block ?_); refine HWM_reg ?_; refine HVM_eng 3 (fun K1 hK1 => ?_); simp (maxSteps := 2000000) (disch := omega) only [push_cast, ↓Int.cast_ofNat_Int, Nat.reduceBEq, Nat.reduceAdd, Nat.reduceLT, Nat.reduceEqDiff, reduceIte, reduceCtorEq, Nat.reduceLeDiff, Nat.reduceSub, List.reduceReplicate, Nat.reduceMul, Int.reduceToNat, Int.toNat_natCast, Nat.reducePow, reduceIte]; refine hK1 _ ?_; (try clear hK1 K1)
  refine HVM_call 680 [0] cl31 (hse) rfl rfl rfl rfl (by simp only [push_cast, pos_nil, yF, Option.getD_some, Bool.or_true, Bool.or_false, Bool.and_true, Bool.and_false, Option.map_some, Option.map_none, Nat.zero_add, Nat.reduceBEq, Nat.reduceAdd, Nat.reduceLT, Nat.reduceEqDiff, reduceIte, reduceCtorEq, Nat.reduceLeDiff, Nat.reduceSub, List.reduceReplicate, Nat.reduceMul, Int.reduceToNat, Int.toNat_natCast, Nat.reducePow, reduceIte]; exact rfl) (by decide) (by decide) (by decide) (by simp only [push_cast, pos_nil, yF, Option.getD_some, Bool.or_true, Bool.or_false, Bool.and_true, Bool.and_false, Option.map_some, Option.map_none, Nat.zero_add, Nat.reduceBEq, Nat.reduceAdd, Nat.reduceLT, Nat.reduceEqDiff, reduceIte, reduceCtorEq, Nat.reduceLeDiff, Nat.reduceSub, List.reduceReplicate, Nat.reduceMul, Int.reduceToNat, Int.toNat_natCast, Nat.reducePow, reduceIte]; try rfl) (by simp only [push_cast, pos_nil, yF, Option.getD_some, Bool.or_true, Bool.or_false, Bool.and_true, Bool.and_false, Option.map_some, Option.map_none, Nat.zero_add, Nat.reduceBEq, Nat.reduceAdd, Nat.reduceLT, Nat.reduceEqDiff, reduceIte, reduceCtorEq, Nat.reduceLeDiff, Nat.reduceSub, List.reduceReplicate, Nat.reduceMul, Int.reduceToNat, Int.toNat_natCast, Nat.reducePow, reduceIte]; try rfl) ?_
  rintro _ _ _ ⟨rfl, rfl, rfl⟩
  refine HVM_eng 0 (fun K1 hK1 => ?_); simp (maxSteps := 2000000) (disch := omega) only [push_cast, ↓Int.cast_ofNat_Int, Nat.reduceBEq, Nat.reduceAdd, Nat.reduceLT, Nat.reduceEqDiff, reduceIte, reduceCtorEq, Nat.reduceLeDiff, Nat.reduceSub, List.reduceReplicate, Nat.reduceMul, Int.reduceToNat, Int.toNat_natCast, Nat.reducePow, reduceIte, Option.getD_some, Bool.or_true, Bool.or_false, Bool.and_true, Bool.and_false, Nat.zero_add, pos_nil, yF, Option.map_some, Option.map_none, lookH_true, lookH_false]; refine hK1 _ ?_; (try clear hK1 K1)
  refine HVM_nil ?_
  (repeat first | refine HWM_seq ?_ | refine msQ_normal ?_ | refine HWM_skip ?_ | refine mbQ_normal ?_ | refine HWM_block ?_)
  (repeat first | refine HWM_seq ?_ | refine msQ_normal ?_ | refine HWM_skip ?_ | refine mbQ_normal ?_ | refine HWM_block ?_); refine HWM_regE (fun K hK => ?_); simp (maxSteps := 2000000) (disch := omega) only [push_cast, ↓Int.cast_ofNat_Int, Nat.reduceBEq, Nat.reduceAdd, Nat.reduceLT, Nat.reduceEqDiff, reduceIte, reduceCtorEq, Nat.reduceLeDiff, Nat.reduceSub, List.reduceReplicate, Nat.reduceMul, Int.reduceToNat, Int.toNat_natCast, Nat.reducePow, reduceIte]; refine hK _ ?_; clear hK K
  (repeat first | refine msQ_ret ?_ | refine msQ_exit ?_ | refine mbQ_exit ?_ | refine mbQ_other rfl ?_ | refine mbQ_ret ?_ | refine mbQ_normal ?_ | refine HWM_seq ?_ | refine msQ_normal ?_ | refine HWM_skip ?_ | refine HWM_exit ?_ | refine HWM_ret ?_)
  refine ⟨(j + 1, m + 1, setD e p (lostI pk x)), ?_, rfl, ⟨by show j + 1 ≤ _; omega, hgo, ?_, lo_set hL (lo_lost (by rw [← hx]; exact hL p)), by show 0 ≤ m + 1; omega, by show m + 1 ≤ ((j + 1 : Nat) : Int); push_cast; omega⟩, by show ks.length - (j + 1) < ks.length - j; omega⟩
  ·dsimp only
   rw [show (((j + 1 : Nat) : Int)) = (j : Int) + 1 from Int.natCast_succ j]
   rfl
  ·refine ok_mono (ok_setC hO (C := 2097153) (by decide) hps ?_) (by push_cast; omega)
   rw [hx]
   have := cut_size (pick := pk) (x := x) ⟨l1, l2, l3⟩
   show ((cutR pk x).size : Int) ≤ _
   omega
end Go.Proofs.YtojolcpblacjjaaDoor
