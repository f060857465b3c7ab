/-
  HunkPieces: the walk of the law.
-/
import Derived.Test.YtfojmpimnidmkaaHpE
import Derived.Test.YtfojmpimnidmkaaUpt
import Derived.Test.YtfojmpimnidmkaaGd
set_option linter.unusedSimpArgs false
set_option linter.unusedVariables false
set_option maxRecDepth 20000
namespace Go.Proofs.Ytfojmpimnidmkaa
open Go Go.Eng Go.RowKit Go.DiffM
def hspare : ByteArray := { data := #[115, 112, 97, 114, 101] }
theorem strs_hspare (l : List ByteArray) : strs l ++ [[.v (.string hspare)]] = strs (l ++ [hspare]) := strs_snoc l hspare
theorem strs_tk (a : List ByteArray) : (strs a ++ [[FV.v (.string hspare)]]).take a.length = strs a := by
 rw [strs_hspare, strs_take, List.take_append_of_le_length (Nat.le_refl _), List.take_length]
theorem strs_lt (a : List ByteArray) : a.length < (strs a ++ [[FV.v (.string hspare)]]).length := by rw [List.length_append, strs_len]; simp
theorem hE_one {E : HEnv} {k0 : Nat} {u : Value} (h : hlk E k0 = some (.v u)) (k : Nat) (x : HV) (hk : hlk [(k0, .v u)] k = some x) : hlk E k = some x ∧ ∃ u, x = .v u := by
 simp only [hlk] at hk
 by_cases e : k0 = k
 ·rw [if_pos e] at hk; cases hk; subst e; exact ⟨h, _, rfl⟩
 ·rw [if_neg e] at hk; cases hk
theorem whoP_ne (x y L j id : Nat) (h1 : x ≠ id) (h2 : y ≠ id) : whoP x y L j ≠ .inl id := fun h => by
 unfold whoP at h
 split at h
 ·cases h; exact h1 rfl
 ·split at h
  ·cases h; exact h2 rfl
  ·split at h <;> cases h
theorem hlT_trim (T : List HkV) (id n : Nat) : (hlT T).map (List.map fun x => x.trim id n) = hlT T := hlT_fix T _ fun x => by rw [HV.trim]
section
variable {a b : List ByteArray} {r : Int}
set_option maxHeartbeats 16000000 in
theorem pieces_T3 (ha : a.length ≤ 1048576) (hb : b.length ≤ 1048576) (T U : List HkV) (hT : T.map Prod.fst = bH a b r) (hU : U.map Prod.fst = bH a b r) :
  HWF Try.prog 120 (tailC 7 (Try.f3.body.getD .skip)) (ffunLQ Try.prog [.tmp 6] (.bool true)) (lvs T ++ lvs U) ⟨[(0, .lst false (strs a)), (1, .lst false (strs b)), (7, .own 1000000), (8, .own 1000001), (9, .own 296), (11, .own 352), (13, .own 512)],
   [(1000000, .sl true 9 1 (strs a)), (1000001, .sl true 9 1 (strs b)), (296, rowL T), (352, .sl true 33 3 (hks false (bH a b r))), (512, rowL U)]⟩ := by
 unfold Try.f3
 dsimp only [Option.getD_some, tailC]
 have hTl : T.length = (bH a b r).length := by rw [← hT, List.length_map]
 have hUl : U.length = (bH a b r).length := by rw [← hU, List.length_map]
 have hbl := bH_len a b r
 have hsm := bH_small a b r
 (repeat first | refine HWF_seq ?_ | refine fseqQ_normal ?_ | refine HWF_skip ?_ | refine fblkQ_normal ?_ | refine HWF_block ?_); refine HWF_of ?_
 (repeat first | refine zE ?_ | refine zA ?_ | refine zC ?_ | refine zB ?_ | refine zD ?_); refine zJ (fun K hK => ?_); simp (maxSteps := 2000000) (disch := omega) only [push_cast, ↓Int.cast_ofNat_Int, Nat.reduceBEq, Nat.reduceAdd, Nat.reduceLT, Nat.reduceEqDiff, reduceIte, reduceCtorEq, Nat.reduceLeDiff, Nat.reduceSub, List.reduceReplicate, Nat.reduceMul, Int.reduceToNat, Int.toNat_natCast, Nat.reducePow, reduceIte, hlT_kill, hlT_sub]; refine hK _ ?_; clear hK K
 (repeat first | refine HWF_seq ?_ | refine fseqQ_normal ?_ | refine HWF_skip ?_ | refine fblkQ_normal ?_ | refine HWF_block ?_); refine HWF_of ?_
 (repeat first | refine zE ?_ | refine zA ?_ | refine zC ?_ | refine zB ?_ | refine zD ?_); refine zJ (fun K hK => ?_); simp (maxSteps := 2000000) (disch := omega) only [push_cast, ↓Int.cast_ofNat_Int, Nat.reduceBEq, Nat.reduceAdd, Nat.reduceLT, Nat.reduceEqDiff, reduceIte, reduceCtorEq, Nat.reduceLeDiff, Nat.reduceSub, List.reduceReplicate, Nat.reduceMul, Int.reduceToNat, Int.toNat_natCast, Nat.reducePow, reduceIte]; refine hK _ ?_; clear hK K
 (repeat first | refine HWF_seq ?_ | refine fseqQ_normal ?_ | refine HWF_skip ?_ | refine fblkQ_normal ?_ | refine HWF_block ?_)
 refine HWF_keep [0, 1, 7, 8, 9, 11, 13, 15, 16] [1000000, 1000001, 296, 352, 512, 552] (by simp only [zZ, zR, zP, zQ, zN, zS, zM, zX, zU, Nat.reduceEqDiff, reduceIte]; exact rfl) ?_
 refine HWF_loop (fun i : Nat => ⟨[(0, .lst false (strs a)), (1, .lst false (strs b)), (7, .own 1000000), (8, .own 1000001), (9, .own 296), (11, .own 352), (13, .own 512), (15, .own 552), (16, .v (.int .i64 i))],
   [(1000000, .sl true 9 1 (strs a)), (1000001, .sl true 9 1 (strs b)), (296, rowL T), (352, .sl true 33 3 (hks false (bH a b r))), (512, rowL U), (552, .hl true 22 1 (apL 1000000 1000001 ((T.zip U).take i)))]⟩) (fun _ => lvs T ++ lvs U) (fun i => i ≤ T.length ∧ i ≤ 20) (fun i => T.length - i) [0, 1, 7, 8, 9, 11, 13, 15, 16] [1000000, 1000001, 296, 352, 512, 552] 0 (by simp only [zZ, zR, zP, zQ, zN, zS, zM, zX, zU, Nat.reduceEqDiff, reduceIte]; rfl) rfl ⟨Nat.zero_le _, Nat.zero_le _⟩ ?_
 rintro i ⟨hi, hi20⟩

 by_cases hc : i < T.length ∧ i < 20
 ·obtain ⟨h1, h2⟩ := hc
  have h3 : i < U.length := by omega
  obtain ⟨t, ht⟩ : ∃ t, T[i] = t := ⟨_, rfl⟩
  obtain ⟨u, hu⟩ : ∃ u, U[i] = u := ⟨_, rfl⟩
  have g1 : ∀ d, (hlT T).getD i d = [.v (.int .i64 t.1.at_), .v (.slice t.2.1.1 t.1.old.length t.2.1.2), .v (.slice t.2.2.1 t.1.new.length t.2.2.2)] := fun d => by rw [hlT_get h1, ht]
  have g2 : ∀ d, (hlT U).getD i d = [.v (.int .i64 u.1.at_), .v (.slice u.2.1.1 u.1.old.length u.2.1.2), .v (.slice u.2.2.1 u.1.new.length u.2.2.2)] := fun d => by rw [hlT_get h3, hu]
  have hzl : ((T.zip U).take i).length = i := by rw [List.length_take, List.length_zip]; omega
  (repeat first | refine HWF_seq ?_ | refine fseqQ_normal ?_ | refine HWF_skip ?_ | refine fblkQ_normal ?_ | refine HWF_block ?_); refine HWF_of ?_
  (repeat first | refine zE ?_ | refine zA ?_ | refine zC ?_ | refine zB ?_ | refine zD ?_); refine zJ (fun K hK => ?_); simp (maxSteps := 2000000) (disch := omega) only [push_cast, ↓Int.cast_ofNat_Int, Nat.reduceBEq, Nat.reduceAdd, Nat.reduceLT, Nat.reduceEqDiff, reduceIte, reduceCtorEq, Nat.reduceLeDiff, Nat.reduceSub, List.reduceReplicate, Nat.reduceMul, Int.reduceToNat, Int.toNat_natCast, Nat.reducePow, reduceIte, hlT_len]; refine hK _ ?_; clear hK K
  (repeat first | refine HWF_seq ?_ | refine fseqQ_normal ?_ | refine HWF_skip ?_ | refine fblkQ_normal ?_ | refine HWF_block ?_); refine HWF_of ?_
  refine yD rfl ?_
  (repeat first | refine zK ?_ | refine zG ?_ | refine zH ?_ | refine zF rfl ?_ | refine zL ?_ | refine zB ?_ | refine zE ?_ | refine zA ?_ | refine zC ?_ | refine zT ?_ | refine zW ?_)
  (repeat first | refine HWF_seq ?_ | refine fseqQ_normal ?_ | refine HWF_skip ?_ | refine fblkQ_normal ?_ | refine HWF_block ?_); refine HWF_of ?_
  (repeat first | refine zE ?_ | refine zA ?_ | refine zC ?_ | refine zB ?_ | refine zD ?_); refine HW_drwR2 22 mixed (by kernel_rfl) (fun K hK K1 hK1 => ?_); simp (maxSteps := 2000000) (disch := omega) only [push_cast, ↓Int.cast_ofNat_Int, Nat.reduceBEq, Nat.reduceAdd, Nat.reduceLT, Nat.reduceEqDiff, reduceIte, reduceCtorEq, Nat.reduceLeDiff, Nat.reduceSub, List.reduceReplicate, Nat.reduceMul, Int.reduceToNat, Int.toNat_natCast, Nat.reducePow, reduceIte, hlT_len, g1, g2]
  refine hK1 _ ?_; (try clear hK1 K1); with_reducible refine hstop ?_; simp (maxSteps := 2000000) (disch := omega) only [push_cast, ↓Int.cast_ofNat_Int, Nat.reduceBEq, Nat.reduceAdd, Nat.reduceLT, Nat.reduceEqDiff, reduceIte, reduceCtorEq, Nat.reduceLeDiff, Nat.reduceSub, List.reduceReplicate, Nat.reduceMul, Int.reduceToNat, Int.toNat_natCast, Nat.reducePow, reduceIte, apL_len, hzl, hlT_kill, apL_only, List.map_append]
  refine ⟨by intro x hx; simp at hx; rcases hx with rfl | rfl | rfl | rfl <;> rfl, ?_⟩
  refine hK _ ?_; clear hK K
  (repeat first | refine HWF_seq ?_ | refine fseqQ_normal ?_ | refine HWF_skip ?_ | refine fblkQ_normal ?_ | refine HWF_block ?_); refine HWF_of ?_
  (repeat first | refine zE ?_ | refine zA ?_ | refine zC ?_ | refine zB ?_ | refine zD ?_); refine zJ (fun K hK => ?_); simp (maxSteps := 2000000) (disch := omega) only [push_cast, ↓Int.cast_ofNat_Int, Nat.reduceBEq, Nat.reduceAdd, Nat.reduceLT, Nat.reduceEqDiff, reduceIte, reduceCtorEq, Nat.reduceLeDiff, Nat.reduceSub, List.reduceReplicate, Nat.reduceMul, Int.reduceToNat, Int.toNat_natCast, Nat.reducePow, reduceIte]; refine hK _ ?_; clear hK K
  (repeat first | refine fseqQ_ret ?_ | refine fseqQ_exit ?_ | refine fblkQ_exit ?_ | refine fblkQ_other rfl ?_ | refine fblkQ_ret ?_ | refine fblkQ_normal ?_ | refine HWF_seq ?_ | refine fseqQ_normal ?_ | refine HWF_skip ?_ | refine HWF_exit ?_ | refine HWF_ret ?_)
  refine ⟨i + 1, ?_, rfl, ⟨h1, h2⟩, by omega⟩
  rw [List.take_succ_eq_append_getElem (by rw [List.length_zip]; omega), List.getElem_zip, ht, hu, ← apL_snoc]
  simp only [zZ, zR, zP, zQ, zN, zS, zM, zX, zU, Nat.reduceEqDiff, reduceIte]
  exact rfl
 ·have go : HWF Try.prog 120 (tailC 9 (Try.f3.body.getD .skip)) (ffunLQ Try.prog [.tmp 6] (.bool true)) (lvs T ++ lvs U) ⟨[(0, .lst false (strs a)), (1, .lst false (strs b)), (7, .own 1000000), (8, .own 1000001), (11, .own 352), (13, .own 512), (15, .own 552)],
   [(1000000, .sl true 9 1 (strs a)), (1000001, .sl true 9 1 (strs b)), (352, .sl true 33 3 (hks false (bH a b r))), (512, rowL U), (552, .hl true 22 1 (apL 1000000 1000001 ((T.zip U).take i)))]⟩ := by
   unfold Try.f3
   dsimp only [Option.getD_some, tailC]
   have hsz : ∀ x ∈ (bH a b r).map hkzO, x.old.length ≤ 140737488355328 ∧ x.new.length ≤ 140737488355328 := fun x hx => by
    obtain ⟨y, hy, rfl⟩ := List.mem_map.1 hx
    have := hsm y hy
    show y.old.length ≤ _ ∧ y.new.length ≤ _
    omega
   have c7 := hsames_H ((bH a b r).map hkzO) ((bH a b r).map hkzO) (by rw [List.length_map]; omega) (by rw [List.length_map]; omega) hsz hsz
   rw [decide_eq_true rfl, ← hks_hkzO] at c7
   have sa := same_H a a
   have sb := same_H b b
   rw [decide_eq_true rfl] at sa sb
   (repeat first | refine HWF_seq ?_ | refine fseqQ_normal ?_ | refine HWF_skip ?_ | refine fblkQ_normal ?_ | refine HWF_block ?_); refine HWF_reg (fun K hK => ?_); refine HV2F_cut 2 ?_; refine HV2F_of ?_; simp (maxSteps := 2000000) (disch := omega) only [push_cast, ↓Int.cast_ofNat_Int, Nat.reduceBEq, Nat.reduceAdd, Nat.reduceLT, Nat.reduceEqDiff, reduceIte, reduceCtorEq, Nat.reduceLeDiff, Nat.reduceSub, List.reduceReplicate, Nat.reduceMul, Int.reduceToNat, Int.toNat_natCast, Nat.reducePow, reduceIte]
   refine HV2F_readv cl7 c7 rfl rfl rfl rfl rfl (.cons (hU ▸ lendT rfl (fun f hf => List.mem_append_right _ hf)) (.cons (.of (lendO (hks_old _ _) rfl)) .nil)) ?_
   refine HV2F_cut 12 ?_; refine HV2F_of ?_; simp (maxSteps := 2000000) (disch := omega) only [push_cast, ↓Int.cast_ofNat_Int, Nat.reduceBEq, Nat.reduceAdd, Nat.reduceLT, Nat.reduceEqDiff, reduceIte, reduceCtorEq, Nat.reduceLeDiff, Nat.reduceSub, List.reduceReplicate, Nat.reduceMul, Int.reduceToNat, Int.toNat_natCast, Nat.reducePow, reduceIte]
   refine hatv cl8 sa (.cons (lendO (strs_old _) rfl) (.cons (lendL (strs_old _)) .nil)) ?_
   with_reducible refine hstop ?_; simp (maxSteps := 2000000) (disch := omega) only [push_cast, ↓Int.cast_ofNat_Int, Nat.reduceBEq, Nat.reduceAdd, Nat.reduceLT, Nat.reduceEqDiff, reduceIte, reduceCtorEq, Nat.reduceLeDiff, Nat.reduceSub, List.reduceReplicate, Nat.reduceMul, Int.reduceToNat, Int.toNat_natCast, Nat.reducePow, reduceIte]
   refine hatv cl8 sb (.cons (lendO (strs_old _) rfl) (.cons (lendL (strs_old _)) .nil)) ?_
   with_reducible refine hstop ?_; simp (maxSteps := 2000000) (disch := omega) only [push_cast, ↓Int.cast_ofNat_Int, Nat.reduceBEq, Nat.reduceAdd, Nat.reduceLT, Nat.reduceEqDiff, reduceIte, reduceCtorEq, Nat.reduceLeDiff, Nat.reduceSub, List.reduceReplicate, Nat.reduceMul, Int.reduceToNat, Int.toNat_natCast, Nat.reducePow, reduceIte]
   have hTb : ∀ t ∈ T, t.1.old.length ≤ 1000000000 ∧ t.1.new.length ≤ 1000000000 := fun t ht => by
    have := hsm t.1 (hT ▸ List.mem_map_of_mem ht)
    omega
   have hUb : ∀ t ∈ U, t.1.old.length ≤ 1000000000 ∧ t.1.new.length ≤ 1000000000 := fun t ht => by
    have := hsm t.1 (hU ▸ List.mem_map_of_mem ht)
    omega
   have hzl : ((T.zip U).take i).length = i := by rw [List.length_take, List.length_zip]; omega
   refine HV2F_apartE (te := 9) (sz := 1) (lid := 552) (tO := 22) apart_calls rfl (whoP 1000000 1000001 T.length) (apL_at rfl rfl (by omega) hi (by omega) (by omega) hTb hUb) (fun j _ => whoP_ne _ _ _ _ _ (by decide) (by decide)) (fun p q hp hq h => whoP_inj (by decide) hi p q (by rw [apL_len, hzl] at hp; exact hp) (by rw [apL_len, hzl] at hq; exact hq) h) (by rw [apL_len, hzl]; omega) [(116, .v (.bool true))] (hE_one rfl) cl9 rfl rfl rfl rfl rfl ?_
   refine HV2F_of ?_; simp (maxSteps := 2000000) (disch := omega) only [push_cast, ↓Int.cast_ofNat_Int, Nat.reduceBEq, Nat.reduceAdd, Nat.reduceLT, Nat.reduceEqDiff, reduceIte, reduceCtorEq, Nat.reduceLeDiff, Nat.reduceSub, List.reduceReplicate, Nat.reduceMul, Int.reduceToNat, Int.toNat_natCast, Nat.reducePow, reduceIte]
   refine hK _ _ ?_; clear hK K
   (repeat first | refine fseqQ_ret ?_ | refine fseqQ_exit ?_ | refine fblkQ_exit ?_ | refine fblkQ_other rfl ?_ | refine fblkQ_ret ?_ | refine fblkQ_normal ?_ | refine HWF_seq ?_ | refine fseqQ_normal ?_ | refine HWF_skip ?_ | refine HWF_exit ?_ | refine HWF_ret ?_)
   simp only [ffunLQ, yH, yE, yK, zS, zM, Nat.reduceEqDiff, reduceIte, reduceCtorEq]
  by_cases h1 : i < T.length
  ·have h2 : ¬ i < 20 := fun h => hc ⟨h1, h⟩
   (repeat first | refine HWF_seq ?_ | refine fseqQ_normal ?_ | refine HWF_skip ?_ | refine fblkQ_normal ?_ | refine HWF_block ?_); refine HWF_of ?_
   (repeat first | refine zE ?_ | refine zA ?_ | refine zC ?_ | refine zB ?_ | refine zD ?_); refine zJ (fun K hK => ?_); simp (maxSteps := 2000000) (disch := omega) only [push_cast, ↓Int.cast_ofNat_Int, Nat.reduceBEq, Nat.reduceAdd, Nat.reduceLT, Nat.reduceEqDiff, reduceIte, reduceCtorEq, Nat.reduceLeDiff, Nat.reduceSub, List.reduceReplicate, Nat.reduceMul, Int.reduceToNat, Int.toNat_natCast, Nat.reducePow, reduceIte, hlT_len]; refine hK _ ?_; clear hK K
   (repeat first | refine HWF_seq ?_ | refine fseqQ_normal ?_ | refine HWF_skip ?_ | refine fblkQ_normal ?_ | refine HWF_block ?_); refine HWF_of ?_
   refine yC rfl ?_
   (repeat first | refine zK ?_ | refine zG ?_ | refine zH ?_ | refine zF rfl ?_ | refine zL ?_ | refine zB ?_ | refine zE ?_ | refine zA ?_ | refine zC ?_ | refine zT ?_ | refine zW ?_)
   (repeat refine fseqQ_exit ?_); refine fblkQ_exit ?_; refine fseqQ_normal ?_
   refine HWF_keep [0, 1, 7, 8, 11, 13, 15] [1000000, 1000001, 352, 512, 552] (by simp only [zZ, zR, zP, zQ, zN, zS, zM, zX, zU, Nat.reduceEqDiff, reduceIte]; exact rfl) ?_
   exact go
  ·(repeat first | refine HWF_seq ?_ | refine fseqQ_normal ?_ | refine HWF_skip ?_ | refine fblkQ_normal ?_ | refine HWF_block ?_); refine HWF_of ?_
   (repeat first | refine zE ?_ | refine zA ?_ | refine zC ?_ | refine zB ?_ | refine zD ?_); refine zJ (fun K hK => ?_); simp (maxSteps := 2000000) (disch := omega) only [push_cast, ↓Int.cast_ofNat_Int, Nat.reduceBEq, Nat.reduceAdd, Nat.reduceLT, Nat.reduceEqDiff, reduceIte, reduceCtorEq, Nat.reduceLeDiff, Nat.reduceSub, List.reduceReplicate, Nat.reduceMul, Int.reduceToNat, Int.toNat_natCast, Nat.reducePow, reduceIte, hlT_len]; refine hK _ ?_; clear hK K
   (repeat first | refine HWF_seq ?_ | refine fseqQ_normal ?_ | refine HWF_skip ?_ | refine fblkQ_normal ?_ | refine HWF_block ?_); refine HWF_of ?_
   refine yC rfl ?_
   (repeat first | refine zK ?_ | refine zG ?_ | refine zH ?_ | refine zF rfl ?_ | refine zL ?_ | refine zB ?_ | refine zE ?_ | refine zA ?_ | refine zC ?_ | refine zT ?_ | refine zW ?_)
   (repeat refine fseqQ_exit ?_); refine fblkQ_exit ?_; refine fseqQ_normal ?_
   refine HWF_keep [0, 1, 7, 8, 11, 13, 15] [1000000, 1000001, 352, 512, 552] (by simp only [zZ, zR, zP, zQ, zN, zS, zM, zX, zU, Nat.reduceEqDiff, reduceIte]; exact rfl) ?_
   exact go
set_option maxHeartbeats 16000000 in
theorem pieces_T2 (w1 : -9223372036854775808 ≤ r) (w2 : r ≤ 9223372036854775807) (ha : a.length ≤ 1048576) (hb : b.length ≤ 1048576) (T : List HkV) (hT : T.map Prod.fst = bH a b r) :
  HWF Try.prog 120 (tailC 5 (Try.f3.body.getD .skip)) (ffunLQ Try.prog [.tmp 6] (.bool true)) (lvs T) ⟨[(0, .lst false (strs a)), (1, .lst false (strs b)), (2, .v (.int .i64 r)), (7, .own 1000000), (8, .vw 200 1 0 b.length), (9, .own 296), (10, .v (.int .i64 (bC a b r))), (11, .own 352), (12, .v (.int .i64 (bC a b r)))],
   [(1000000, .sl true 9 1 (strs a)), (200, .sl true 9 1 (strs b ++ [[FV.v (.string hspare)]])), (296, rowL T), (352, .sl true 33 3 (hks false (bH a b r)))]⟩ := by
 unfold Try.f3
 dsimp only [Option.getD_some, tailC]
 have hsm := bH_small a b r
 have hbl := bH_len a b r
 have hsz : ∀ x ∈ (bH a b r).map hkzO, x.old.length ≤ 140737488355328 ∧ x.new.length ≤ 140737488355328 := fun x hx => by
  obtain ⟨y, hy, rfl⟩ := List.mem_map.1 hx
  have := hsm y hy
  show y.old.length ≤ _ ∧ y.new.length ≤ _
  omega
 have c7 := hsames_H ((bH a b r).map hkzO) ((bH a b r).map hkzO) (by rw [List.length_map]; omega) (by rw [List.length_map]; omega) hsz hsz
 rw [decide_eq_true rfl, ← hks_hkzO] at c7
 generalize hcc : bC a b r = cc
 have e0 : decide (cc = cc) = true := decide_eq_true rfl
 (repeat first | refine HWF_seq ?_ | refine fseqQ_normal ?_ | refine HWF_skip ?_ | refine fblkQ_normal ?_ | refine HWF_block ?_); refine HWF_reg (fun K hK => ?_); refine HV2F_cut 10 ?_; refine HV2F_of ?_; simp (maxSteps := 2000000) (disch := omega) only [push_cast, ↓Int.cast_ofNat_Int, Nat.reduceBEq, Nat.reduceAdd, Nat.reduceLT, Nat.reduceEqDiff, reduceIte, reduceCtorEq, Nat.reduceLeDiff, Nat.reduceSub, List.reduceReplicate, Nat.reduceMul, Int.reduceToNat, Int.toNat_natCast, Nat.reducePow, reduceIte]
 refine hatv cl6 hawake_H .nil ?_
 with_reducible refine hstop ?_; simp (maxSteps := 2000000) (disch := omega) only [push_cast, ↓Int.cast_ofNat_Int, Nat.reduceBEq, Nat.reduceAdd, Nat.reduceLT, Nat.reduceEqDiff, reduceIte, reduceCtorEq, Nat.reduceLeDiff, Nat.reduceSub, List.reduceReplicate, Nat.reduceMul, Int.reduceToNat, Int.toNat_natCast, Nat.reducePow, reduceIte]
 refine HV2F_readv cl7 c7 rfl rfl rfl rfl rfl (.cons (hT ▸ lendT rfl (fun f hf => hf)) (.cons (.of (lendO (hks_old _ _) rfl)) .nil)) ?_
 refine HV2F_of ?_; simp (maxSteps := 2000000) (disch := omega) only [push_cast, ↓Int.cast_ofNat_Int, Nat.reduceBEq, Nat.reduceAdd, Nat.reduceLT, Nat.reduceEqDiff, reduceIte, reduceCtorEq, Nat.reduceLeDiff, Nat.reduceSub, List.reduceReplicate, Nat.reduceMul, Int.reduceToNat, Int.toNat_natCast, Nat.reducePow, reduceIte]
 refine hK _ _ ?_; clear hK K
 (repeat first | refine HWF_seq ?_ | refine fseqQ_normal ?_ | refine HWF_skip ?_ | refine fblkQ_normal ?_ | refine HWF_block ?_); refine HWF_of ?_
 refine yB [0, 1, 2, 7, 8, 9, 11, 59] [1000000, 200, 296, 352] (by simp only [zZ, zR, zP, zQ, zN, zS, zM, zX, zU, Nat.reduceEqDiff, reduceIte]; exact rfl) ?_
 refine HW_trim 200 (b.length) rfl (by exact strs_lt b) (by simp only [trim_eq, etrim_nil, etrim_cons, strim_nil, strim_cons, htrim_v, htrim_lst, htrim_own, htrim_ptr, htrim_vw, htrim_agg, htrim_tup, htrim_junk, rtrim_sl, rtrim_bx, rtrim_hl, Nat.sub_zero, true_and, eq_self, and_self, Nat.reduceMul, Nat.reduceAdd, Nat.reduceEqDiff, reduceIte, List.map_cons, List.map_nil, strs_tk, hlT_trim]; exact rfl) ?_
 refine HW_name 200 1000001 (by decide) rfl rfl (by simp only [name_eq, nm_eq, eren_nil, eren_cons, sren_nil, sren_cons, hren_v, hren_lst, hren_own, hren_ptr, hren_vw, hren_agg, hren_tup, hren_junk, rren_sl, rren_bx, rren_hl, Nat.reduceMul, Nat.reduceAdd, Nat.reduceEqDiff, reduceIte, List.map_cons, List.map_nil, List.map_append, hlT_ren]; exact rfl) ?_
 refine yC rfl ?_
 (repeat first | refine zK ?_ | refine zG ?_ | refine zH ?_ | refine zF rfl ?_ | refine zL ?_ | refine zB ?_ | refine zE ?_ | refine zA ?_ | refine zC ?_ | refine zT ?_ | refine zW ?_)
 (repeat first | refine HWF_seq ?_ | refine fseqQ_normal ?_ | refine HWF_skip ?_ | refine fblkQ_normal ?_ | refine HWF_block ?_); refine HWF_reg (fun K hK => ?_); refine HV2F_cut 3 ?_; refine HV2F_of ?_; simp (maxSteps := 2000000) (disch := omega) only [push_cast, ↓Int.cast_ofNat_Int, Nat.reduceBEq, Nat.reduceAdd, Nat.reduceLT, Nat.reduceEqDiff, reduceIte, reduceCtorEq, Nat.reduceLeDiff, Nat.reduceSub, List.reduceReplicate, Nat.reduceMul, Int.reduceToNat, Int.toNat_natCast, Nat.reducePow, reduceIte]
 refine HV2F_call 512 cl4 (between_FC a b r w1 w2) rfl rfl rfl rfl rfl (.cons (lendO (strs_old _) rfl) (.cons (lendO (strs_old _) rfl) (.cons (.v _) .nil))) ?_
 rintro _ _ _ ⟨U, hU, rfl, rfl, rfl⟩
 refine HV2F_of ?_; simp (maxSteps := 2000000) (disch := omega) only [push_cast, ↓Int.cast_ofNat_Int, Nat.reduceBEq, Nat.reduceAdd, Nat.reduceLT, Nat.reduceEqDiff, reduceIte, reduceCtorEq, Nat.reduceLeDiff, Nat.reduceSub, List.reduceReplicate, Nat.reduceMul, Int.reduceToNat, Int.toNat_natCast, Nat.reducePow, reduceIte, hlT_ren, hlT_kill]
 refine hK _ _ ?_; clear hK K
 refine fseqQ_normal ?_
 refine HWF_keep [0, 1, 7, 8, 9, 11, 13] [1000000, 1000001, 296, 352, 512] (by simp only [zZ, zR, zP, zQ, zN, zS, zM, zX, zU, Nat.reduceEqDiff, reduceIte]; exact rfl) ?_
 exact pieces_T3 ha hb T U hT hU
set_option maxHeartbeats 16000000 in
theorem hunkPieces_law (w1 : -9223372036854775808 ≤ r) (w2 : r ≤ 9223372036854775807) (ha : a.length ≤ 1048576) (hb : b.length ≤ 1048576) : HFun Try.prog 3 [.lst false (strs a), .lst false (strs b), .v (.int .i64 r)] (fun h st => h = .v (.bool true) ∧ st = []) := by
 refine hfunL (N := 120) Try.func3 rfl Try.ntmps3 Try.results3 (by simp) ?_
 (repeat first | refine HWF_seq ?_ | refine fseqQ_normal ?_ | refine HWF_skip ?_ | refine fblkQ_normal ?_ | refine HWF_block ?_); refine HWF_of ?_
 (repeat first | refine zE ?_ | refine zA ?_ | refine zC ?_ | refine zB ?_ | refine zD ?_); refine zJ (fun K hK => ?_); simp (maxSteps := 2000000) (disch := omega) only [push_cast, ↓Int.cast_ofNat_Int, Nat.reduceBEq, Nat.reduceAdd, Nat.reduceLT, Nat.reduceEqDiff, reduceIte, reduceCtorEq, Nat.reduceLeDiff, Nat.reduceSub, List.reduceReplicate, Nat.reduceMul, Int.reduceToNat, Int.toNat_natCast, Nat.reducePow, reduceIte]; refine hK _ ?_; clear hK K
 rw [show ({ data := #[115, 112, 97, 114, 101] } : ByteArray) = hspare from rfl]
 (repeat first | refine HWF_seq ?_ | refine fseqQ_normal ?_ | refine HWF_skip ?_ | refine fblkQ_normal ?_ | refine HWF_block ?_); refine HWF_of ?_
 (repeat first | refine zE ?_ | refine zA ?_ | refine zC ?_ | refine zB ?_ | refine zD ?_); refine zJ (fun K hK => ?_); simp (maxSteps := 2000000) (disch := omega) only [push_cast, ↓Int.cast_ofNat_Int, Nat.reduceBEq, Nat.reduceAdd, Nat.reduceLT, Nat.reduceEqDiff, reduceIte, reduceCtorEq, Nat.reduceLeDiff, Nat.reduceSub, List.reduceReplicate, Nat.reduceMul, Int.reduceToNat, Int.toNat_natCast, Nat.reducePow, reduceIte, strs_len, strs_wid]; (repeat refine ⟨by first | omega | decide | ((repeat' apply And.intro) <;> first | omega | decide), ?_⟩); refine hK _ ?_; clear hK K
 (repeat first | refine HWF_seq ?_ | refine fseqQ_normal ?_ | refine HWF_skip ?_ | refine fblkQ_normal ?_ | refine HWF_block ?_); refine HWF_of ?_
 refine yB [0, 1, 2, 7] [136] (by simp only [zZ, zR, zP, zQ, zN, zS, zM, zX, zU, Nat.reduceEqDiff, reduceIte]; exact rfl) ?_
 refine HW_trim 136 (a.length) rfl (by exact strs_lt a) (by simp only [trim_eq, etrim_nil, etrim_cons, strim_nil, strim_cons, htrim_v, htrim_lst, htrim_own, htrim_ptr, htrim_vw, htrim_agg, htrim_tup, htrim_junk, rtrim_sl, rtrim_bx, rtrim_hl, Nat.sub_zero, true_and, eq_self, and_self, Nat.reduceMul, Nat.reduceAdd, Nat.reduceEqDiff, reduceIte, List.map_cons, List.map_nil, strs_tk]; exact rfl) ?_
 refine HW_name 136 1000000 (by decide) rfl rfl (by simp only [name_eq, nm_eq, eren_nil, eren_cons, sren_nil, sren_cons, hren_v, hren_lst, hren_own, hren_ptr, hren_vw, hren_agg, hren_tup, hren_junk, rren_sl, rren_bx, rren_hl, Nat.reduceMul, Nat.reduceAdd, Nat.reduceEqDiff, reduceIte, List.map_cons, List.map_nil]; exact rfl) ?_
 (repeat first | refine zE ?_ | refine zA ?_ | refine zC ?_ | refine zB ?_ | refine zD ?_); refine zJ (fun K hK => ?_); simp (maxSteps := 2000000) (disch := omega) only [push_cast, ↓Int.cast_ofNat_Int, Nat.reduceBEq, Nat.reduceAdd, Nat.reduceLT, Nat.reduceEqDiff, reduceIte, reduceCtorEq, Nat.reduceLeDiff, Nat.reduceSub, List.reduceReplicate, Nat.reduceMul, Int.reduceToNat, Int.toNat_natCast, Nat.reducePow, reduceIte, strs_len, strs_wid]; (repeat refine ⟨by first | omega | decide | ((repeat' apply And.intro) <;> first | omega | decide), ?_⟩); refine hK _ ?_; clear hK K
 (repeat first | refine HWF_seq ?_ | refine fseqQ_normal ?_ | refine HWF_skip ?_ | refine fblkQ_normal ?_ | refine HWF_block ?_)
 refine HWF_keep [0, 1, 2, 7, 8] [1000000, 200] (by simp only [zZ, zR, zP, zQ, zN, zS, zM, zX, zU, Nat.reduceEqDiff, reduceIte]; exact rfl) ?_
 rw [Nat.sub_zero]
 have hv : olds (((strs b ++ [[FV.v (.string hspare)]]).drop 0).take b.length) = strs b := by
  rw [List.drop_zero, strs_tk, strs_old]
 (repeat first | refine HWF_seq ?_ | refine fseqQ_normal ?_ | refine HWF_skip ?_ | refine fblkQ_normal ?_ | refine HWF_block ?_); refine HWF_reg (fun K hK => ?_); refine HV2F_cut 3 ?_; refine HV2F_of ?_; simp (maxSteps := 2000000) (disch := omega) only [push_cast, ↓Int.cast_ofNat_Int, Nat.reduceBEq, Nat.reduceAdd, Nat.reduceLT, Nat.reduceEqDiff, reduceIte, reduceCtorEq, Nat.reduceLeDiff, Nat.reduceSub, List.reduceReplicate, Nat.reduceMul, Int.reduceToNat, Int.toNat_natCast, Nat.reducePow, reduceIte]
 refine HV2F_call 296 cl4 (between_FC a b r w1 w2) rfl rfl rfl rfl rfl (.cons (lendO (strs_old _) rfl) (.cons (lendV hv rfl) (.cons (.v _) .nil))) ?_
 rintro _ _ _ ⟨T, hT, rfl, rfl, rfl⟩
 refine HV2F_of ?_; simp (maxSteps := 2000000) (disch := omega) only [push_cast, ↓Int.cast_ofNat_Int, Nat.reduceBEq, Nat.reduceAdd, Nat.reduceLT, Nat.reduceEqDiff, reduceIte, reduceCtorEq, Nat.reduceLeDiff, Nat.reduceSub, List.reduceReplicate, Nat.reduceMul, Int.reduceToNat, Int.toNat_natCast, Nat.reducePow, reduceIte, hlT_ren, hlT_kill]
 refine hK _ _ ?_; clear hK K
 (repeat first | refine HWF_seq ?_ | refine fseqQ_normal ?_ | refine HWF_skip ?_ | refine fblkQ_normal ?_ | refine HWF_block ?_); refine HWF_reg (fun K hK => ?_); refine HV2F_cut 3 ?_; refine HV2F_of ?_; simp (maxSteps := 2000000) (disch := omega) only [push_cast, ↓Int.cast_ofNat_Int, Nat.reduceBEq, Nat.reduceAdd, Nat.reduceLT, Nat.reduceEqDiff, reduceIte, reduceCtorEq, Nat.reduceLeDiff, Nat.reduceSub, List.reduceReplicate, Nat.reduceMul, Int.reduceToNat, Int.toNat_natCast, Nat.reducePow, reduceIte]
 refine HV2F_view 352 cl5 (rbetween_VC a b r w1 w2) rfl rfl rfl rfl rfl (fun x hx => by simp at hx; rcases hx with rfl | rfl | rfl <;> first | exact .v _ | exact .lst _ _) ?_
 rintro _ _ ⟨rfl, rfl⟩
 refine HV2F_of ?_; simp (maxSteps := 2000000) (disch := omega) only [push_cast, ↓Int.cast_ofNat_Int, Nat.reduceBEq, Nat.reduceAdd, Nat.reduceLT, Nat.reduceEqDiff, reduceIte, reduceCtorEq, Nat.reduceLeDiff, Nat.reduceSub, List.reduceReplicate, Nat.reduceMul, Int.reduceToNat, Int.toNat_natCast, Nat.reducePow, reduceIte, hlT_ren, hlT_kill]
 refine hK _ _ ?_; clear hK K
 refine fseqQ_normal ?_
 refine HWF_keep [0, 1, 2, 7, 8, 9, 10, 11, 12] [1000000, 200, 296, 352] (by simp only [zZ, zR, zP, zQ, zN, zS, zM, zX, zU, Nat.reduceEqDiff, reduceIte]; exact rfl) ?_
 exact pieces_T2 w1 w2 ha hb T hT
end
theorem hpLen_sum (a : List ByteArray) : a.length ≤ (a.map fun s => s.size + 1).sum := by
 induction a with
 | nil => exact Nat.zero_le _
 | cons x r ih => simp only [List.map_cons, List.sum_cons, List.length_cons]; omega
theorem hunkPieces_U (a b : List ByteArray) (r : Int) (hs0 : a.length * 16 ≤ reachBytes) (hs1 : b.length * 16 ≤ reachBytes) (hw : (Lit.int .i64 r).wf = true) (hu : fw (.lst false (strs a)) + (fw (.lst false (strs b)) + (fw (.v (.int .i64 r)) + 0)) ≤ 1048576) :
  HFun Try.prog 3 [.lst false (strs a), .lst false (strs b), .v (.int .i64 r)] (fun h st => h = .v (.bool true)) := by
 have hb := hw
 simp only [Lit.wf, Bool.and_eq_true, decide_eq_true_eq] at hb
 rw [fw_strs, fw_strs] at hu
 have h0 := hpLen_sum a
 have h1 := hpLen_sum b
 exact (hunkPieces_law (a := a) (b := b) hb.1 hb.2 (by omega) (by omega)).mono fun h st q => q.1
end Go.Proofs.Ytfojmpimnidmkaa
