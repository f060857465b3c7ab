/-
  Recon: all paths right below another one, walked.
-/
import Derived.Test.YtdfjeokjmigkaaaGreatRcE
import Derived.Test.YtdfjeokjmigkaaaGreatItq
import Derived.Test.YtdfjeokjmigkaaaGreatItZ
import Derived.Test.YtdfjeokjmigkaaaGreatRcc
import Derived.Test.YtdfjeokjmigkaaaGreatTrV
set_option linter.unusedSimpArgs false
set_option linter.unusedVariables false
set_option maxRecDepth 20000
namespace Go.Rc
open Go Go.Eng Go.RowKit Go.Tr Go.Dk
structure TB (t : List Ent) : Prop where
 rise : rise t
 len : t.length ≤ 1000
 sz : ∀ e ∈ t, e.1.size ≤ 1048576
def trN (A H S : List Ent) (i : Nat) : List Ent := [A, H, S].getD i []
abbrev nmV (L : LN) : MTab := tab numV L
def nmI (top : ByteArray) (A H S : List Ent) : Nat → LN
 | 0 => []
 | i + 1 => (trN A H S i).foldl (nameStep top) (nmI top A H S i)
theorem nmI_all (top : ByteArray) (A H S : List Ent) : nmI top A H S 3 = namesG top (A ++ H ++ S) := by
 rw [namesG, List.foldl_append, List.foldl_append]; rfl
theorem nm_next {t : List Ent} {top : ByteArray} {L0 L : LN} {j : Nat} (h : j < t.length) (hL : L = (t.take j).foldl (nameStep top) L0) : (t.take (j + 1)).foldl (nameStep top) L0 = nameStep top L t[j] := by
 rw [List.take_succ_eq_append_getElem h, List.foldl_append, ← hL]; rfl
theorem vals_mono {n m : Int} {L : LN} (h : n ≤ m) (hv : Vals n L) : Vals m L := fun x hx => ⟨(hv x hx).1, Int.le_trans (hv x hx).2 h⟩
theorem undr_size {p q : ByteArray} (h : undr p q = true) : q.size ≤ p.size := by
 by_cases hq : q = { data := #[] }
 ·subst hq; exact Nat.zero_le _
 ·obtain ⟨t, ht, -⟩ := undr_list h hq
  rw [Lib.size_eq p, ht, List.length_append, ← Lib.size_eq]; omega
theorem step_none {top : ByteArray} {L : LN} {e : Ent} (h : nameOf top e = none) : nameStep top L e = L := by rw [nameStep, h]
theorem step_some {top q : ByteArray} {L : LN} {e : Ent} (h : nameOf top e = some q) : nameStep top L e = put q ((lookD L q).getD 0 + 1) L := by rw [nameStep, h]
theorem trN_tb {A H S : List Ent} (hA : TB A) (hH : TB H) (hS : TB S) {i : Nat} (h : i < 3) : TB (trN A H S i) := by
 rcases i with _ | _ | _ | i
 ·exact hA
 ·exact hH
 ·exact hS
 ·omega
theorem trN_get (A H S : List Ent) {i : Nat} (h : i < 3) : ([HV.lst false (ents A), .lst false (ents H), .lst false (ents S)] : List HV)[i]? = some (.lst false (ents (trN A H S i))) := by
 rcases i with _ | _ | _ | i
 ·rfl
 ·rfl
 ·rfl
 ·omega
end Go.Rc
namespace Go.Proofs.YtdfjeokjmigkaaaGreat
open Go Go.Eng Go.RowKit Go.Tr Go.Dk Go.Rc
set_option maxHeartbeats 4000000 in
theorem below_step {mg : (Int × ByteArray) → (Int × ByteArray) → (Int × ByteArray) → Bool} {A H S : List Ent} (hA : TB A) (hH : TB H) (hS : TB S) (k : Nat) (top : ByteArray) (htop : top.size ≤ 1048576)
  (IH : ∀ p ∈ (namesG top (A ++ H ++ S)).map (fun e => e.1), ∀ out : LN, out.length + (weighG mg (belowG mg A H S k) A H S p).length ≤ 1000000 → HFunS Tryz.prog 43 [.ptr 0 4 0 0, .v (.string p)] (wgS A H S out) (fun h st => h = .tup [] ∧ st = wgS A H S (out ++ weighG mg (belowG mg A H S k) A H S p)))
  (out : LN) (hout : out.length + (belowG mg A H S (k + 1) top).length ≤ 1000000) :
  HFunS Tryz.prog 28 [.ptr 0 4 0 0, .v (.string top)] (wgS A H S out) (fun h st => h = .tup [] ∧ st = wgS A H S (out ++ belowG mg A H S (k + 1) top)) := by
 refine hfunS (N := 82) Tryz.func28 rfl Tryz.ntmps28 Tryz.results28 (by simp) ?_
 refine HW_ofM ?_
 (repeat first | refine HWM_seq ?_ | refine msQ_normal ?_ | refine HWM_skip ?_ | refine mbQ_normal ?_ | refine HWM_block ?_)
 refine HWM_reg ?_
 refine HVM_make (cp := none) rfl rfl rfl kS fun r => ?_
 refine HVM_eng 1 (fun K1 hK1 => ?_); simp (maxSteps := 2000000) (disch := omega) only [push_cast, ↓Int.cast_ofNat_Int, Nat.reduceBEq, Nat.reduceAdd, Nat.reduceLT, Nat.reduceEqDiff, reduceIte, reduceCtorEq, Nat.reduceLeDiff, Nat.reduceSub, List.reduceReplicate, Nat.reduceMul, Int.reduceToNat, Int.toNat_natCast, Nat.reducePow, reduceIte, Option.getD_some, Bool.or_true, Bool.or_false, Bool.and_true, Bool.and_false, Nat.zero_add, pos_nil, yF, Option.map_some, Option.map_none, lookH_true, lookH_false]; refine hK1 _ ?_; (try clear hK1 K1)
 refine HVM_nil ?_
 (repeat first | refine HWM_seq ?_ | refine msQ_normal ?_ | refine HWM_skip ?_ | refine mbQ_normal ?_ | refine HWM_block ?_); refine HWM_drw 14 mixed (by kernel_rfl) (fun K1 hK1 => ?_); simp (maxSteps := 2000000) (disch := omega) only [push_cast, ↓Int.cast_ofNat_Int, Nat.reduceBEq, Nat.reduceAdd, Nat.reduceLT, Nat.reduceEqDiff, reduceIte, reduceCtorEq, Nat.reduceLeDiff, Nat.reduceSub, List.reduceReplicate, Nat.reduceMul, Int.reduceToNat, Int.toNat_natCast, Nat.reducePow, reduceIte]
 refine hK1 _ ?_; (try clear hK1 K1)
 refine HVM_nil ?_
 refine HWM_keep [0, 1, 4, 28, 29] [0, 1] (by simp only [zZ, zR, zP, zQ, zN, zS, zM, zX, zU, Nat.reduceEqDiff, reduceIte]; exact rfl) ?_
 (repeat first | refine HWM_seq ?_ | refine msQ_normal ?_ | refine HWM_skip ?_ | refine mbQ_normal ?_ | refine HWM_block ?_)
 refine HWM_loop (ι := Nat × Nat × LN) (fun q => ⟨[(0, .ptr 0 4 0 0), (1, .v (.string top)), (4, .v (.map (some r))), (28, .agg [.lst false (ents A), .lst false (ents H), .lst false (ents S)]), (29, .v (.int .i64 (q.1 : Int)))], wgS A H S out⟩)
  (fun q => [.map r kS q.2.1 (nmV q.2.2)]) (fun q => q.1 ≤ 3 ∧ q.2.2 = nmI top A H S q.1 ∧ q.2.1 ≤ 1000 * q.1 ∧ Vals ((1000 * q.1 : Nat) : Int) q.2.2) (fun q => 3 - q.1) [0, 1, 4, 28, 29] [0, 1] (0, 0, []) rfl rfl
  ⟨Nat.zero_le _, rfl, Nat.le_refl _, fun x hx => by cases hx⟩ ?_
 rintro ⟨i, n, L⟩ ⟨hi, hL, hn, hv⟩
 dsimp only at hi hL hn hv ⊢
 rcases (Decidable.em (i < 3)).symm with h1 | h1
 ·have hi3 : i = 3 := by omega
  subst hi3
  rw [nmI_all] at hL
  (repeat first | refine HWM_seq ?_ | refine msQ_normal ?_ | refine HWM_skip ?_ | refine mbQ_normal ?_ | refine HWM_block ?_); refine HWM_regE (fun K hK => ?_); simp (maxSteps := 2000000) (disch := omega) only [push_cast, ↓Int.cast_ofNat_Int, Nat.reduceBEq, Nat.reduceAdd, Nat.reduceLT, Nat.reduceEqDiff, reduceIte, reduceCtorEq, Nat.reduceLeDiff, Nat.reduceSub, List.reduceReplicate, Nat.reduceMul, Int.reduceToNat, Int.toNat_natCast, Nat.reducePow, reduceIte]; refine hK _ ?_; clear hK K
  (repeat first | refine HWM_seq ?_ | refine msQ_normal ?_ | refine HWM_skip ?_ | refine mbQ_normal ?_ | refine HWM_block ?_)
  refine HWM_false rfl ?_
  (repeat first | refine msQ_ret ?_ | refine msQ_exit ?_ | refine mbQ_exit ?_ | refine mbQ_other rfl ?_ | refine mbQ_ret ?_ | refine mbQ_normal ?_ | refine HWM_seq ?_ | refine msQ_normal ?_ | refine HWM_skip ?_ | refine HWM_exit ?_ | refine HWM_ret ?_)
  have hRi : Rise L := by rw [hL]; exact names_rise _ _ List.Pairwise.nil
  obtain ⟨ks, hks⟩ : ∃ ks, keysD L = ks := ⟨_, rfl⟩
  have hbel : belowG mg A H S (k + 1) top = ks.flatMap (weighG mg (belowG mg A H S k) A H S) := by rw [belowG, ← hks, hL]; rfl
  have hkm : ∀ p ∈ ks, p ∈ (namesG top (A ++ H ++ S)).map (fun e => e.1) := fun p hp => by rw [← hks, hL] at hp; exact hp
  have hkl : ks.length ≤ 3000 := by
   have e1 : ks.length = L.length := by rw [← hks]; simp [keysD]
   have e2 := names_len (top := top) (A ++ H ++ S) []
   rw [List.length_append, List.length_append, List.length_nil, ← namesG, ← hL] at e2
   have := hA.len
   have := hH.len
   have := hS.len
   omega
  (repeat first | refine HWM_seq ?_ | refine msQ_normal ?_ | refine HWM_skip ?_ | refine mbQ_normal ?_ | refine HWM_block ?_); refine HWM_reg ?_; refine HVM_eng 1 (fun K1 hK1 => ?_); simp (maxSteps := 2000000) (disch := omega) only [push_cast, ↓Int.cast_ofNat_Int, Nat.reduceBEq, Nat.reduceAdd, Nat.reduceLT, Nat.reduceEqDiff, reduceIte, reduceCtorEq, Nat.reduceLeDiff, Nat.reduceSub, List.reduceReplicate, Nat.reduceMul, Int.reduceToNat, Int.toNat_natCast, Nat.reducePow, reduceIte]; refine hK1 _ ?_; (try clear hK1 K1)
  refine HVM_keys (i := 0) (fI := 58) (tM := 64) 576 hRi (by omega) (by kernel_rfl) rfl rfl rfl rfl rfl rfl rfl rfl cl42 cl41 (fun b W => (callsIn_wide.1 (Tryz.mapsKeys (some b) W))) (fun b nn D0 w hown hmax hbytes => callsIn_wide.1 (Tryz.sortedKeys b nn D0 _ w hown hmax hbytes)) rfl rfl ?_
  refine HVM_eng 2 (fun K1 hK1 => ?_); simp (maxSteps := 2000000) (disch := omega) only [push_cast, ↓Int.cast_ofNat_Int, Nat.reduceBEq, Nat.reduceAdd, Nat.reduceLT, Nat.reduceEqDiff, reduceIte, reduceCtorEq, Nat.reduceLeDiff, Nat.reduceSub, List.reduceReplicate, Nat.reduceMul, Int.reduceToNat, Int.toNat_natCast, Nat.reducePow, reduceIte, Option.getD_some, Bool.or_true, Bool.or_false, Bool.and_true, Bool.and_false, Nat.zero_add, pos_nil, yF, Option.map_some, Option.map_none, lookH_true, lookH_false, strs_len]; refine hK1 _ ?_; (try clear hK1 K1)
  refine HVM_nil ?_
  rw [hks]
  refine HWM_keep [0, 72, 73, 74] [0, 1, 576] (by simp only [zZ, zR, zP, zQ, zN, zS, zM, zX, zU, Nat.reduceEqDiff, reduceIte]; exact rfl) ?_
  (repeat first | refine HWM_seq ?_ | refine msQ_normal ?_ | refine HWM_skip ?_ | refine mbQ_normal ?_ | refine HWM_block ?_)
  obtain ⟨W, hW⟩ : ∃ W, weighG mg (belowG mg A H S k) A H S = W := ⟨_, rfl⟩
  rw [hW] at IH hbel
  rw [hbel] at hout ⊢
  refine HWM_loop (ι := Nat × LN) (fun q => ⟨[(0, .ptr 0 4 0 0), (72, .own 576), (73, .v (.int .i64 (ks.length : Int))), (74, .v (.int .i64 (q.1 : Int)))], [(0, wgR A H S), (1, .sl true 31 2 (itl q.2)), (576, .sl true 9 1 (strs ks))]⟩)
   (fun q => [.map r kS n (nmV L)]) (fun q => q.1 ≤ ks.length ∧ q.2 = out ++ (ks.take q.1).flatMap W) (fun q => ks.length - q.1) [0, 72, 73, 74] [0, 1, 576] (0, out) rfl rfl
   ⟨Nat.zero_le _, by simp⟩ ?_
  rintro ⟨j, o⟩ ⟨hj, ho⟩
  dsimp only at hj ho ⊢
  rcases (Decidable.em (j < ks.length)).symm with h2 | h2
  ·have hjl : j = ks.length := by omega
   rw [hjl, List.take_length] at ho
   (repeat first | refine HWM_seq ?_ | refine msQ_normal ?_ | refine HWM_skip ?_ | refine mbQ_normal ?_ | refine HWM_block ?_); refine HWM_regE (fun K hK => ?_); simp (maxSteps := 2000000) (disch := omega) only [push_cast, ↓Int.cast_ofNat_Int, Nat.reduceBEq, Nat.reduceAdd, Nat.reduceLT, Nat.reduceEqDiff, reduceIte, reduceCtorEq, Nat.reduceLeDiff, Nat.reduceSub, List.reduceReplicate, Nat.reduceMul, Int.reduceToNat, Int.toNat_natCast, Nat.reducePow, reduceIte]; refine hK _ ?_; clear hK K
   (repeat first | refine HWM_seq ?_ | refine msQ_normal ?_ | refine HWM_skip ?_ | refine mbQ_normal ?_ | refine HWM_block ?_)
   refine HWM_false rfl ?_
   (repeat first | refine msQ_ret ?_ | refine msQ_exit ?_ | refine mbQ_exit ?_ | refine mbQ_other rfl ?_ | refine mbQ_ret ?_ | refine mbQ_normal ?_ | refine HWM_seq ?_ | refine msQ_normal ?_ | refine HWM_skip ?_ | refine HWM_exit ?_ | refine HWM_ret ?_)
   simp only [hfunSQ_normal, hfunSQ_ret, yH, yE, yK, yJ, htup_nil, zS, zM, Nat.reduceEqDiff, reduceIte, reduceCtorEq]
   refine hresS [0, 1] (by decide) (by decide) (by simp only [push_cast, pos_nil, yF, rpick_nil, yG, boxOk_nil, yL, keepB_nil, keepB_sl, keepB_hl, keepB_bt, keepB_bf, Option.getD_some, Option.map_some, Option.map_none, Nat.zero_add, hren_v, hren_lst, hren_own, hren_tup, hren_agg, rren_sl, rren_bx, rren_hl, List.map_cons, List.map_nil, Nat.reduceEqDiff, reduceIte, implies_true, and_self, true_and, and_true, true_implies, false_implies, Nat.reduceBEq, Nat.reduceAdd, Nat.reduceLT, Nat.reduceEqDiff, reduceIte, reduceCtorEq, Nat.reduceLeDiff, Nat.reduceSub, List.reduceReplicate, Nat.reduceMul, Int.reduceToNat, Int.toNat_natCast, Nat.reducePow, reduceIte]) (by simp only [push_cast, pos_nil, yF, rpick_nil, yG, boxOk_nil, yL, keepB_nil, keepB_sl, keepB_hl, keepB_bt, keepB_bf, Option.getD_some, Option.map_some, Option.map_none, Nat.zero_add, hren_v, hren_lst, hren_own, hren_tup, hren_agg, rren_sl, rren_bx, rren_hl, List.map_cons, List.map_nil, Nat.reduceEqDiff, reduceIte, implies_true, and_self, true_and, and_true, true_implies, false_implies, Nat.reduceBEq, Nat.reduceAdd, Nat.reduceLT, Nat.reduceEqDiff, reduceIte, reduceCtorEq, Nat.reduceLeDiff, Nat.reduceSub, List.reduceReplicate, Nat.reduceMul, Int.reduceToNat, Int.toNat_natCast, Nat.reducePow, reduceIte]) (by simp only [push_cast, pos_nil, yF, rpick_nil, yG, boxOk_nil, yL, keepB_nil, keepB_sl, keepB_hl, keepB_bt, keepB_bf, Option.getD_some, Option.map_some, Option.map_none, Nat.zero_add, hren_v, hren_lst, hren_own, hren_tup, hren_agg, rren_sl, rren_bx, rren_hl, List.map_cons, List.map_nil, Nat.reduceEqDiff, reduceIte, implies_true, and_self, true_and, and_true, true_implies, false_implies, Nat.reduceBEq, Nat.reduceAdd, Nat.reduceLT, Nat.reduceEqDiff, reduceIte, reduceCtorEq, Nat.reduceLeDiff, Nat.reduceSub, List.reduceReplicate, Nat.reduceMul, Int.reduceToNat, Int.toNat_natCast, Nat.reducePow, reduceIte]; rfl) (by simp only [push_cast, pos_nil, yF, rpick_nil, yG, boxOk_nil, yL, keepB_nil, keepB_sl, keepB_hl, keepB_bt, keepB_bf, Option.getD_some, Option.map_some, Option.map_none, Nat.zero_add, hren_v, hren_lst, hren_own, hren_tup, hren_agg, rren_sl, rren_bx, rren_hl, List.map_cons, List.map_nil, Nat.reduceEqDiff, reduceIte, implies_true, and_self, true_and, and_true, true_implies, false_implies, Nat.reduceBEq, Nat.reduceAdd, Nat.reduceLT, Nat.reduceEqDiff, reduceIte, reduceCtorEq, Nat.reduceLeDiff, Nat.reduceSub, List.reduceReplicate, Nat.reduceMul, Int.reduceToNat, Int.toNat_natCast, Nat.reducePow, reduceIte]; rfl) ?_
   exact ⟨rfl, by rw [ho]⟩
  obtain ⟨p, hp⟩ : ∃ p, p = ks[j] := ⟨_, rfl⟩
  have hgp : (strs ks).getD j [] = [FV.v (.string p)] := by rw [strs_get h2, hp]
  have hpm := hkm p (by rw [hp]; exact List.getElem_mem h2)
  have htk : ks.take (j + 1) = ks.take j ++ [p] := by rw [hp]; exact List.take_succ_eq_append_getElem h2
  have hfl : (ks.take (j + 1)).flatMap W = (ks.take j).flatMap W ++ W p := by rw [htk, List.flatMap_append]; simp
  have hlen : o.length + (W p).length ≤ 1000000 := by
   have e1 : ks.flatMap W = (ks.take (j + 1)).flatMap W ++ (ks.drop (j + 1)).flatMap W := by rw [← List.flatMap_append, List.take_append_drop]
   have e2 := congrArg List.length e1
   rw [hfl, List.length_append, List.length_append] at e2
   rw [ho, List.length_append]
   omega
  have cw := IH p hpm o hlen
  (repeat first | refine HWM_seq ?_ | refine msQ_normal ?_ | refine HWM_skip ?_ | refine mbQ_normal ?_ | refine HWM_block ?_); refine HWM_regE (fun K hK => ?_); simp (maxSteps := 2000000) (disch := omega) only [push_cast, ↓Int.cast_ofNat_Int, Nat.reduceBEq, Nat.reduceAdd, Nat.reduceLT, Nat.reduceEqDiff, reduceIte, reduceCtorEq, Nat.reduceLeDiff, Nat.reduceSub, List.reduceReplicate, Nat.reduceMul, Int.reduceToNat, Int.toNat_natCast, Nat.reducePow, reduceIte]; refine hK _ ?_; clear hK K
  (repeat first | refine HWM_seq ?_ | refine msQ_normal ?_ | refine HWM_skip ?_ | refine mbQ_normal ?_ | refine HWM_block ?_)
  refine HWM_true rfl ?_
  (repeat first | refine HWM_seq ?_ | refine msQ_normal ?_ | refine HWM_skip ?_ | refine mbQ_normal ?_ | refine HWM_block ?_); refine HWM_regE (fun K hK => ?_); simp (maxSteps := 2000000) (disch := omega) only [push_cast, ↓Int.cast_ofNat_Int, Nat.reduceBEq, Nat.reduceAdd, Nat.reduceLT, Nat.reduceEqDiff, reduceIte, reduceCtorEq, Nat.reduceLeDiff, Nat.reduceSub, List.reduceReplicate, Nat.reduceMul, Int.reduceToNat, Int.toNat_natCast, Nat.reducePow, reduceIte, strs_len, strs_wid, hgp]; (repeat refine ⟨by first | omega | decide | ((repeat' apply And.intro) <;> first | omega | decide), ?_⟩); refine hK _ ?_; clear hK K
  (repeat first | refine HWM_seq ?_ | refine msQ_normal ?_ | refine HWM_skip ?_ | refine mbQ_normal ?_ | refine HWM_block ?_); refine HWM_regE (fun K hK => ?_); simp (maxSteps := 2000000) (disch := omega) only [push_cast, ↓Int.cast_ofNat_Int, Nat.reduceBEq, Nat.reduceAdd, Nat.reduceLT, Nat.reduceEqDiff, reduceIte, reduceCtorEq, Nat.reduceLeDiff, Nat.reduceSub, List.reduceReplicate, Nat.reduceMul, Int.reduceToNat, Int.toNat_natCast, Nat.reducePow, reduceIte]
  refine hatS 640 [0, 1] cl43 (cw) rfl (by decide) (by decide) (by simp only [push_cast, pos_nil, yF, Option.getD_some, Bool.or_true, Bool.or_false, Bool.and_true, Bool.and_false, Option.map_some, Option.map_none, Nat.zero_add, Nat.reduceBEq, Nat.reduceAdd, Nat.reduceLT, Nat.reduceEqDiff, reduceIte, reduceCtorEq, Nat.reduceLeDiff, Nat.reduceSub, List.reduceReplicate, Nat.reduceMul, Int.reduceToNat, Int.toNat_natCast, Nat.reducePow, reduceIte]; try rfl) (by simp only [push_cast, pos_nil, yF, Option.getD_some, Bool.or_true, Bool.or_false, Bool.and_true, Bool.and_false, Option.map_some, Option.map_none, Nat.zero_add, Nat.reduceBEq, Nat.reduceAdd, Nat.reduceLT, Nat.reduceEqDiff, reduceIte, reduceCtorEq, Nat.reduceLeDiff, Nat.reduceSub, List.reduceReplicate, Nat.reduceMul, Int.reduceToNat, Int.toNat_natCast, Nat.reducePow, reduceIte]; try rfl) ?_
  rintro _ _ ⟨rfl, rfl⟩
  refine hstop ?_; simp (maxSteps := 2000000) (disch := omega) only [push_cast, ↓Int.cast_ofNat_Int, Nat.reduceBEq, Nat.reduceAdd, Nat.reduceLT, Nat.reduceEqDiff, reduceIte, reduceCtorEq, Nat.reduceLeDiff, Nat.reduceSub, List.reduceReplicate, Nat.reduceMul, Int.reduceToNat, Int.toNat_natCast, Nat.reducePow, reduceIte, Option.getD_some, Bool.or_true, Bool.or_false, Bool.and_true, Bool.and_false, Nat.zero_add, pos_nil, yF, Option.map_some, Option.map_none]
  refine hK _ ?_; clear hK K
  (repeat first | refine msQ_ret ?_ | refine msQ_exit ?_ | refine mbQ_exit ?_ | refine mbQ_other rfl ?_ | refine mbQ_ret ?_ | refine mbQ_normal ?_ | refine HWM_seq ?_ | refine msQ_normal ?_ | refine HWM_skip ?_ | refine HWM_exit ?_ | refine HWM_ret ?_)
  (repeat first | refine HWM_seq ?_ | refine msQ_normal ?_ | refine HWM_skip ?_ | refine mbQ_normal ?_ | refine HWM_block ?_); refine HWM_regE (fun K hK => ?_); simp (maxSteps := 2000000) (disch := omega) only [push_cast, ↓Int.cast_ofNat_Int, Nat.reduceBEq, Nat.reduceAdd, Nat.reduceLT, Nat.reduceEqDiff, reduceIte, reduceCtorEq, Nat.reduceLeDiff, Nat.reduceSub, List.reduceReplicate, Nat.reduceMul, Int.reduceToNat, Int.toNat_natCast, Nat.reducePow, reduceIte]; refine hK _ ?_; clear hK K
  (repeat first | refine msQ_ret ?_ | refine msQ_exit ?_ | refine mbQ_exit ?_ | refine mbQ_other rfl ?_ | refine mbQ_ret ?_ | refine mbQ_normal ?_ | refine HWM_seq ?_ | refine msQ_normal ?_ | refine HWM_skip ?_ | refine HWM_exit ?_ | refine HWM_ret ?_)
  refine ⟨(j + 1, o ++ W p), ?_, rfl, ⟨h2, by rw [hfl, ho, List.append_assoc]⟩, by dsimp only; omega⟩
  dsimp only
  rw [show (((j + 1 : Nat) : Int)) = (j : Int) + 1 from Int.natCast_succ j]
  rfl
 have htb := trN_tb hA hH hS h1
 have hge := trN_get A H S h1
 obtain ⟨t, ht⟩ : ∃ t, trN A H S i = t := ⟨_, rfl⟩
 rw [ht] at htb hge
 have htl := htb.len
 (repeat first | refine HWM_seq ?_ | refine msQ_normal ?_ | refine HWM_skip ?_ | refine mbQ_normal ?_ | refine HWM_block ?_); refine HWM_regE (fun K hK => ?_); simp (maxSteps := 2000000) (disch := omega) only [push_cast, ↓Int.cast_ofNat_Int, Nat.reduceBEq, Nat.reduceAdd, Nat.reduceLT, Nat.reduceEqDiff, reduceIte, reduceCtorEq, Nat.reduceLeDiff, Nat.reduceSub, List.reduceReplicate, Nat.reduceMul, Int.reduceToNat, Int.toNat_natCast, Nat.reducePow, reduceIte]; refine hK _ ?_; clear hK K
 (repeat first | refine HWM_seq ?_ | refine msQ_normal ?_ | refine HWM_skip ?_ | refine mbQ_normal ?_ | refine HWM_block ?_)
 refine HWM_true rfl ?_
 (repeat first | refine HWM_seq ?_ | refine msQ_normal ?_ | refine HWM_skip ?_ | refine mbQ_normal ?_ | refine HWM_block ?_); refine HWM_regE (fun K hK => ?_); simp (maxSteps := 2000000) (disch := omega) only [push_cast, ↓Int.cast_ofNat_Int, Nat.reduceBEq, Nat.reduceAdd, Nat.reduceLT, Nat.reduceEqDiff, reduceIte, reduceCtorEq, Nat.reduceLeDiff, Nat.reduceSub, List.reduceReplicate, Nat.reduceMul, Int.reduceToNat, Int.toNat_natCast, Nat.reducePow, reduceIte, hge]; (repeat refine ⟨by first | omega | decide | ((repeat' apply And.intro) <;> first | omega | decide), ?_⟩); refine hK _ ?_; clear hK K
 (repeat first | refine HWM_seq ?_ | refine msQ_normal ?_ | refine HWM_skip ?_ | refine mbQ_normal ?_ | refine HWM_block ?_); refine HWM_regE (fun K hK => ?_); simp (maxSteps := 2000000) (disch := omega) only [push_cast, ↓Int.cast_ofNat_Int, Nat.reduceBEq, Nat.reduceAdd, Nat.reduceLT, Nat.reduceEqDiff, reduceIte, reduceCtorEq, Nat.reduceLeDiff, Nat.reduceSub, List.reduceReplicate, Nat.reduceMul, Int.reduceToNat, Int.toNat_natCast, Nat.reducePow, reduceIte, yV]; refine hK _ ?_; clear hK K
 refine HWM_keep [0, 1, 4, 28, 29, 32, 33, 34] [0, 1] (by simp only [zZ, zR, zP, zQ, zN, zS, zM, zX, zU, Nat.reduceEqDiff, reduceIte]; exact rfl) ?_
 (repeat first | refine HWM_seq ?_ | refine msQ_normal ?_ | refine HWM_skip ?_ | refine mbQ_normal ?_ | refine HWM_block ?_)
 refine HWM_loop (ι := Nat × Nat × LN) (fun q => ⟨[(0, .ptr 0 4 0 0), (1, .v (.string top)), (4, .v (.map (some r))), (28, .agg [.lst false (ents A), .lst false (ents H), .lst false (ents S)]), (29, .v (.int .i64 (i : Int))), (32, .lst false (ents t)), (33, .v (.int .i64 (t.length : Int))), (34, .v (.int .i64 (q.1 : Int)))], wgS A H S out⟩)
  (fun q => [.map r kS q.2.1 (nmV q.2.2)]) (fun q => q.1 ≤ t.length ∧ q.2.2 = (t.take q.1).foldl (nameStep top) L ∧ q.2.1 ≤ 1000 * i + q.1 ∧ Vals ((1000 * i + q.1 : Nat) : Int) q.2.2) (fun q => t.length - q.1) [0, 1, 4, 28, 29, 32, 33, 34] [0, 1] (0, n, L) rfl rfl
  ⟨Nat.zero_le _, rfl, hn, hv⟩ ?_
 rintro ⟨j, m, M⟩ ⟨hj, hM, hm, hw⟩
 dsimp only at hj hM hm hw ⊢
 rcases (Decidable.em (j < t.length)).symm with h2 | h2
 ·have hjl : j = t.length := by omega
  rw [hjl, List.take_length] at hM
  (repeat first | refine HWM_seq ?_ | refine msQ_normal ?_ | refine HWM_skip ?_ | refine mbQ_normal ?_ | refine HWM_block ?_); refine HWM_regE (fun K hK => ?_); simp (maxSteps := 2000000) (disch := omega) only [push_cast, ↓Int.cast_ofNat_Int, Nat.reduceBEq, Nat.reduceAdd, Nat.reduceLT, Nat.reduceEqDiff, reduceIte, reduceCtorEq, Nat.reduceLeDiff, Nat.reduceSub, List.reduceReplicate, Nat.reduceMul, Int.reduceToNat, Int.toNat_natCast, Nat.reducePow, reduceIte]; refine hK _ ?_; clear hK K
  (repeat first | refine HWM_seq ?_ | refine msQ_normal ?_ | refine HWM_skip ?_ | refine mbQ_normal ?_ | refine HWM_block ?_)
  refine HWM_false rfl ?_
  (repeat first | refine msQ_ret ?_ | refine msQ_exit ?_ | refine mbQ_exit ?_ | refine mbQ_other rfl ?_ | refine mbQ_ret ?_ | refine mbQ_normal ?_ | refine HWM_seq ?_ | refine msQ_normal ?_ | refine HWM_skip ?_ | refine HWM_exit ?_ | refine HWM_ret ?_)
  (repeat first | refine HWM_seq ?_ | refine msQ_normal ?_ | refine HWM_skip ?_ | refine mbQ_normal ?_ | refine HWM_block ?_); refine HWM_regE (fun K hK => ?_); simp (maxSteps := 2000000) (disch := omega) only [push_cast, ↓Int.cast_ofNat_Int, Nat.reduceBEq, Nat.reduceAdd, Nat.reduceLT, Nat.reduceEqDiff, reduceIte, reduceCtorEq, Nat.reduceLeDiff, Nat.reduceSub, List.reduceReplicate, Nat.reduceMul, Int.reduceToNat, Int.toNat_natCast, Nat.reducePow, reduceIte]; refine hK _ ?_; clear hK K
  (repeat first | refine msQ_ret ?_ | refine msQ_exit ?_ | refine mbQ_exit ?_ | refine mbQ_other rfl ?_ | refine mbQ_ret ?_ | refine mbQ_normal ?_ | refine HWM_seq ?_ | refine msQ_normal ?_ | refine HWM_skip ?_ | refine HWM_exit ?_ | refine HWM_ret ?_)
  refine ⟨(i + 1, m, M), ?_, rfl, ⟨h1, ?_, by dsimp only; omega, vals_mono (by dsimp only; omega) hw⟩, by dsimp only; omega⟩
  ·dsimp only
   rw [show (((i + 1 : Nat) : Int)) = (i : Int) + 1 from Int.natCast_succ i]
   rfl
  ·show M = nmI top A H S (i + 1)
   rw [hM, hL, nmI, ht]
 have hnx := nm_next h2 hM
 have hes := htb.sz _ (List.getElem_mem h2)
 obtain ⟨e, he⟩ : ∃ e, t[j] = e := ⟨_, rfl⟩
 have heg : (ents t).getD j [] = [FV.v (.string e.1), .v (.int .i64 e.2.1), .v (.string e.2.2)] := by rw [yW h2, he]
 rw [he] at hnx hes
 obtain ⟨ep, ek, ed⟩ := e
 dsimp only at heg hes
 have skip : nameOf top (ep, ek, ed) = none → j + 1 ≤ t.length ∧ M = (t.take (j + 1)).foldl (nameStep top) L ∧ m ≤ 1000 * i + (j + 1) ∧ Vals ((1000 * i + (j + 1) : Nat) : Int) M := fun h =>
  ⟨h2, by rw [hnx, step_none h], by omega, vals_mono (by omega) hw⟩
 (repeat first | refine HWM_seq ?_ | refine msQ_normal ?_ | refine HWM_skip ?_ | refine mbQ_normal ?_ | refine HWM_block ?_); refine HWM_regE (fun K hK => ?_); simp (maxSteps := 2000000) (disch := omega) only [push_cast, ↓Int.cast_ofNat_Int, Nat.reduceBEq, Nat.reduceAdd, Nat.reduceLT, Nat.reduceEqDiff, reduceIte, reduceCtorEq, Nat.reduceLeDiff, Nat.reduceSub, List.reduceReplicate, Nat.reduceMul, Int.reduceToNat, Int.toNat_natCast, Nat.reducePow, reduceIte]; refine hK _ ?_; clear hK K
 (repeat first | refine HWM_seq ?_ | refine msQ_normal ?_ | refine HWM_skip ?_ | refine mbQ_normal ?_ | refine HWM_block ?_)
 refine HWM_true rfl ?_
 (repeat first | refine HWM_seq ?_ | refine msQ_normal ?_ | refine HWM_skip ?_ | refine mbQ_normal ?_ | refine HWM_block ?_); refine HWM_regE (fun K hK => ?_); simp (maxSteps := 2000000) (disch := omega) only [push_cast, ↓Int.cast_ofNat_Int, Nat.reduceBEq, Nat.reduceAdd, Nat.reduceLT, Nat.reduceEqDiff, reduceIte, reduceCtorEq, Nat.reduceLeDiff, Nat.reduceSub, List.reduceReplicate, Nat.reduceMul, Int.reduceToNat, Int.toNat_natCast, Nat.reducePow, reduceIte, yV, yU, heg]; (repeat refine ⟨by first | omega | decide | ((repeat' apply And.intro) <;> first | omega | decide), ?_⟩); refine hK _ ?_; clear hK K
 refine HWM_keep [0, 1, 4, 8, 28, 29, 32, 33, 34] [0, 1, 64] (by simp only [zZ, zR, zP, zQ, zN, zS, zM, zX, zU, Nat.reduceEqDiff, reduceIte]; exact rfl) ?_
 cases e1 : decide (ep = top) with
 | true =>
  have hinv := skip (by rw [nameOf, if_pos (.inl (of_decide_eq_true e1))])
  (repeat first | refine HWM_seq ?_ | refine msQ_normal ?_ | refine HWM_skip ?_ | refine mbQ_normal ?_ | refine HWM_block ?_); refine HWM_regE (fun K hK => ?_); simp (maxSteps := 2000000) (disch := omega) only [push_cast, ↓Int.cast_ofNat_Int, Nat.reduceBEq, Nat.reduceAdd, Nat.reduceLT, Nat.reduceEqDiff, reduceIte, reduceCtorEq, Nat.reduceLeDiff, Nat.reduceSub, List.reduceReplicate, Nat.reduceMul, Int.reduceToNat, Int.toNat_natCast, Nat.reducePow, reduceIte, e1]; (repeat refine ⟨by first | omega | decide | ((repeat' apply And.intro) <;> first | omega | decide), ?_⟩); refine hK _ ?_; clear hK K
  (repeat first | refine HWM_seq ?_ | refine msQ_normal ?_ | refine HWM_skip ?_ | refine mbQ_normal ?_ | refine HWM_block ?_)
  refine HWM_false rfl ?_
  (repeat first | refine msQ_ret ?_ | refine msQ_exit ?_ | refine mbQ_exit ?_ | refine mbQ_other rfl ?_ | refine mbQ_ret ?_ | refine mbQ_normal ?_ | refine HWM_seq ?_ | refine msQ_normal ?_ | refine HWM_skip ?_ | refine HWM_exit ?_ | refine HWM_ret ?_)
  (repeat first | refine HWM_seq ?_ | refine msQ_normal ?_ | refine HWM_skip ?_ | refine mbQ_normal ?_ | refine HWM_block ?_); refine HWM_regE (fun K hK => ?_); simp (maxSteps := 2000000) (disch := omega) only [push_cast, ↓Int.cast_ofNat_Int, Nat.reduceBEq, Nat.reduceAdd, Nat.reduceLT, Nat.reduceEqDiff, reduceIte, reduceCtorEq, Nat.reduceLeDiff, Nat.reduceSub, List.reduceReplicate, Nat.reduceMul, Int.reduceToNat, Int.toNat_natCast, Nat.reducePow, reduceIte]; refine hK _ ?_; clear hK K
  (repeat first | refine msQ_ret ?_ | refine msQ_exit ?_ | refine mbQ_exit ?_ | refine mbQ_other rfl ?_ | refine mbQ_ret ?_ | refine mbQ_normal ?_ | refine HWM_seq ?_ | refine msQ_normal ?_ | refine HWM_skip ?_ | refine HWM_exit ?_ | refine HWM_ret ?_)
  refine ⟨(j + 1, m, M), ?_, rfl, hinv, by dsimp only; omega⟩
  dsimp only
  rw [show (((j + 1 : Nat) : Int)) = (j : Int) + 1 from Int.natCast_succ j]
  rfl
 | false =>
 have cu := under_H ep top hes htop
 cases hu : undr ep top with
 | false =>
  rw [hu] at cu
  have hinv := skip (by rw [nameOf, if_pos (.inr (.inl hu))])
  (repeat first | refine HWM_seq ?_ | refine msQ_normal ?_ | refine HWM_skip ?_ | refine mbQ_normal ?_ | refine HWM_block ?_); refine HWM_regE (fun K hK => ?_); simp (maxSteps := 2000000) (disch := omega) only [push_cast, ↓Int.cast_ofNat_Int, Nat.reduceBEq, Nat.reduceAdd, Nat.reduceLT, Nat.reduceEqDiff, reduceIte, reduceCtorEq, Nat.reduceLeDiff, Nat.reduceSub, List.reduceReplicate, Nat.reduceMul, Int.reduceToNat, Int.toNat_natCast, Nat.reducePow, reduceIte, e1]
  refine hatv cl37 cu (.cons (.v _) (.cons (.v _) .nil)) ?_
  with_reducible refine hstop ?_; simp (maxSteps := 2000000) (disch := omega) only [push_cast, ↓Int.cast_ofNat_Int, Nat.reduceBEq, Nat.reduceAdd, Nat.reduceLT, Nat.reduceEqDiff, reduceIte, reduceCtorEq, Nat.reduceLeDiff, Nat.reduceSub, List.reduceReplicate, Nat.reduceMul, Int.reduceToNat, Int.toNat_natCast, Nat.reducePow, reduceIte]
  refine hK _ ?_; clear hK K
  (repeat first | refine HWM_seq ?_ | refine msQ_normal ?_ | refine HWM_skip ?_ | refine mbQ_normal ?_ | refine HWM_block ?_)
  refine HWM_false rfl ?_
  (repeat first | refine msQ_ret ?_ | refine msQ_exit ?_ | refine mbQ_exit ?_ | refine mbQ_other rfl ?_ | refine mbQ_ret ?_ | refine mbQ_normal ?_ | refine HWM_seq ?_ | refine msQ_normal ?_ | refine HWM_skip ?_ | refine HWM_exit ?_ | refine HWM_ret ?_)
  (repeat first | refine HWM_seq ?_ | refine msQ_normal ?_ | refine HWM_skip ?_ | refine mbQ_normal ?_ | refine HWM_block ?_); refine HWM_regE (fun K hK => ?_); simp (maxSteps := 2000000) (disch := omega) only [push_cast, ↓Int.cast_ofNat_Int, Nat.reduceBEq, Nat.reduceAdd, Nat.reduceLT, Nat.reduceEqDiff, reduceIte, reduceCtorEq, Nat.reduceLeDiff, Nat.reduceSub, List.reduceReplicate, Nat.reduceMul, Int.reduceToNat, Int.toNat_natCast, Nat.reducePow, reduceIte]; refine hK _ ?_; clear hK K
  (repeat first | refine msQ_ret ?_ | refine msQ_exit ?_ | refine mbQ_exit ?_ | refine mbQ_other rfl ?_ | refine mbQ_ret ?_ | refine mbQ_normal ?_ | refine HWM_seq ?_ | refine msQ_normal ?_ | refine HWM_skip ?_ | refine HWM_exit ?_ | refine HWM_ret ?_)
  refine ⟨(j + 1, m, M), ?_, rfl, hinv, by dsimp only; omega⟩
  dsimp only
  rw [show (((j + 1 : Nat) : Int)) = (j : Int) + 1 from Int.natCast_succ j]
  rfl
 | true =>
 rw [hu] at cu
 have hts := undr_size hu
 (repeat first | refine HWM_seq ?_ | refine msQ_normal ?_ | refine HWM_skip ?_ | refine mbQ_normal ?_ | refine HWM_block ?_); refine HWM_regE (fun K hK => ?_); simp (maxSteps := 2000000) (disch := omega) only [push_cast, ↓Int.cast_ofNat_Int, Nat.reduceBEq, Nat.reduceAdd, Nat.reduceLT, Nat.reduceEqDiff, reduceIte, reduceCtorEq, Nat.reduceLeDiff, Nat.reduceSub, List.reduceReplicate, Nat.reduceMul, Int.reduceToNat, Int.toNat_natCast, Nat.reducePow, reduceIte, e1]
 refine hatv cl37 cu (.cons (.v _) (.cons (.v _) .nil)) ?_
 with_reducible refine hstop ?_; simp (maxSteps := 2000000) (disch := omega) only [push_cast, ↓Int.cast_ofNat_Int, Nat.reduceBEq, Nat.reduceAdd, Nat.reduceLT, Nat.reduceEqDiff, reduceIte, reduceCtorEq, Nat.reduceLeDiff, Nat.reduceSub, List.reduceReplicate, Nat.reduceMul, Int.reduceToNat, Int.toNat_natCast, Nat.reducePow, reduceIte]
 refine hK _ ?_; clear hK K
 (repeat first | refine HWM_seq ?_ | refine msQ_normal ?_ | refine HWM_skip ?_ | refine mbQ_normal ?_ | refine HWM_block ?_)
 refine HWM_true rfl ?_
 refine HWM_keep [0, 1, 4, 8, 28, 29, 32, 33, 34] [0, 1, 64] (by simp only [zZ, zR, zP, zQ, zN, zS, zM, zX, zU, Nat.reduceEqDiff, reduceIte]; exact rfl) ?_
 have ct := trim_H (ep.extract top.size ep.size)
 have hxs : (trimS (ep.extract top.size ep.size)).size ≤ 1048576 := by
  have e2 : (ep.extract top.size ep.size).size ≤ ep.size := by rw [ByteArray.size_extract]; omega
  unfold trimS
  split
  ·rw [ByteArray.size_extract]; omega
  ·omega
 (repeat first | refine HWM_seq ?_ | refine msQ_normal ?_ | refine HWM_skip ?_ | refine mbQ_normal ?_ | refine HWM_block ?_); refine HWM_regE (fun K hK => ?_); simp (maxSteps := 2000000) (disch := omega) only [push_cast, ↓Int.cast_ofNat_Int, Nat.reduceBEq, Nat.reduceAdd, Nat.reduceLT, Nat.reduceEqDiff, reduceIte, reduceCtorEq, Nat.reduceLeDiff, Nat.reduceSub, List.reduceReplicate, Nat.reduceMul, Int.reduceToNat, Int.toNat_natCast, Nat.reducePow, reduceIte]
 refine ⟨⟨by omega, by omega, by omega⟩, ?_⟩
 refine hatv cl38 ct (.cons (.v _) (.cons (.v _) .nil)) ?_
 with_reducible refine hstop ?_; simp (maxSteps := 2000000) (disch := omega) only [push_cast, ↓Int.cast_ofNat_Int, Nat.reduceBEq, Nat.reduceAdd, Nat.reduceLT, Nat.reduceEqDiff, reduceIte, reduceCtorEq, Nat.reduceLeDiff, Nat.reduceSub, List.reduceReplicate, Nat.reduceMul, Int.reduceToNat, Int.toNat_natCast, Nat.reducePow, reduceIte]
 refine hK _ ?_; clear hK K
 refine HWM_keep [0, 1, 4, 9, 28, 29, 32, 33, 34] [0, 1] (by simp only [zZ, zR, zP, zQ, zN, zS, zM, zX, zU, Nat.reduceEqDiff, reduceIte]; exact rfl) ?_
 (repeat first | refine HWM_seq ?_ | refine msQ_normal ?_ | refine HWM_skip ?_ | refine mbQ_normal ?_ | refine HWM_block ?_); refine HWM_regE (fun K hK => ?_); simp (maxSteps := 2000000) (disch := omega) only [push_cast, ↓Int.cast_ofNat_Int, Nat.reduceBEq, Nat.reduceAdd, Nat.reduceLT, Nat.reduceEqDiff, reduceIte, reduceCtorEq, Nat.reduceLeDiff, Nat.reduceSub, List.reduceReplicate, Nat.reduceMul, Int.reduceToNat, Int.toNat_natCast, Nat.reducePow, reduceIte]
 refine hatt cl39 (scut_H _ hxs) (.cons (.v _) (.cons (.v _) .nil)) ?_
 with_reducible refine hstop ?_; simp (maxSteps := 2000000) (disch := omega) only [push_cast, ↓Int.cast_ofNat_Int, Nat.reduceBEq, Nat.reduceAdd, Nat.reduceLT, Nat.reduceEqDiff, reduceIte, reduceCtorEq, Nat.reduceLeDiff, Nat.reduceSub, List.reduceReplicate, Nat.reduceMul, Int.reduceToNat, Int.toNat_natCast, Nat.reducePow, reduceIte]
 refine hK _ ?_; clear hK K
 obtain ⟨f, hf⟩ : ∃ f, vol (trimS (ep.extract top.size ep.size)) = f := ⟨_, rfl⟩
 have hff : firstP ep top = f := hf
 have hfs : f.size ≤ 1048576 := by rw [← hf]; exact Nat.le_trans (vol_le _) hxs
 rw [hf]
 refine HWM_keep [0, 1, 4, 10, 28, 29, 32, 33, 34] [0, 1] (by simp only [zZ, zR, zP, zQ, zN, zS, zM, zX, zU, Nat.reduceEqDiff, reduceIte]; exact rfl) ?_
 cases e2 : decide (f = { data := #[] }) with
 | true =>
  have hinv := skip (by rw [nameOf, if_pos (.inr (.inr (by show firstP ep top = _; rw [hff]; exact of_decide_eq_true e2)))])
  (repeat first | refine HWM_seq ?_ | refine msQ_normal ?_ | refine HWM_skip ?_ | refine mbQ_normal ?_ | refine HWM_block ?_); refine HWM_regE (fun K hK => ?_); simp (maxSteps := 2000000) (disch := omega) only [push_cast, ↓Int.cast_ofNat_Int, Nat.reduceBEq, Nat.reduceAdd, Nat.reduceLT, Nat.reduceEqDiff, reduceIte, reduceCtorEq, Nat.reduceLeDiff, Nat.reduceSub, List.reduceReplicate, Nat.reduceMul, Int.reduceToNat, Int.toNat_natCast, Nat.reducePow, reduceIte, e2]; (repeat refine ⟨by first | omega | decide | ((repeat' apply And.intro) <;> first | omega | decide), ?_⟩); refine hK _ ?_; clear hK K
  (repeat first | refine HWM_seq ?_ | refine msQ_normal ?_ | refine HWM_skip ?_ | refine mbQ_normal ?_ | refine HWM_block ?_)
  refine HWM_false rfl ?_
  (repeat first | refine msQ_ret ?_ | refine msQ_exit ?_ | refine mbQ_exit ?_ | refine mbQ_other rfl ?_ | refine mbQ_ret ?_ | refine mbQ_normal ?_ | refine HWM_seq ?_ | refine msQ_normal ?_ | refine HWM_skip ?_ | refine HWM_exit ?_ | refine HWM_ret ?_)
  (repeat first | refine HWM_seq ?_ | refine msQ_normal ?_ | refine HWM_skip ?_ | refine mbQ_normal ?_ | refine HWM_block ?_); refine HWM_regE (fun K hK => ?_); simp (maxSteps := 2000000) (disch := omega) only [push_cast, ↓Int.cast_ofNat_Int, Nat.reduceBEq, Nat.reduceAdd, Nat.reduceLT, Nat.reduceEqDiff, reduceIte, reduceCtorEq, Nat.reduceLeDiff, Nat.reduceSub, List.reduceReplicate, Nat.reduceMul, Int.reduceToNat, Int.toNat_natCast, Nat.reducePow, reduceIte]; refine hK _ ?_; clear hK K
  (repeat first | refine msQ_ret ?_ | refine msQ_exit ?_ | refine mbQ_exit ?_ | refine mbQ_other rfl ?_ | refine mbQ_ret ?_ | refine mbQ_normal ?_ | refine HWM_seq ?_ | refine msQ_normal ?_ | refine HWM_skip ?_ | refine HWM_exit ?_ | refine HWM_ret ?_)
  refine ⟨(j + 1, m, M), ?_, rfl, hinv, by dsimp only; omega⟩
  dsimp only
  rw [show (((j + 1 : Nat) : Int)) = (j : Int) + 1 from Int.natCast_succ j]
  rfl
 | false =>
 have hno : nameOf top (ep, ek, ed) = some (joinP top f) := by
  rw [nameOf, if_neg]
  ·show some (joinP top (firstP ep top)) = _
   rw [hff]
  ·show ¬ (ep = top ∨ undr ep top = false ∨ firstP ep top = _)
   rw [hff, hu]
   simp only [not_or]
   exact ⟨of_decide_eq_false e1, by decide, of_decide_eq_false e2⟩
 have hqs := name_size hno
 have hq2 : (joinP top f).size ≤ 1048576 := Nat.le_trans hqs.2 hes
 have cj := join_H top f htop hfs
 rw [step_some hno] at hnx
 generalize joinP top f = q at hno hqs hq2 cj hnx
 (repeat first | refine HWM_seq ?_ | refine msQ_normal ?_ | refine HWM_skip ?_ | refine mbQ_normal ?_ | refine HWM_block ?_); refine HWM_regE (fun K hK => ?_); simp (maxSteps := 2000000) (disch := omega) only [push_cast, ↓Int.cast_ofNat_Int, Nat.reduceBEq, Nat.reduceAdd, Nat.reduceLT, Nat.reduceEqDiff, reduceIte, reduceCtorEq, Nat.reduceLeDiff, Nat.reduceSub, List.reduceReplicate, Nat.reduceMul, Int.reduceToNat, Int.toNat_natCast, Nat.reducePow, reduceIte, e2]; (repeat refine ⟨by first | omega | decide | ((repeat' apply And.intro) <;> first | omega | decide), ?_⟩); refine hK _ ?_; clear hK K
 (repeat first | refine HWM_seq ?_ | refine msQ_normal ?_ | refine HWM_skip ?_ | refine mbQ_normal ?_ | refine HWM_block ?_)
 refine HWM_true rfl ?_
 (repeat first | refine HWM_seq ?_ | refine msQ_normal ?_ | refine HWM_skip ?_ | refine mbQ_normal ?_ | refine HWM_block ?_); refine HWM_reg ?_; refine HVM_eng 4 (fun K1 hK1 => ?_); simp (maxSteps := 2000000) (disch := omega) only [push_cast, ↓Int.cast_ofNat_Int, Nat.reduceBEq, Nat.reduceAdd, Nat.reduceLT, Nat.reduceEqDiff, reduceIte, reduceCtorEq, Nat.reduceLeDiff, Nat.reduceSub, List.reduceReplicate, Nat.reduceMul, Int.reduceToNat, Int.toNat_natCast, Nat.reducePow, reduceIte]
 refine hatv cl40 cj (.cons (.v _) (.cons (.v _) .nil)) ?_
 with_reducible refine hstop ?_; simp (maxSteps := 2000000) (disch := omega) only [push_cast, ↓Int.cast_ofNat_Int, Nat.reduceBEq, Nat.reduceAdd, Nat.reduceLT, Nat.reduceEqDiff, reduceIte, reduceCtorEq, Nat.reduceLeDiff, Nat.reduceSub, List.reduceReplicate, Nat.reduceMul, Int.reduceToNat, Int.toNat_natCast, Nat.reducePow, reduceIte]
 refine hK1 _ ?_; (try clear hK1 K1)
 have hlv := lookD_vals hw (by omega) q
 obtain ⟨v, hvv⟩ : ∃ v, (lookD M q).getD 0 = v := ⟨_, rfl⟩
 rw [hvv] at hlv hnx
 have hlk : lookH (nmV M q.data.toList) (.int .i64 0) false = .v (.int .i64 v) := by rw [← hvv, ← num_look]; rfl
 refine HVM_look (i := 0) mtL rfl rfl rfl rfl rfl rfl (mx hq2) ?_
 rw [hlk]
 have hwr : IntKind.i64.wrap (v + 1) = v + 1 := by rw [IntKind.wrap_i64]; omega
 refine HVM_eng 1 (fun K1 hK1 => ?_); simp (maxSteps := 2000000) (disch := omega) only [push_cast, ↓Int.cast_ofNat_Int, Nat.reduceBEq, Nat.reduceAdd, Nat.reduceLT, Nat.reduceEqDiff, reduceIte, reduceCtorEq, Nat.reduceLeDiff, Nat.reduceSub, List.reduceReplicate, Nat.reduceMul, Int.reduceToNat, Int.toNat_natCast, Nat.reducePow, reduceIte, Option.getD_some, Bool.or_true, Bool.or_false, Bool.and_true, Bool.and_false, Nat.zero_add, pos_nil, yF, Option.map_some, Option.map_none, lookH_true, lookH_false, hwr]; refine hK1 _ ?_; (try clear hK1 K1)
 have hmx : m < maxLen := by simp only [maxLen]; omega
 refine HVM_upd (i := 0) mtL rfl rfl rfl rfl (hmx) rfl rfl (mx hq2) rfl rfl ?_
 refine HVM_eng 0 (fun K1 hK1 => ?_); simp (maxSteps := 2000000) (disch := omega) only [push_cast, ↓Int.cast_ofNat_Int, Nat.reduceBEq, Nat.reduceAdd, Nat.reduceLT, Nat.reduceEqDiff, reduceIte, reduceCtorEq, Nat.reduceLeDiff, Nat.reduceSub, List.reduceReplicate, Nat.reduceMul, Int.reduceToNat, Int.toNat_natCast, Nat.reducePow, reduceIte, Option.getD_some, Bool.or_true, Bool.or_false, Bool.and_true, Bool.and_false, Nat.zero_add, pos_nil, yF, Option.map_some, Option.map_none, lookH_true, lookH_false]; refine hK1 _ ?_; (try clear hK1 K1)
 refine HVM_nil ?_
 (repeat first | refine msQ_ret ?_ | refine msQ_exit ?_ | refine mbQ_exit ?_ | refine mbQ_other rfl ?_ | refine mbQ_ret ?_ | refine mbQ_normal ?_ | refine HWM_seq ?_ | refine msQ_normal ?_ | refine HWM_skip ?_ | refine HWM_exit ?_ | refine HWM_ret ?_)
 (repeat first | refine HWM_seq ?_ | refine msQ_normal ?_ | refine HWM_skip ?_ | refine mbQ_normal ?_ | refine HWM_block ?_); refine HWM_regE (fun K hK => ?_); simp (maxSteps := 2000000) (disch := omega) only [push_cast, ↓Int.cast_ofNat_Int, Nat.reduceBEq, Nat.reduceAdd, Nat.reduceLT, Nat.reduceEqDiff, reduceIte, reduceCtorEq, Nat.reduceLeDiff, Nat.reduceSub, List.reduceReplicate, Nat.reduceMul, Int.reduceToNat, Int.toNat_natCast, Nat.reducePow, reduceIte]; refine hK _ ?_; clear hK K
 (repeat first | refine msQ_ret ?_ | refine msQ_exit ?_ | refine mbQ_exit ?_ | refine mbQ_other rfl ?_ | refine mbQ_ret ?_ | refine mbQ_normal ?_ | refine HWM_seq ?_ | refine msQ_normal ?_ | refine HWM_skip ?_ | refine HWM_exit ?_ | refine HWM_ret ?_)
 refine ⟨(j + 1, m + 1, put q (v + 1) M), ?_, ?_, ⟨h2, hnx.symm, by dsimp only; omega, ?_⟩, by dsimp only; omega⟩
 ·dsimp only
  rw [show (((j + 1 : Nat) : Int)) = (j : Int) + 1 from Int.natCast_succ j]
  rfl
 ·dsimp only
  rw [show nmV (put q (v + 1) M) = (nmV M).put q.data.toList (Value.int .i64 (v + 1)) from (tab_put numV M q (v + 1)).symm]
  rfl
 ·have h3 := step_vals (top := top) (ep, ek, ed) hw (by omega)
  rw [step_some hno, hvv] at h3
  exact vals_mono (by dsimp only; omega) h3
end Go.Proofs.YtdfjeokjmigkaaaGreat
