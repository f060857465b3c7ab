/-
  The law DiskFills: a volume never passes its limit.
-/
import Derived.Test.YtojolcpblacjjaaDoorDkW
import Derived.Test.YtojolcpblacjjaaDoorDkI
import Derived.Test.YtojolcpblacjjaaDoorUpt
set_option linter.unusedSimpArgs false
set_option linter.unusedVariables false
set_option maxRecDepth 20000
namespace Go.Proofs.YtojolcpblacjjaaDoor
open Go Go.Eng Go.RowKit Go.Tr Go.Dk
def sW : ByteArray := { data := #[119] }
def sWa : ByteArray := { data := #[119, 47, 97] }
def sVc : ByteArray := { data := #[118, 47, 99] }
def sFree : ByteArray := { data := #[102, 114, 101, 101] }
def dF2 : Dk := ⟨[(sV, itmD), (sW, itmD)], [], 2, 0, -1, false, 2, 0⟩
def dF3 : Dk := ⟨[(sV, itmD), (sW, itmD), (sWa, ⟨false, sFree, ByteArray.empty, true, true, 1⟩)], [], 3, 1, -1, false, 3, 0⟩
theorem fi2 : mkdir dA1 sW = (0, dF2) := by kernel_rfl
theorem fi3 : write dF2 sWa sFree = (0, dF3) := by kernel_rfl
theorem ok_F2 : dF2.Ok BB := ⟨rise_two (by decide), by intro e he; simp only [dF2, List.mem_cons, List.not_mem_nil, or_false] at he; rcases he with rfl | rfl <;> decide, by decide, by decide, by decide, by decide, by decide, by decide⟩
theorem rise_F3 : Rise dF3.L := by
 have h1 : blt sV sW = true := by rw [← bltD_eq]; decide
 have h2 : blt sV sWa = true := by rw [← bltD_eq]; decide
 have h3 : blt sW sWa = true := by rw [← bltD_eq]; decide
 simp [Rise, dF3, h1, h2, h3]
theorem ok_F3 : dF3.Ok 16 := ⟨rise_F3, by intro e he; simp only [dF3, List.mem_cons, List.not_mem_nil, or_false] at he; rcases he with rfl | rfl | rfl <;> decide, by decide, by decide, by decide, by decide, by decide, by decide⟩
def dF4 (n : Int) : Dk := { dF3 with R := [(sV, n)], m := 1 }
theorem ok_F4 (n : Int) : (dF4 n).Ok 16 := ⟨rise_F3, ok_F3.keys, ok_F3.size, ok_F3.n, by show ((1 : Nat) : Int) ≤ 16; decide, ok_F3.steps, ok_F3.stamps, ok_F3.armed⟩
theorem fi4 {n : Int} (h : ¬ n < 0) : limit dF3 sV n = (0, dF4 n) := by
 have e : pOk sV 1 = true := by kernel_rfl
 unfold limit
 rw [if_neg h, if_neg (by rw [e]; decide)]
 rfl
theorem fi4' {n : Int} (h : n < 0) : limit dF3 sV n = (1, dF3) := by
 unfold limit
 rw [if_pos h]
theorem nameA : NameOk sVa := ⟨by kernel_rfl, by kernel_rfl, by kernel_rfl, by kernel_rfl, by decide, by decide⟩
theorem nameB : NameOk sVb := ⟨by kernel_rfl, by kernel_rfl, by kernel_rfl, by kernel_rfl, by decide, by decide⟩
theorem nameC : NameOk sVc := ⟨by kernel_rfl, by kernel_rfl, by kernel_rfl, by kernel_rfl, by decide, by decide⟩
theorem item_F4 (n : Int) (p : ByteArray) (h : NameOk p) : (item (dF4 n) p).dir = false := by
 have h1 := h.ne
 have h2 := h.vol
 have n1 : p ≠ sW := fun e => by subst e; revert h2; decide
 have n2 : p ≠ sWa := fun e => by subst e; revert h2; decide
 have n0 : sV ≠ p := fun e => h1 e.symm
 show ((lookD dF3.L p).getD itm0).dir = false
 simp only [dF3, lookD, if_neg n0, if_neg (Ne.symm n1), if_neg (Ne.symm n2), Option.getD]
 rfl
theorem fi_F4 {n : Int} (h : ¬ n < 0) : Fi (dF4 n) n := by
 have e : used (dF4 n) tV = 0 := by kernel_rfl
 exact ⟨rfl, rfl, rfl, by kernel_rfl, item_F4 n, by rw [e]; omega, by kernel_rfl⟩
set_option maxHeartbeats 4000000 in
theorem fills_H (n : Int) (ts : List ByteArray) (hts : ∀ s ∈ ts, s.size ≤ 1048576) (hl : ts.length ≤ 1048576) : HFun Tryd.prog 3 [.v (.int .i64 n), .lst false (strs ts)] (fun h st => h = .v (.bool true)) := by
 refine hfun (N := 140) Tryd.func3 rfl Tryd.ntmps3 Tryd.results3 (by simp) ?_
 obtain ⟨z1, z2, z3, z4⟩ := sz_V
 have z5 : sW.size ≤ 1048576 ∧ sWa.size ≤ 1048576 ∧ sFree.size ≤ 1048576 := by decide
 refine HW_ofM ?_
 (repeat first | refine HWM_seq ?_ | refine msQ_normal ?_ | refine HWM_skip ?_ | refine mbQ_normal ?_ | refine HWM_block ?_); refine HWM_regE (fun K hK => ?_); simp (maxSteps := 2000000) (disch := omega) only [push_cast, ↓Int.cast_ofNat_Int, Nat.reduceBEq, Nat.reduceAdd, Nat.reduceLT, Nat.reduceEqDiff, reduceIte, reduceCtorEq, Nat.reduceLeDiff, Nat.reduceSub, List.reduceReplicate, Nat.reduceMul, Int.reduceToNat, Int.toNat_natCast, Nat.reducePow, reduceIte]; refine hK _ ?_; clear hK K
 (repeat first | refine HWM_seq ?_ | refine msQ_normal ?_ | refine HWM_skip ?_ | refine mbQ_normal ?_ | refine HWM_block ?_)
 refine HWM_reg ?_
 refine HVM_call 120 [] cl8 (new_H) rfl rfl rfl rfl (by simp only [push_cast, pos_nil, yF, Option.getD_some, Bool.or_true, Bool.or_false, Bool.and_true, Bool.and_false, Option.map_some, Option.map_none, Nat.zero_add, Nat.reduceBEq, Nat.reduceAdd, Nat.reduceLT, Nat.reduceEqDiff, reduceIte, reduceCtorEq, Nat.reduceLeDiff, Nat.reduceSub, List.reduceReplicate, Nat.reduceMul, Int.reduceToNat, Int.toNat_natCast, Nat.reducePow, reduceIte]; exact rfl) (by decide) (by decide) (by decide) (by simp only [push_cast, pos_nil, yF, Option.getD_some, Bool.or_true, Bool.or_false, Bool.and_true, Bool.and_false, Option.map_some, Option.map_none, Nat.zero_add, Nat.reduceBEq, Nat.reduceAdd, Nat.reduceLT, Nat.reduceEqDiff, reduceIte, reduceCtorEq, Nat.reduceLeDiff, Nat.reduceSub, List.reduceReplicate, Nat.reduceMul, Int.reduceToNat, Int.toNat_natCast, Nat.reducePow, reduceIte]; try rfl) (by simp only [push_cast, pos_nil, yF, Option.getD_some, Bool.or_true, Bool.or_false, Bool.and_true, Bool.and_false, Option.map_some, Option.map_none, Nat.zero_add, Nat.reduceBEq, Nat.reduceAdd, Nat.reduceLT, Nat.reduceEqDiff, reduceIte, reduceCtorEq, Nat.reduceLeDiff, Nat.reduceSub, List.reduceReplicate, Nat.reduceMul, Int.reduceToNat, Int.toNat_natCast, Nat.reducePow, reduceIte]; try rfl) ?_
 rintro _ _ _ ⟨r1, r2, rfl, rfl, rfl⟩
 have c1 := mkdir_H Dk.new BB ok_new (Int.le_refl _) sV r1 r2 z1
 have c2 := mkdir_H dA1 BB ok_A1 (Int.le_refl _) sW r1 r2 z5.1
 have c3 := write_H dF2 BB ok_F2 (Int.le_refl _) sWa r1 r2 z5.2.1 sFree z5.2.2
 have c4 := limit_H dF3 16 ok_F3 (by decide) sV r1 r2 z1 n
 rw [aw1] at c1
 rw [fi2] at c2
 rw [fi3] at c3
 simp only [cells_eq] at c1 c2 c3
 refine HVM_eng 1 (fun K1 hK1 => ?_); simp (maxSteps := 2000000) (disch := omega) only [push_cast, ↓Int.cast_ofNat_Int, Nat.reduceBEq, Nat.reduceAdd, Nat.reduceLT, Nat.reduceEqDiff, reduceIte, reduceCtorEq, Nat.reduceLeDiff, Nat.reduceSub, List.reduceReplicate, Nat.reduceMul, Int.reduceToNat, Int.toNat_natCast, Nat.reducePow, reduceIte, Option.getD_some, Bool.or_true, Bool.or_false, Bool.and_true, Bool.and_false, Nat.zero_add, pos_nil, yF, Option.map_some, Option.map_none, lookH_true, lookH_false, cells_eq]; refine hK1 _ ?_; (try clear hK1 K1)
 refine HVM_nil ?_
 (repeat first | refine HWM_seq ?_ | refine msQ_normal ?_ | refine HWM_skip ?_ | refine mbQ_normal ?_ | refine HWM_block ?_); refine HWM_reg ?_; refine HVM_eng 8 (fun K1 hK1 => ?_); simp (maxSteps := 2000000) (disch := omega) only [push_cast, ↓Int.cast_ofNat_Int, Nat.reduceBEq, Nat.reduceAdd, Nat.reduceLT, Nat.reduceEqDiff, reduceIte, reduceCtorEq, Nat.reduceLeDiff, Nat.reduceSub, List.reduceReplicate, Nat.reduceMul, Int.reduceToNat, Int.toNat_natCast, Nat.reducePow, reduceIte]
 refine hatv cl9 awake_H .nil ?_
 with_reducible refine hstop ?_; simp (maxSteps := 2000000) (disch := omega) only [push_cast, ↓Int.cast_ofNat_Int, Nat.reduceBEq, Nat.reduceAdd, Nat.reduceLT, Nat.reduceEqDiff, reduceIte, reduceCtorEq, Nat.reduceLeDiff, Nat.reduceSub, List.reduceReplicate, Nat.reduceMul, Int.reduceToNat, Int.toNat_natCast, Nat.reducePow, reduceIte]
 refine hK1 _ ?_; (try clear hK1 K1)
 refine HVM_call 192 [120] cl10 (c1) rfl rfl rfl rfl (by simp only [push_cast, pos_nil, yF, Option.getD_some, Bool.or_true, Bool.or_false, Bool.and_true, Bool.and_false, Option.map_some, Option.map_none, Nat.zero_add, Nat.reduceBEq, Nat.reduceAdd, Nat.reduceLT, Nat.reduceEqDiff, reduceIte, reduceCtorEq, Nat.reduceLeDiff, Nat.reduceSub, List.reduceReplicate, Nat.reduceMul, Int.reduceToNat, Int.toNat_natCast, Nat.reducePow, reduceIte]; exact rfl) (by decide) (by decide) (by decide) (by simp only [push_cast, pos_nil, yF, Option.getD_some, Bool.or_true, Bool.or_false, Bool.and_true, Bool.and_false, Option.map_some, Option.map_none, Nat.zero_add, Nat.reduceBEq, Nat.reduceAdd, Nat.reduceLT, Nat.reduceEqDiff, reduceIte, reduceCtorEq, Nat.reduceLeDiff, Nat.reduceSub, List.reduceReplicate, Nat.reduceMul, Int.reduceToNat, Int.toNat_natCast, Nat.reducePow, reduceIte]; try rfl) (by simp only [push_cast, pos_nil, yF, Option.getD_some, Bool.or_true, Bool.or_false, Bool.and_true, Bool.and_false, Option.map_some, Option.map_none, Nat.zero_add, Nat.reduceBEq, Nat.reduceAdd, Nat.reduceLT, Nat.reduceEqDiff, reduceIte, reduceCtorEq, Nat.reduceLeDiff, Nat.reduceSub, List.reduceReplicate, Nat.reduceMul, Int.reduceToNat, Int.toNat_natCast, Nat.reducePow, reduceIte]; try rfl) ?_
 rintro _ _ _ ⟨rfl, rfl, rfl⟩
 refine HVM_eng 4 (fun K1 hK1 => ?_); simp (maxSteps := 2000000) (disch := omega) only [push_cast, ↓Int.cast_ofNat_Int, Nat.reduceBEq, Nat.reduceAdd, Nat.reduceLT, Nat.reduceEqDiff, reduceIte, reduceCtorEq, Nat.reduceLeDiff, Nat.reduceSub, List.reduceReplicate, Nat.reduceMul, Int.reduceToNat, Int.toNat_natCast, Nat.reducePow, reduceIte, Option.getD_some, Bool.or_true, Bool.or_false, Bool.and_true, Bool.and_false, Nat.zero_add, pos_nil, yF, Option.map_some, Option.map_none, lookH_true, lookH_false]; refine hK1 _ ?_; (try clear hK1 K1)
 refine HVM_call 232 [120] cl10 (c2) rfl rfl rfl rfl (by simp only [push_cast, pos_nil, yF, Option.getD_some, Bool.or_true, Bool.or_false, Bool.and_true, Bool.and_false, Option.map_some, Option.map_none, Nat.zero_add, Nat.reduceBEq, Nat.reduceAdd, Nat.reduceLT, Nat.reduceEqDiff, reduceIte, reduceCtorEq, Nat.reduceLeDiff, Nat.reduceSub, List.reduceReplicate, Nat.reduceMul, Int.reduceToNat, Int.toNat_natCast, Nat.reducePow, reduceIte]; exact rfl) (by decide) (by decide) (by decide) (by simp only [push_cast, pos_nil, yF, Option.getD_some, Bool.or_true, Bool.or_false, Bool.and_true, Bool.and_false, Option.map_some, Option.map_none, Nat.zero_add, Nat.reduceBEq, Nat.reduceAdd, Nat.reduceLT, Nat.reduceEqDiff, reduceIte, reduceCtorEq, Nat.reduceLeDiff, Nat.reduceSub, List.reduceReplicate, Nat.reduceMul, Int.reduceToNat, Int.toNat_natCast, Nat.reducePow, reduceIte]; try rfl) (by simp only [push_cast, pos_nil, yF, Option.getD_some, Bool.or_true, Bool.or_false, Bool.and_true, Bool.and_false, Option.map_some, Option.map_none, Nat.zero_add, Nat.reduceBEq, Nat.reduceAdd, Nat.reduceLT, Nat.reduceEqDiff, reduceIte, reduceCtorEq, Nat.reduceLeDiff, Nat.reduceSub, List.reduceReplicate, Nat.reduceMul, Int.reduceToNat, Int.toNat_natCast, Nat.reducePow, reduceIte]; try rfl) ?_
 rintro _ _ _ ⟨rfl, rfl, rfl⟩
 refine HVM_eng 4 (fun K1 hK1 => ?_); simp (maxSteps := 2000000) (disch := omega) only [push_cast, ↓Int.cast_ofNat_Int, Nat.reduceBEq, Nat.reduceAdd, Nat.reduceLT, Nat.reduceEqDiff, reduceIte, reduceCtorEq, Nat.reduceLeDiff, Nat.reduceSub, List.reduceReplicate, Nat.reduceMul, Int.reduceToNat, Int.toNat_natCast, Nat.reducePow, reduceIte, Option.getD_some, Bool.or_true, Bool.or_false, Bool.and_true, Bool.and_false, Nat.zero_add, pos_nil, yF, Option.map_some, Option.map_none, lookH_true, lookH_false]; refine hK1 _ ?_; (try clear hK1 K1)
 refine HVM_call 272 [120] cl11 (c3) rfl rfl rfl rfl (by simp only [push_cast, pos_nil, yF, Option.getD_some, Bool.or_true, Bool.or_false, Bool.and_true, Bool.and_false, Option.map_some, Option.map_none, Nat.zero_add, Nat.reduceBEq, Nat.reduceAdd, Nat.reduceLT, Nat.reduceEqDiff, reduceIte, reduceCtorEq, Nat.reduceLeDiff, Nat.reduceSub, List.reduceReplicate, Nat.reduceMul, Int.reduceToNat, Int.toNat_natCast, Nat.reducePow, reduceIte]; exact rfl) (by decide) (by decide) (by decide) (by simp only [push_cast, pos_nil, yF, Option.getD_some, Bool.or_true, Bool.or_false, Bool.and_true, Bool.and_false, Option.map_some, Option.map_none, Nat.zero_add, Nat.reduceBEq, Nat.reduceAdd, Nat.reduceLT, Nat.reduceEqDiff, reduceIte, reduceCtorEq, Nat.reduceLeDiff, Nat.reduceSub, List.reduceReplicate, Nat.reduceMul, Int.reduceToNat, Int.toNat_natCast, Nat.reducePow, reduceIte]; try rfl) (by simp only [push_cast, pos_nil, yF, Option.getD_some, Bool.or_true, Bool.or_false, Bool.and_true, Bool.and_false, Option.map_some, Option.map_none, Nat.zero_add, Nat.reduceBEq, Nat.reduceAdd, Nat.reduceLT, Nat.reduceEqDiff, reduceIte, reduceCtorEq, Nat.reduceLeDiff, Nat.reduceSub, List.reduceReplicate, Nat.reduceMul, Int.reduceToNat, Int.toNat_natCast, Nat.reducePow, reduceIte]; try rfl) ?_
 rintro _ _ _ ⟨rfl, rfl, rfl⟩
 refine HVM_eng 2 (fun K1 hK1 => ?_); simp (maxSteps := 2000000) (disch := omega) only [push_cast, ↓Int.cast_ofNat_Int, Nat.reduceBEq, Nat.reduceAdd, Nat.reduceLT, Nat.reduceEqDiff, reduceIte, reduceCtorEq, Nat.reduceLeDiff, Nat.reduceSub, List.reduceReplicate, Nat.reduceMul, Int.reduceToNat, Int.toNat_natCast, Nat.reducePow, reduceIte, Option.getD_some, Bool.or_true, Bool.or_false, Bool.and_true, Bool.and_false, Nat.zero_add, pos_nil, yF, Option.map_some, Option.map_none, lookH_true, lookH_false]; refine hK1 _ ?_; (try clear hK1 K1)
 refine HVM_nil ?_
 (repeat first | refine HWM_seq ?_ | refine msQ_normal ?_ | refine HWM_skip ?_ | refine mbQ_normal ?_ | refine HWM_block ?_)
 refine HWM_false rfl ?_
 refine HWM_keep [0, 1, 5] [120] (by simp only [zZ, zR, zP, zQ, zN, zS, zM, zX, zU, Nat.reduceEqDiff, reduceIte]; exact rfl) ?_
 rcases (Decidable.em (n < 0)) with h0 | h0
 ·rw [fi4' h0] at c4
  simp only [cells_eq] at c4
  (repeat first | refine HWM_seq ?_ | refine msQ_normal ?_ | refine HWM_skip ?_ | refine mbQ_normal ?_ | refine HWM_block ?_); refine HWM_reg ?_; refine HVM_eng 2 (fun K1 hK1 => ?_); simp (maxSteps := 2000000) (disch := omega) only [push_cast, ↓Int.cast_ofNat_Int, Nat.reduceBEq, Nat.reduceAdd, Nat.reduceLT, Nat.reduceEqDiff, reduceIte, reduceCtorEq, Nat.reduceLeDiff, Nat.reduceSub, List.reduceReplicate, Nat.reduceMul, Int.reduceToNat, Int.toNat_natCast, Nat.reducePow, reduceIte]; refine hK1 _ ?_; (try clear hK1 K1)
  refine HVM_call 312 [120] cl12 (c4) rfl rfl rfl rfl (by simp only [push_cast, pos_nil, yF, Option.getD_some, Bool.or_true, Bool.or_false, Bool.and_true, Bool.and_false, Option.map_some, Option.map_none, Nat.zero_add, Nat.reduceBEq, Nat.reduceAdd, Nat.reduceLT, Nat.reduceEqDiff, reduceIte, reduceCtorEq, Nat.reduceLeDiff, Nat.reduceSub, List.reduceReplicate, Nat.reduceMul, Int.reduceToNat, Int.toNat_natCast, Nat.reducePow, reduceIte]; exact rfl) (by decide) (by decide) (by decide) (by simp only [push_cast, pos_nil, yF, Option.getD_some, Bool.or_true, Bool.or_false, Bool.and_true, Bool.and_false, Option.map_some, Option.map_none, Nat.zero_add, Nat.reduceBEq, Nat.reduceAdd, Nat.reduceLT, Nat.reduceEqDiff, reduceIte, reduceCtorEq, Nat.reduceLeDiff, Nat.reduceSub, List.reduceReplicate, Nat.reduceMul, Int.reduceToNat, Int.toNat_natCast, Nat.reducePow, reduceIte]; try rfl) (by simp only [push_cast, pos_nil, yF, Option.getD_some, Bool.or_true, Bool.or_false, Bool.and_true, Bool.and_false, Option.map_some, Option.map_none, Nat.zero_add, Nat.reduceBEq, Nat.reduceAdd, Nat.reduceLT, Nat.reduceEqDiff, reduceIte, reduceCtorEq, Nat.reduceLeDiff, Nat.reduceSub, List.reduceReplicate, Nat.reduceMul, Int.reduceToNat, Int.toNat_natCast, Nat.reducePow, reduceIte]; try rfl) ?_
  rintro _ _ _ ⟨rfl, rfl, rfl⟩
  refine HVM_eng 1 (fun K1 hK1 => ?_); simp (maxSteps := 2000000) (disch := omega) only [push_cast, ↓Int.cast_ofNat_Int, Nat.reduceBEq, Nat.reduceAdd, Nat.reduceLT, Nat.reduceEqDiff, reduceIte, reduceCtorEq, Nat.reduceLeDiff, Nat.reduceSub, List.reduceReplicate, Nat.reduceMul, Int.reduceToNat, Int.toNat_natCast, Nat.reducePow, reduceIte, Option.getD_some, Bool.or_true, Bool.or_false, Bool.and_true, Bool.and_false, Nat.zero_add, pos_nil, yF, Option.map_some, Option.map_none, lookH_true, lookH_false]; refine hK1 _ ?_; (try clear hK1 K1)
  refine HVM_nil ?_
  (repeat first | refine HWM_seq ?_ | refine msQ_normal ?_ | refine HWM_skip ?_ | refine mbQ_normal ?_ | refine HWM_block ?_)
  refine HWM_true rfl ?_
  have hd : decide (n < 0) = true := decide_eq_true h0
  (repeat first | refine HWM_seq ?_ | refine msQ_normal ?_ | refine HWM_skip ?_ | refine mbQ_normal ?_ | refine HWM_block ?_); refine HWM_reg ?_; refine HVM_eng 5 (fun K1 hK1 => ?_); simp (maxSteps := 2000000) (disch := omega) only [push_cast, ↓Int.cast_ofNat_Int, Nat.reduceBEq, Nat.reduceAdd, Nat.reduceLT, Nat.reduceEqDiff, reduceIte, reduceCtorEq, Nat.reduceLeDiff, Nat.reduceSub, List.reduceReplicate, Nat.reduceMul, Int.reduceToNat, Int.toNat_natCast, Nat.reducePow, reduceIte, hd]; refine hK1 _ ?_; (try clear hK1 K1)
  refine HVM_call 368 [120] cl12 (c4) rfl rfl rfl rfl (by simp only [push_cast, pos_nil, yF, Option.getD_some, Bool.or_true, Bool.or_false, Bool.and_true, Bool.and_false, Option.map_some, Option.map_none, Nat.zero_add, Nat.reduceBEq, Nat.reduceAdd, Nat.reduceLT, Nat.reduceEqDiff, reduceIte, reduceCtorEq, Nat.reduceLeDiff, Nat.reduceSub, List.reduceReplicate, Nat.reduceMul, Int.reduceToNat, Int.toNat_natCast, Nat.reducePow, reduceIte]; exact rfl) (by decide) (by decide) (by decide) (by simp only [push_cast, pos_nil, yF, Option.getD_some, Bool.or_true, Bool.or_false, Bool.and_true, Bool.and_false, Option.map_some, Option.map_none, Nat.zero_add, Nat.reduceBEq, Nat.reduceAdd, Nat.reduceLT, Nat.reduceEqDiff, reduceIte, reduceCtorEq, Nat.reduceLeDiff, Nat.reduceSub, List.reduceReplicate, Nat.reduceMul, Int.reduceToNat, Int.toNat_natCast, Nat.reducePow, reduceIte]; try rfl) (by simp only [push_cast, pos_nil, yF, Option.getD_some, Bool.or_true, Bool.or_false, Bool.and_true, Bool.and_false, Option.map_some, Option.map_none, Nat.zero_add, Nat.reduceBEq, Nat.reduceAdd, Nat.reduceLT, Nat.reduceEqDiff, reduceIte, reduceCtorEq, Nat.reduceLeDiff, Nat.reduceSub, List.reduceReplicate, Nat.reduceMul, Int.reduceToNat, Int.toNat_natCast, Nat.reducePow, reduceIte]; try rfl) ?_
  rintro _ _ _ ⟨rfl, rfl, rfl⟩
  refine HVM_eng 3 (fun K1 hK1 => ?_); simp (maxSteps := 2000000) (disch := omega) only [push_cast, ↓Int.cast_ofNat_Int, Nat.reduceBEq, Nat.reduceAdd, Nat.reduceLT, Nat.reduceEqDiff, reduceIte, reduceCtorEq, Nat.reduceLeDiff, Nat.reduceSub, List.reduceReplicate, Nat.reduceMul, Int.reduceToNat, Int.toNat_natCast, Nat.reducePow, reduceIte, Option.getD_some, Bool.or_true, Bool.or_false, Bool.and_true, Bool.and_false, Nat.zero_add, pos_nil, yF, Option.map_some, Option.map_none, lookH_true, lookH_false]; refine hK1 _ ?_; (try clear hK1 K1)
  refine HVM_nil ?_
  (repeat first | refine msQ_ret ?_ | refine msQ_exit ?_ | refine mbQ_exit ?_ | refine mbQ_other rfl ?_ | refine mbQ_ret ?_ | refine mbQ_normal ?_ | refine HWM_seq ?_ | refine msQ_normal ?_ | refine HWM_skip ?_ | refine HWM_exit ?_ | refine HWM_ret ?_)
  simp only [yA, yM, yH, yE, resH_cell, resC_go, yK, yJ, zS, zM, Nat.reduceEqDiff, reduceIte, reduceCtorEq]
  exact hres_v rfl
 rw [fi4 h0] at c4
 simp only [cells_eq] at c4
 (repeat first | refine HWM_seq ?_ | refine msQ_normal ?_ | refine HWM_skip ?_ | refine mbQ_normal ?_ | refine HWM_block ?_); refine HWM_reg ?_; refine HVM_eng 2 (fun K1 hK1 => ?_); simp (maxSteps := 2000000) (disch := omega) only [push_cast, ↓Int.cast_ofNat_Int, Nat.reduceBEq, Nat.reduceAdd, Nat.reduceLT, Nat.reduceEqDiff, reduceIte, reduceCtorEq, Nat.reduceLeDiff, Nat.reduceSub, List.reduceReplicate, Nat.reduceMul, Int.reduceToNat, Int.toNat_natCast, Nat.reducePow, reduceIte]; refine hK1 _ ?_; (try clear hK1 K1)
 refine HVM_call 312 [120] cl12 (c4) rfl rfl rfl rfl (by simp only [push_cast, pos_nil, yF, Option.getD_some, Bool.or_true, Bool.or_false, Bool.and_true, Bool.and_false, Option.map_some, Option.map_none, Nat.zero_add, Nat.reduceBEq, Nat.reduceAdd, Nat.reduceLT, Nat.reduceEqDiff, reduceIte, reduceCtorEq, Nat.reduceLeDiff, Nat.reduceSub, List.reduceReplicate, Nat.reduceMul, Int.reduceToNat, Int.toNat_natCast, Nat.reducePow, reduceIte]; exact rfl) (by decide) (by decide) (by decide) (by simp only [push_cast, pos_nil, yF, Option.getD_some, Bool.or_true, Bool.or_false, Bool.and_true, Bool.and_false, Option.map_some, Option.map_none, Nat.zero_add, Nat.reduceBEq, Nat.reduceAdd, Nat.reduceLT, Nat.reduceEqDiff, reduceIte, reduceCtorEq, Nat.reduceLeDiff, Nat.reduceSub, List.reduceReplicate, Nat.reduceMul, Int.reduceToNat, Int.toNat_natCast, Nat.reducePow, reduceIte]; try rfl) (by simp only [push_cast, pos_nil, yF, Option.getD_some, Bool.or_true, Bool.or_false, Bool.and_true, Bool.and_false, Option.map_some, Option.map_none, Nat.zero_add, Nat.reduceBEq, Nat.reduceAdd, Nat.reduceLT, Nat.reduceEqDiff, reduceIte, reduceCtorEq, Nat.reduceLeDiff, Nat.reduceSub, List.reduceReplicate, Nat.reduceMul, Int.reduceToNat, Int.toNat_natCast, Nat.reducePow, reduceIte]; try rfl) ?_
 rintro _ _ _ ⟨rfl, rfl, rfl⟩
 refine HVM_eng 1 (fun K1 hK1 => ?_); simp (maxSteps := 2000000) (disch := omega) only [push_cast, ↓Int.cast_ofNat_Int, Nat.reduceBEq, Nat.reduceAdd, Nat.reduceLT, Nat.reduceEqDiff, reduceIte, reduceCtorEq, Nat.reduceLeDiff, Nat.reduceSub, List.reduceReplicate, Nat.reduceMul, Int.reduceToNat, Int.toNat_natCast, Nat.reducePow, reduceIte, Option.getD_some, Bool.or_true, Bool.or_false, Bool.and_true, Bool.and_false, Nat.zero_add, pos_nil, yF, Option.map_some, Option.map_none, lookH_true, lookH_false]; refine hK1 _ ?_; (try clear hK1 K1)
 refine HVM_nil ?_
 (repeat first | refine HWM_seq ?_ | refine msQ_normal ?_ | refine HWM_skip ?_ | refine mbQ_normal ?_ | refine HWM_block ?_)
 refine HWM_false rfl ?_
 refine HWM_keep [0, 1, 5] [120] (by simp only [zZ, zR, zP, zQ, zN, zS, zM, zX, zU, Nat.reduceEqDiff, reduceIte]; exact rfl) ?_
 (repeat first | refine HWM_seq ?_ | refine msQ_normal ?_ | refine HWM_skip ?_ | refine mbQ_normal ?_ | refine HWM_block ?_); refine HWM_regE (fun K hK => ?_); simp (maxSteps := 2000000) (disch := omega) only [push_cast, ↓Int.cast_ofNat_Int, Nat.reduceBEq, Nat.reduceAdd, Nat.reduceLT, Nat.reduceEqDiff, reduceIte, reduceCtorEq, Nat.reduceLeDiff, Nat.reduceSub, List.reduceReplicate, Nat.reduceMul, Int.reduceToNat, Int.toNat_natCast, Nat.reducePow, reduceIte]; refine hK _ ?_; clear hK K
 (repeat first | refine HWM_seq ?_ | refine msQ_normal ?_ | refine HWM_skip ?_ | refine mbQ_normal ?_ | refine HWM_block ?_); refine HWM_regE (fun K hK => ?_); simp (maxSteps := 2000000) (disch := omega) only [push_cast, ↓Int.cast_ofNat_Int, Nat.reduceBEq, Nat.reduceAdd, Nat.reduceLT, Nat.reduceEqDiff, reduceIte, reduceCtorEq, Nat.reduceLeDiff, Nat.reduceSub, List.reduceReplicate, Nat.reduceMul, Int.reduceToNat, Int.toNat_natCast, Nat.reducePow, reduceIte]; refine hK _ ?_; clear hK K
 obtain ⟨nm, hnm⟩ : ∃ nm, nm = [sVa, sVb, sVc] := ⟨_, rfl⟩
 have hnl : nm.length = 3 := by rw [hnm]; rfl
 have hno : ∀ k, k < 3 → ∃ q, nm[k]? = some q ∧ NameOk q := fun k hk => by
  rw [hnm]
  match k, hk with
  | 0, _ => exact ⟨_, rfl, nameA⟩
  | 1, _ => exact ⟨_, rfl, nameB⟩
  | 2, _ => exact ⟨_, rfl, nameC⟩
 (repeat first | refine HWM_seq ?_ | refine msQ_normal ?_ | refine HWM_skip ?_ | refine mbQ_normal ?_ | refine HWM_block ?_)
 refine HWM_loop (ι := Nat × Dk) (fun q => ⟨[(0, .v (.int .i64 n)), (1, .lst false (strs ts)), (5, .ptr 120 6 0 0), (6, .own 392), (7, .v (.int .i64 (q.1 : Int)))], [(120, .bx true 45 [.v (.map (some r1)), .v (.map (some r2)), .v (.int .i64 q.2.steps), .v (.int .i64 q.2.stamps), .v (.int .i64 q.2.armed), .v (.bool q.2.down)]), (392, .sl true 9 1 (strs nm))]⟩)
  (fun q => q.2.maps kS r1 r2) (fun q => q.1 ≤ 60 ∧ q.1 ≤ ts.length ∧ Fi q.2 n ∧ q.2.Ok (16 + q.1 * 1048577)) (fun q => 60 - q.1) [0, 1, 5, 6, 7] [120, 392] (0, dF4 n) ?_ rfl ⟨Nat.zero_le _, Nat.zero_le _, fi_F4 h0, ok_mono (ok_F4 n) (by simp)⟩ ?_
 ·subst hnm; rfl
 rintro ⟨i, d⟩ ⟨hi60, hil, hF, hO⟩
 dsimp only at hi60 hil hF hO ⊢
 have hOB : d.Ok BB := ok_mono hO (by show _ ≤ (1099511627776 : Int); omega)
 have hp1 : i < ts.length ∧ i < 60 ∨ ¬ i < ts.length ∨ (i < ts.length ∧ ¬ i < 60) := by omega
 rcases hp1 with h1 | h2 | h2
 rotate_left
 ·(repeat first | refine HWM_seq ?_ | refine msQ_normal ?_ | refine HWM_skip ?_ | refine mbQ_normal ?_ | refine HWM_block ?_); refine HWM_regE (fun K hK => ?_); simp (maxSteps := 2000000) (disch := omega) only [push_cast, ↓Int.cast_ofNat_Int, Nat.reduceBEq, Nat.reduceAdd, Nat.reduceLT, Nat.reduceEqDiff, reduceIte, reduceCtorEq, Nat.reduceLeDiff, Nat.reduceSub, List.reduceReplicate, Nat.reduceMul, Int.reduceToNat, Int.toNat_natCast, Nat.reducePow, reduceIte, strs_len]; refine hK _ ?_; clear hK K
  (repeat first | refine HWM_seq ?_ | refine msQ_normal ?_ | refine HWM_skip ?_ | refine mbQ_normal ?_ | refine HWM_block ?_)
  refine HWM_false rfl ?_
  (repeat first | refine msQ_ret ?_ | refine msQ_exit ?_ | refine mbQ_exit ?_ | refine mbQ_other rfl ?_ | refine mbQ_ret ?_ | refine mbQ_normal ?_ | refine HWM_seq ?_ | refine msQ_normal ?_ | refine HWM_skip ?_ | refine HWM_exit ?_ | refine HWM_ret ?_)
  have cu := used_H d BB hOB (Int.le_refl _) tW r1 r2
  rw [hF.other] at cu
  simp only [cells_eq] at cu
  (repeat first | refine HWM_seq ?_ | refine msQ_normal ?_ | refine HWM_skip ?_ | refine mbQ_normal ?_ | refine HWM_block ?_); refine HWM_reg ?_; refine HVM_eng 1 (fun K1 hK1 => ?_); simp (maxSteps := 2000000) (disch := omega) only [push_cast, ↓Int.cast_ofNat_Int, Nat.reduceBEq, Nat.reduceAdd, Nat.reduceLT, Nat.reduceEqDiff, reduceIte, reduceCtorEq, Nat.reduceLeDiff, Nat.reduceSub, List.reduceReplicate, Nat.reduceMul, Int.reduceToNat, Int.toNat_natCast, Nat.reducePow, reduceIte]; refine hK1 _ ?_; (try clear hK1 K1)
  refine HVM_call 1104 [120] cl14 (cu) rfl rfl rfl rfl (by simp only [push_cast, pos_nil, yF, Option.getD_some, Bool.or_true, Bool.or_false, Bool.and_true, Bool.and_false, Option.map_some, Option.map_none, Nat.zero_add, Nat.reduceBEq, Nat.reduceAdd, Nat.reduceLT, Nat.reduceEqDiff, reduceIte, reduceCtorEq, Nat.reduceLeDiff, Nat.reduceSub, List.reduceReplicate, Nat.reduceMul, Int.reduceToNat, Int.toNat_natCast, Nat.reducePow, reduceIte]; exact rfl) (by decide) (by decide) (by decide) (by simp only [push_cast, pos_nil, yF, Option.getD_some, Bool.or_true, Bool.or_false, Bool.and_true, Bool.and_false, Option.map_some, Option.map_none, Nat.zero_add, Nat.reduceBEq, Nat.reduceAdd, Nat.reduceLT, Nat.reduceEqDiff, reduceIte, reduceCtorEq, Nat.reduceLeDiff, Nat.reduceSub, List.reduceReplicate, Nat.reduceMul, Int.reduceToNat, Int.toNat_natCast, Nat.reducePow, reduceIte]; try rfl) (by simp only [push_cast, pos_nil, yF, Option.getD_some, Bool.or_true, Bool.or_false, Bool.and_true, Bool.and_false, Option.map_some, Option.map_none, Nat.zero_add, Nat.reduceBEq, Nat.reduceAdd, Nat.reduceLT, Nat.reduceEqDiff, reduceIte, reduceCtorEq, Nat.reduceLeDiff, Nat.reduceSub, List.reduceReplicate, Nat.reduceMul, Int.reduceToNat, Int.toNat_natCast, Nat.reducePow, reduceIte]; try rfl) ?_
  rintro _ _ _ ⟨rfl, rfl, rfl⟩
  refine HVM_eng 2 (fun K1 hK1 => ?_); simp (maxSteps := 2000000) (disch := omega) only [push_cast, ↓Int.cast_ofNat_Int, Nat.reduceBEq, Nat.reduceAdd, Nat.reduceLT, Nat.reduceEqDiff, reduceIte, reduceCtorEq, Nat.reduceLeDiff, Nat.reduceSub, List.reduceReplicate, Nat.reduceMul, Int.reduceToNat, Int.toNat_natCast, Nat.reducePow, reduceIte, Option.getD_some, Bool.or_true, Bool.or_false, Bool.and_true, Bool.and_false, Nat.zero_add, pos_nil, yF, Option.map_some, Option.map_none, lookH_true, lookH_false]; refine hK1 _ ?_; (try clear hK1 K1)
  refine HVM_nil ?_
  (repeat first | refine msQ_ret ?_ | refine msQ_exit ?_ | refine mbQ_exit ?_ | refine mbQ_other rfl ?_ | refine mbQ_ret ?_ | refine mbQ_normal ?_ | refine HWM_seq ?_ | refine msQ_normal ?_ | refine HWM_skip ?_ | refine HWM_exit ?_ | refine HWM_ret ?_)
  simp only [yA, yM, yH, yE, resH_cell, resC_go, yK, yJ, zS, zM, Nat.reduceEqDiff, reduceIte, reduceCtorEq]
  exact hres_v rfl
 ·(repeat first | refine HWM_seq ?_ | refine msQ_normal ?_ | refine HWM_skip ?_ | refine mbQ_normal ?_ | refine HWM_block ?_); refine HWM_regE (fun K hK => ?_); simp (maxSteps := 2000000) (disch := omega) only [push_cast, ↓Int.cast_ofNat_Int, Nat.reduceBEq, Nat.reduceAdd, Nat.reduceLT, Nat.reduceEqDiff, reduceIte, reduceCtorEq, Nat.reduceLeDiff, Nat.reduceSub, List.reduceReplicate, Nat.reduceMul, Int.reduceToNat, Int.toNat_natCast, Nat.reducePow, reduceIte, strs_len]; refine hK _ ?_; clear hK K
  (repeat first | refine HWM_seq ?_ | refine msQ_normal ?_ | refine HWM_skip ?_ | refine mbQ_normal ?_ | refine HWM_block ?_)
  refine HWM_false rfl ?_
  (repeat first | refine msQ_ret ?_ | refine msQ_exit ?_ | refine mbQ_exit ?_ | refine mbQ_other rfl ?_ | refine mbQ_ret ?_ | refine mbQ_normal ?_ | refine HWM_seq ?_ | refine msQ_normal ?_ | refine HWM_skip ?_ | refine HWM_exit ?_ | refine HWM_ret ?_)
  have cu := used_H d BB hOB (Int.le_refl _) tW r1 r2
  rw [hF.other] at cu
  simp only [cells_eq] at cu
  (repeat first | refine HWM_seq ?_ | refine msQ_normal ?_ | refine HWM_skip ?_ | refine mbQ_normal ?_ | refine HWM_block ?_); refine HWM_reg ?_; refine HVM_eng 1 (fun K1 hK1 => ?_); simp (maxSteps := 2000000) (disch := omega) only [push_cast, ↓Int.cast_ofNat_Int, Nat.reduceBEq, Nat.reduceAdd, Nat.reduceLT, Nat.reduceEqDiff, reduceIte, reduceCtorEq, Nat.reduceLeDiff, Nat.reduceSub, List.reduceReplicate, Nat.reduceMul, Int.reduceToNat, Int.toNat_natCast, Nat.reducePow, reduceIte]; refine hK1 _ ?_; (try clear hK1 K1)
  refine HVM_call 1104 [120] cl14 (cu) rfl rfl rfl rfl (by simp only [push_cast, pos_nil, yF, Option.getD_some, Bool.or_true, Bool.or_false, Bool.and_true, Bool.and_false, Option.map_some, Option.map_none, Nat.zero_add, Nat.reduceBEq, Nat.reduceAdd, Nat.reduceLT, Nat.reduceEqDiff, reduceIte, reduceCtorEq, Nat.reduceLeDiff, Nat.reduceSub, List.reduceReplicate, Nat.reduceMul, Int.reduceToNat, Int.toNat_natCast, Nat.reducePow, reduceIte]; exact rfl) (by decide) (by decide) (by decide) (by simp only [push_cast, pos_nil, yF, Option.getD_some, Bool.or_true, Bool.or_false, Bool.and_true, Bool.and_false, Option.map_some, Option.map_none, Nat.zero_add, Nat.reduceBEq, Nat.reduceAdd, Nat.reduceLT, Nat.reduceEqDiff, reduceIte, reduceCtorEq, Nat.reduceLeDiff, Nat.reduceSub, List.reduceReplicate, Nat.reduceMul, Int.reduceToNat, Int.toNat_natCast, Nat.reducePow, reduceIte]; try rfl) (by simp only [push_cast, pos_nil, yF, Option.getD_some, Bool.or_true, Bool.or_false, Bool.and_true, Bool.and_false, Option.map_some, Option.map_none, Nat.zero_add, Nat.reduceBEq, Nat.reduceAdd, Nat.reduceLT, Nat.reduceEqDiff, reduceIte, reduceCtorEq, Nat.reduceLeDiff, Nat.reduceSub, List.reduceReplicate, Nat.reduceMul, Int.reduceToNat, Int.toNat_natCast, Nat.reducePow, reduceIte]; try rfl) ?_
  rintro _ _ _ ⟨rfl, rfl, rfl⟩
  refine HVM_eng 2 (fun K1 hK1 => ?_); simp (maxSteps := 2000000) (disch := omega) only [push_cast, ↓Int.cast_ofNat_Int, Nat.reduceBEq, Nat.reduceAdd, Nat.reduceLT, Nat.reduceEqDiff, reduceIte, reduceCtorEq, Nat.reduceLeDiff, Nat.reduceSub, List.reduceReplicate, Nat.reduceMul, Int.reduceToNat, Int.toNat_natCast, Nat.reducePow, reduceIte, Option.getD_some, Bool.or_true, Bool.or_false, Bool.and_true, Bool.and_false, Nat.zero_add, pos_nil, yF, Option.map_some, Option.map_none, lookH_true, lookH_false]; refine hK1 _ ?_; (try clear hK1 K1)
  refine HVM_nil ?_
  (repeat first | refine msQ_ret ?_ | refine msQ_exit ?_ | refine mbQ_exit ?_ | refine mbQ_other rfl ?_ | refine mbQ_ret ?_ | refine mbQ_normal ?_ | refine HWM_seq ?_ | refine msQ_normal ?_ | refine HWM_skip ?_ | refine HWM_exit ?_ | refine HWM_ret ?_)
  simp only [yA, yM, yH, yE, resH_cell, resC_go, yK, yJ, zS, zM, Nat.reduceEqDiff, reduceIte, reduceCtorEq]
  exact hres_v rfl
 obtain ⟨h1, h2⟩ := h1
 (repeat first | refine HWM_seq ?_ | refine msQ_normal ?_ | refine HWM_skip ?_ | refine mbQ_normal ?_ | refine HWM_block ?_); refine HWM_regE (fun K hK => ?_); simp (maxSteps := 2000000) (disch := omega) only [push_cast, ↓Int.cast_ofNat_Int, Nat.reduceBEq, Nat.reduceAdd, Nat.reduceLT, Nat.reduceEqDiff, reduceIte, reduceCtorEq, Nat.reduceLeDiff, Nat.reduceSub, List.reduceReplicate, Nat.reduceMul, Int.reduceToNat, Int.toNat_natCast, Nat.reducePow, reduceIte, strs_len]; refine hK _ ?_; clear hK K
 (repeat first | refine HWM_seq ?_ | refine msQ_normal ?_ | refine HWM_skip ?_ | refine mbQ_normal ?_ | refine HWM_block ?_)
 refine HWM_true rfl ?_
 refine HWM_keep [0, 1, 5, 6, 7] [120, 392] (by simp only [zZ, zR, zP, zQ, zN, zS, zM, zX, zU, Nat.reduceEqDiff, reduceIte]; exact rfl) ?_
 obtain ⟨k, hk, hk3⟩ : ∃ k : Nat, (i : Int).tmod 3 = (k : Int) ∧ k < 3 := ⟨i % 3, by rw [Int.tmod_eq_emod_of_nonneg (by omega)]; omega, Nat.mod_lt _ (by decide)⟩
 obtain ⟨p, hpk, hp⟩ := hno k hk3
 have hgp : (strs nm).getD k [] = [FV.v (.string p)] := by
  rw [strs, List.getD_eq_getElem?_getD, List.getElem?_map, hpk]; rfl
 obtain ⟨s, hsi⟩ : ∃ s, s = ts[i] := ⟨_, rfl⟩
 have hgs : (strs ts).getD i [] = [FV.v (.string s)] := by
  rw [strs, List.getD_eq_getElem?_getD, List.getElem?_map, List.getElem?_eq_getElem h1, hsi]; rfl
 have hss : s.size ≤ 1048576 := hts s (by rw [hsi]; exact List.getElem_mem h1)
 have hto := hO.size
 have hnn := tot_nn d.L
 have hit := item_size d p
 have hu0 : 0 ≤ used d tV ∧ used d tV ≤ tot d.L := by
  have := usedW_le (fun _ => false) tV d.L
  rw [usedW_all _ fun _ => rfl] at this
  exact this
 have b1 := read_H d p r1 r2 hp.size
 have b2 := used_H d BB hOB (Int.le_refl _) tV r1 r2
 have b3 := write_H d BB hOB (Int.le_refl _) p r1 r2 hp.size s hss
 have hrd : (readD d p).1.size = (item d p).data.size := by
  unfold readD
  rw [hF.down, hF.file p hp]
  cases e : has d p
  ·have : (item d p) = itm0 := by
    unfold item; unfold has at e
    cases e2 : lookD d.L p with
    | none => rfl
    | some x => rw [e2] at e; cases e
   rw [this]; rfl
  ·rfl
 obtain ⟨w0, hw0⟩ : ∃ w0, (readD d p).1 = w0 := ⟨_, rfl⟩
 rw [hw0] at hrd b1
 simp only [cells_eq] at b1 b2 b3
 (repeat first | refine HWM_seq ?_ | refine msQ_normal ?_ | refine HWM_skip ?_ | refine mbQ_normal ?_ | refine HWM_block ?_); refine HWM_regE (fun K hK => ?_); simp (maxSteps := 2000000) (disch := omega) only [push_cast, ↓Int.cast_ofNat_Int, Nat.reduceBEq, Nat.reduceAdd, Nat.reduceLT, Nat.reduceEqDiff, reduceIte, reduceCtorEq, Nat.reduceLeDiff, Nat.reduceSub, List.reduceReplicate, Nat.reduceMul, Int.reduceToNat, Int.toNat_natCast, Nat.reducePow, reduceIte, strs_len, strs_wid, hnl, hk, hgp]; (repeat refine ⟨by first | omega | decide | ((repeat' apply And.intro) <;> first | omega | decide), ?_⟩); refine hK _ ?_; clear hK K
 (repeat first | refine HWM_seq ?_ | refine msQ_normal ?_ | refine HWM_skip ?_ | refine mbQ_normal ?_ | refine HWM_block ?_); refine HWM_reg ?_; refine HVM_eng 2 (fun K1 hK1 => ?_); simp (maxSteps := 2000000) (disch := omega) only [push_cast, ↓Int.cast_ofNat_Int, Nat.reduceBEq, Nat.reduceAdd, Nat.reduceLT, Nat.reduceEqDiff, reduceIte, reduceCtorEq, Nat.reduceLeDiff, Nat.reduceSub, List.reduceReplicate, Nat.reduceMul, Int.reduceToNat, Int.toNat_natCast, Nat.reducePow, reduceIte]; refine hK1 _ ?_; (try clear hK1 K1)
 refine HVM_call 544 [120] cl13 (b1) rfl rfl rfl rfl (by simp only [push_cast, pos_nil, yF, Option.getD_some, Bool.or_true, Bool.or_false, Bool.and_true, Bool.and_false, Option.map_some, Option.map_none, Nat.zero_add, Nat.reduceBEq, Nat.reduceAdd, Nat.reduceLT, Nat.reduceEqDiff, reduceIte, reduceCtorEq, Nat.reduceLeDiff, Nat.reduceSub, List.reduceReplicate, Nat.reduceMul, Int.reduceToNat, Int.toNat_natCast, Nat.reducePow, reduceIte]; exact rfl) (by decide) (by decide) (by decide) (by simp only [push_cast, pos_nil, yF, Option.getD_some, Bool.or_true, Bool.or_false, Bool.and_true, Bool.and_false, Option.map_some, Option.map_none, Nat.zero_add, Nat.reduceBEq, Nat.reduceAdd, Nat.reduceLT, Nat.reduceEqDiff, reduceIte, reduceCtorEq, Nat.reduceLeDiff, Nat.reduceSub, List.reduceReplicate, Nat.reduceMul, Int.reduceToNat, Int.toNat_natCast, Nat.reducePow, reduceIte]; try rfl) (by simp only [push_cast, pos_nil, yF, Option.getD_some, Bool.or_true, Bool.or_false, Bool.and_true, Bool.and_false, Option.map_some, Option.map_none, Nat.zero_add, Nat.reduceBEq, Nat.reduceAdd, Nat.reduceLT, Nat.reduceEqDiff, reduceIte, reduceCtorEq, Nat.reduceLeDiff, Nat.reduceSub, List.reduceReplicate, Nat.reduceMul, Int.reduceToNat, Int.toNat_natCast, Nat.reducePow, reduceIte]; try rfl) ?_
 rintro _ _ _ ⟨rfl, rfl, rfl⟩
 refine HVM_eng 5 (fun K1 hK1 => ?_); simp (maxSteps := 2000000) (disch := omega) only [push_cast, ↓Int.cast_ofNat_Int, Nat.reduceBEq, Nat.reduceAdd, Nat.reduceLT, Nat.reduceEqDiff, reduceIte, reduceCtorEq, Nat.reduceLeDiff, Nat.reduceSub, List.reduceReplicate, Nat.reduceMul, Int.reduceToNat, Int.toNat_natCast, Nat.reducePow, reduceIte, Option.getD_some, Bool.or_true, Bool.or_false, Bool.and_true, Bool.and_false, Nat.zero_add, pos_nil, yF, Option.map_some, Option.map_none, lookH_true, lookH_false]; refine hK1 _ ?_; (try clear hK1 K1)
 refine HVM_nil ?_
 (repeat first | refine HWM_seq ?_ | refine msQ_normal ?_ | refine HWM_skip ?_ | refine mbQ_normal ?_ | refine HWM_block ?_); refine HWM_reg ?_; refine HVM_eng 1 (fun K1 hK1 => ?_); simp (maxSteps := 2000000) (disch := omega) only [push_cast, ↓Int.cast_ofNat_Int, Nat.reduceBEq, Nat.reduceAdd, Nat.reduceLT, Nat.reduceEqDiff, reduceIte, reduceCtorEq, Nat.reduceLeDiff, Nat.reduceSub, List.reduceReplicate, Nat.reduceMul, Int.reduceToNat, Int.toNat_natCast, Nat.reducePow, reduceIte]; refine hK1 _ ?_; (try clear hK1 K1)
 refine HVM_call 576 [120] cl14 (b2) rfl rfl rfl rfl (by simp only [push_cast, pos_nil, yF, Option.getD_some, Bool.or_true, Bool.or_false, Bool.and_true, Bool.and_false, Option.map_some, Option.map_none, Nat.zero_add, Nat.reduceBEq, Nat.reduceAdd, Nat.reduceLT, Nat.reduceEqDiff, reduceIte, reduceCtorEq, Nat.reduceLeDiff, Nat.reduceSub, List.reduceReplicate, Nat.reduceMul, Int.reduceToNat, Int.toNat_natCast, Nat.reducePow, reduceIte]; exact rfl) (by decide) (by decide) (by decide) (by simp only [push_cast, pos_nil, yF, Option.getD_some, Bool.or_true, Bool.or_false, Bool.and_true, Bool.and_false, Option.map_some, Option.map_none, Nat.zero_add, Nat.reduceBEq, Nat.reduceAdd, Nat.reduceLT, Nat.reduceEqDiff, reduceIte, reduceCtorEq, Nat.reduceLeDiff, Nat.reduceSub, List.reduceReplicate, Nat.reduceMul, Int.reduceToNat, Int.toNat_natCast, Nat.reducePow, reduceIte]; try rfl) (by simp only [push_cast, pos_nil, yF, Option.getD_some, Bool.or_true, Bool.or_false, Bool.and_true, Bool.and_false, Option.map_some, Option.map_none, Nat.zero_add, Nat.reduceBEq, Nat.reduceAdd, Nat.reduceLT, Nat.reduceEqDiff, reduceIte, reduceCtorEq, Nat.reduceLeDiff, Nat.reduceSub, List.reduceReplicate, Nat.reduceMul, Int.reduceToNat, Int.toNat_natCast, Nat.reducePow, reduceIte]; try rfl) ?_
 rintro _ _ _ ⟨rfl, rfl, rfl⟩
 refine HVM_eng 1 (fun K1 hK1 => ?_); simp (maxSteps := 2000000) (disch := omega) only [push_cast, ↓Int.cast_ofNat_Int, Nat.reduceBEq, Nat.reduceAdd, Nat.reduceLT, Nat.reduceEqDiff, reduceIte, reduceCtorEq, Nat.reduceLeDiff, Nat.reduceSub, List.reduceReplicate, Nat.reduceMul, Int.reduceToNat, Int.toNat_natCast, Nat.reducePow, reduceIte, Option.getD_some, Bool.or_true, Bool.or_false, Bool.and_true, Bool.and_false, Nat.zero_add, pos_nil, yF, Option.map_some, Option.map_none, lookH_true, lookH_false]; refine hK1 _ ?_; (try clear hK1 K1)
 refine HVM_nil ?_
 refine HWM_keep [0, 1, 5, 6, 7, 8, 9, 11] [120, 392] (by simp only [zZ, zR, zP, zQ, zN, zS, zM, zX, zU, Nat.reduceEqDiff, reduceIte]; exact rfl) ?_
 (repeat first | refine HWM_seq ?_ | refine msQ_normal ?_ | refine HWM_skip ?_ | refine mbQ_normal ?_ | refine HWM_block ?_); refine HWM_reg ?_; refine HVM_eng 6 (fun K1 hK1 => ?_); simp (maxSteps := 2000000) (disch := omega) only [push_cast, ↓Int.cast_ofNat_Int, Nat.reduceBEq, Nat.reduceAdd, Nat.reduceLT, Nat.reduceEqDiff, reduceIte, reduceCtorEq, Nat.reduceLeDiff, Nat.reduceSub, List.reduceReplicate, Nat.reduceMul, Int.reduceToNat, Int.toNat_natCast, Nat.reducePow, reduceIte, strs_len, strs_wid, hgs]
 (repeat refine ⟨by first | omega | decide | ((repeat' apply And.intro) <;> first | omega | decide), ?_⟩)
 refine hK1 _ ?_; (try clear hK1 K1)
 have hOn : ∀ d', (∃ e, write d p s = (e, d')) → d'.Ok (16 + ((i + 1 : Nat) : Int) * 1048577) := fun d' ⟨e, he⟩ => by
  have := ok_write hO hp.size hss
  rw [he] at this
  exact ok_mono this (by push_cast; omega)
 rcases fi_write hF hO hp s with ⟨hr, hm1, hm2⟩ | ⟨d', hr, hF', hrd', hud⟩
 ·rw [hr] at b3
  simp only [cells_eq] at b3
  generalize hU : used d tV = U at *
  refine HVM_call 632 [120] cl11 (b3) rfl rfl rfl rfl (by simp only [push_cast, pos_nil, yF, Option.getD_some, Bool.or_true, Bool.or_false, Bool.and_true, Bool.and_false, Option.map_some, Option.map_none, Nat.zero_add, Nat.reduceBEq, Nat.reduceAdd, Nat.reduceLT, Nat.reduceEqDiff, reduceIte, reduceCtorEq, Nat.reduceLeDiff, Nat.reduceSub, List.reduceReplicate, Nat.reduceMul, Int.reduceToNat, Int.toNat_natCast, Nat.reducePow, reduceIte]; exact rfl) (by decide) (by decide) (by decide) (by simp only [push_cast, pos_nil, yF, Option.getD_some, Bool.or_true, Bool.or_false, Bool.and_true, Bool.and_false, Option.map_some, Option.map_none, Nat.zero_add, Nat.reduceBEq, Nat.reduceAdd, Nat.reduceLT, Nat.reduceEqDiff, reduceIte, reduceCtorEq, Nat.reduceLeDiff, Nat.reduceSub, List.reduceReplicate, Nat.reduceMul, Int.reduceToNat, Int.toNat_natCast, Nat.reducePow, reduceIte]; try rfl) (by simp only [push_cast, pos_nil, yF, Option.getD_some, Bool.or_true, Bool.or_false, Bool.and_true, Bool.and_false, Option.map_some, Option.map_none, Nat.zero_add, Nat.reduceBEq, Nat.reduceAdd, Nat.reduceLT, Nat.reduceEqDiff, reduceIte, reduceCtorEq, Nat.reduceLeDiff, Nat.reduceSub, List.reduceReplicate, Nat.reduceMul, Int.reduceToNat, Int.toNat_natCast, Nat.reducePow, reduceIte]; try rfl) ?_
  rintro _ _ _ ⟨rfl, rfl, rfl⟩
  refine HVM_eng 1 (fun K1 hK1 => ?_); simp (maxSteps := 2000000) (disch := omega) only [push_cast, ↓Int.cast_ofNat_Int, Nat.reduceBEq, Nat.reduceAdd, Nat.reduceLT, Nat.reduceEqDiff, reduceIte, reduceCtorEq, Nat.reduceLeDiff, Nat.reduceSub, List.reduceReplicate, Nat.reduceMul, Int.reduceToNat, Int.toNat_natCast, Nat.reducePow, reduceIte, Option.getD_some, Bool.or_true, Bool.or_false, Bool.and_true, Bool.and_false, Nat.zero_add, pos_nil, yF, Option.map_some, Option.map_none, lookH_true, lookH_false]; refine hK1 _ ?_; (try clear hK1 K1)
  refine HVM_nil ?_
  (repeat first | refine HWM_seq ?_ | refine msQ_normal ?_ | refine HWM_skip ?_ | refine mbQ_normal ?_ | refine HWM_block ?_); refine HWM_reg ?_; refine HVM_eng 2 (fun K1 hK1 => ?_); simp (maxSteps := 2000000) (disch := omega) only [push_cast, ↓Int.cast_ofNat_Int, Nat.reduceBEq, Nat.reduceAdd, Nat.reduceLT, Nat.reduceEqDiff, reduceIte, reduceCtorEq, Nat.reduceLeDiff, Nat.reduceSub, List.reduceReplicate, Nat.reduceMul, Int.reduceToNat, Int.toNat_natCast, Nat.reducePow, reduceIte]; refine hK1 _ ?_; (try clear hK1 K1)
  refine HVM_call 664 [120] cl13 (b1) rfl rfl rfl rfl (by simp only [push_cast, pos_nil, yF, Option.getD_some, Bool.or_true, Bool.or_false, Bool.and_true, Bool.and_false, Option.map_some, Option.map_none, Nat.zero_add, Nat.reduceBEq, Nat.reduceAdd, Nat.reduceLT, Nat.reduceEqDiff, reduceIte, reduceCtorEq, Nat.reduceLeDiff, Nat.reduceSub, List.reduceReplicate, Nat.reduceMul, Int.reduceToNat, Int.toNat_natCast, Nat.reducePow, reduceIte]; exact rfl) (by decide) (by decide) (by decide) (by simp only [push_cast, pos_nil, yF, Option.getD_some, Bool.or_true, Bool.or_false, Bool.and_true, Bool.and_false, Option.map_some, Option.map_none, Nat.zero_add, Nat.reduceBEq, Nat.reduceAdd, Nat.reduceLT, Nat.reduceEqDiff, reduceIte, reduceCtorEq, Nat.reduceLeDiff, Nat.reduceSub, List.reduceReplicate, Nat.reduceMul, Int.reduceToNat, Int.toNat_natCast, Nat.reducePow, reduceIte]; try rfl) (by simp only [push_cast, pos_nil, yF, Option.getD_some, Bool.or_true, Bool.or_false, Bool.and_true, Bool.and_false, Option.map_some, Option.map_none, Nat.zero_add, Nat.reduceBEq, Nat.reduceAdd, Nat.reduceLT, Nat.reduceEqDiff, reduceIte, reduceCtorEq, Nat.reduceLeDiff, Nat.reduceSub, List.reduceReplicate, Nat.reduceMul, Int.reduceToNat, Int.toNat_natCast, Nat.reducePow, reduceIte]; try rfl) ?_
  rintro _ _ _ ⟨rfl, rfl, rfl⟩
  refine HVM_eng 5 (fun K1 hK1 => ?_); simp (maxSteps := 2000000) (disch := omega) only [push_cast, ↓Int.cast_ofNat_Int, Nat.reduceBEq, Nat.reduceAdd, Nat.reduceLT, Nat.reduceEqDiff, reduceIte, reduceCtorEq, Nat.reduceLeDiff, Nat.reduceSub, List.reduceReplicate, Nat.reduceMul, Int.reduceToNat, Int.toNat_natCast, Nat.reducePow, reduceIte, Option.getD_some, Bool.or_true, Bool.or_false, Bool.and_true, Bool.and_false, Nat.zero_add, pos_nil, yF, Option.map_some, Option.map_none, lookH_true, lookH_false]; refine hK1 _ ?_; (try clear hK1 K1)
  refine HVM_nil ?_
  refine HWM_keep [0, 1, 5, 6, 7, 8, 9, 11, 12, 13] [120, 392] (by simp only [zZ, zR, zP, zQ, zN, zS, zM, zX, zU, Nat.reduceEqDiff, reduceIte]; exact rfl) ?_
  have hw : decide (w0 = w0) = true := by simp
  have hle : decide (n < U) = false := decide_eq_false (by have := hF.used; omega)
  (repeat first | refine HWM_seq ?_ | refine msQ_normal ?_ | refine HWM_skip ?_ | refine mbQ_normal ?_ | refine HWM_block ?_); refine HWM_reg ?_; refine HVM_eng 23 (fun K1 hK1 => ?_); simp (maxSteps := 2000000) (disch := omega) only [push_cast, ↓Int.cast_ofNat_Int, Nat.reduceBEq, Nat.reduceAdd, Nat.reduceLT, Nat.reduceEqDiff, reduceIte, reduceCtorEq, Nat.reduceLeDiff, Nat.reduceSub, List.reduceReplicate, Nat.reduceMul, Int.reduceToNat, Int.toNat_natCast, Nat.reducePow, reduceIte, strs_len, strs_wid, hgs, hw]; refine hK1 _ ?_; (try clear hK1 K1)
  refine HVM_call 872 [120] cl14 (b2) rfl rfl rfl rfl (by simp only [push_cast, pos_nil, yF, Option.getD_some, Bool.or_true, Bool.or_false, Bool.and_true, Bool.and_false, Option.map_some, Option.map_none, Nat.zero_add, Nat.reduceBEq, Nat.reduceAdd, Nat.reduceLT, Nat.reduceEqDiff, reduceIte, reduceCtorEq, Nat.reduceLeDiff, Nat.reduceSub, List.reduceReplicate, Nat.reduceMul, Int.reduceToNat, Int.toNat_natCast, Nat.reducePow, reduceIte]; exact rfl) (by decide) (by decide) (by decide) (by simp only [push_cast, pos_nil, yF, Option.getD_some, Bool.or_true, Bool.or_false, Bool.and_true, Bool.and_false, Option.map_some, Option.map_none, Nat.zero_add, Nat.reduceBEq, Nat.reduceAdd, Nat.reduceLT, Nat.reduceEqDiff, reduceIte, reduceCtorEq, Nat.reduceLeDiff, Nat.reduceSub, List.reduceReplicate, Nat.reduceMul, Int.reduceToNat, Int.toNat_natCast, Nat.reducePow, reduceIte]; try rfl) (by simp only [push_cast, pos_nil, yF, Option.getD_some, Bool.or_true, Bool.or_false, Bool.and_true, Bool.and_false, Option.map_some, Option.map_none, Nat.zero_add, Nat.reduceBEq, Nat.reduceAdd, Nat.reduceLT, Nat.reduceEqDiff, reduceIte, reduceCtorEq, Nat.reduceLeDiff, Nat.reduceSub, List.reduceReplicate, Nat.reduceMul, Int.reduceToNat, Int.toNat_natCast, Nat.reducePow, reduceIte]; try rfl) ?_
  rintro _ _ _ ⟨rfl, rfl, rfl⟩
  refine HVM_eng 7 (fun K1 hK1 => ?_); simp (maxSteps := 2000000) (disch := omega) only [push_cast, ↓Int.cast_ofNat_Int, Nat.reduceBEq, Nat.reduceAdd, Nat.reduceLT, Nat.reduceEqDiff, reduceIte, reduceCtorEq, Nat.reduceLeDiff, Nat.reduceSub, List.reduceReplicate, Nat.reduceMul, Int.reduceToNat, Int.toNat_natCast, Nat.reducePow, reduceIte, Option.getD_some, Bool.or_true, Bool.or_false, Bool.and_true, Bool.and_false, Nat.zero_add, pos_nil, yF, Option.map_some, Option.map_none, lookH_true, lookH_false]; refine hK1 _ ?_; (try clear hK1 K1)
  refine HVM_call 936 [120] cl14 (b2) rfl rfl rfl rfl (by simp only [push_cast, pos_nil, yF, Option.getD_some, Bool.or_true, Bool.or_false, Bool.and_true, Bool.and_false, Option.map_some, Option.map_none, Nat.zero_add, Nat.reduceBEq, Nat.reduceAdd, Nat.reduceLT, Nat.reduceEqDiff, reduceIte, reduceCtorEq, Nat.reduceLeDiff, Nat.reduceSub, List.reduceReplicate, Nat.reduceMul, Int.reduceToNat, Int.toNat_natCast, Nat.reducePow, reduceIte]; exact rfl) (by decide) (by decide) (by decide) (by simp only [push_cast, pos_nil, yF, Option.getD_some, Bool.or_true, Bool.or_false, Bool.and_true, Bool.and_false, Option.map_some, Option.map_none, Nat.zero_add, Nat.reduceBEq, Nat.reduceAdd, Nat.reduceLT, Nat.reduceEqDiff, reduceIte, reduceCtorEq, Nat.reduceLeDiff, Nat.reduceSub, List.reduceReplicate, Nat.reduceMul, Int.reduceToNat, Int.toNat_natCast, Nat.reducePow, reduceIte]; try rfl) (by simp only [push_cast, pos_nil, yF, Option.getD_some, Bool.or_true, Bool.or_false, Bool.and_true, Bool.and_false, Option.map_some, Option.map_none, Nat.zero_add, Nat.reduceBEq, Nat.reduceAdd, Nat.reduceLT, Nat.reduceEqDiff, reduceIte, reduceCtorEq, Nat.reduceLeDiff, Nat.reduceSub, List.reduceReplicate, Nat.reduceMul, Int.reduceToNat, Int.toNat_natCast, Nat.reducePow, reduceIte]; try rfl) ?_
  rintro _ _ _ ⟨rfl, rfl, rfl⟩
  refine HVM_eng 3 (fun K1 hK1 => ?_); simp (maxSteps := 2000000) (disch := omega) only [push_cast, ↓Int.cast_ofNat_Int, Nat.reduceBEq, Nat.reduceAdd, Nat.reduceLT, Nat.reduceEqDiff, reduceIte, reduceCtorEq, Nat.reduceLeDiff, Nat.reduceSub, List.reduceReplicate, Nat.reduceMul, Int.reduceToNat, Int.toNat_natCast, Nat.reducePow, reduceIte, Option.getD_some, Bool.or_true, Bool.or_false, Bool.and_true, Bool.and_false, Nat.zero_add, pos_nil, yF, Option.map_some, Option.map_none, lookH_true, lookH_false, hle]; refine hK1 _ ?_; (try clear hK1 K1)
  refine HVM_nil ?_
  (repeat first | refine HWM_seq ?_ | refine msQ_normal ?_ | refine HWM_skip ?_ | refine mbQ_normal ?_ | refine HWM_block ?_)
  refine HWM_false rfl ?_
  refine HWM_keep [0, 1, 5, 6, 7, 8, 9, 11, 12] [120, 392] (by simp only [zZ, zR, zP, zQ, zN, zS, zM, zX, zU, Nat.reduceEqDiff, reduceIte]; exact rfl) ?_
  have hle2 : decide (U - (w0.size : Int) ≤ n - (s.size : Int)) = false := decide_eq_false (by omega)
  (repeat first | refine HWM_seq ?_ | refine msQ_normal ?_ | refine HWM_skip ?_ | refine mbQ_normal ?_ | refine HWM_block ?_); refine HWM_regE (fun K hK => ?_); simp (maxSteps := 2000000) (disch := omega) only [push_cast, ↓Int.cast_ofNat_Int, Nat.reduceBEq, Nat.reduceAdd, Nat.reduceLT, Nat.reduceEqDiff, reduceIte, reduceCtorEq, Nat.reduceLeDiff, Nat.reduceSub, List.reduceReplicate, Nat.reduceMul, Int.reduceToNat, Int.toNat_natCast, Nat.reducePow, reduceIte, strs_len, strs_wid, hgs, hle2]; refine hK _ ?_; clear hK K
  (repeat first | refine HWM_seq ?_ | refine msQ_normal ?_ | refine HWM_skip ?_ | refine mbQ_normal ?_ | refine HWM_block ?_)
  refine HWM_false rfl ?_
  (repeat first | refine HWM_seq ?_ | refine msQ_normal ?_ | refine HWM_skip ?_ | refine mbQ_normal ?_ | refine HWM_block ?_)
  refine HWM_keep [0, 1, 5, 6, 7] [120, 392] (by simp only [zZ, zR, zP, zQ, zN, zS, zM, zX, zU, Nat.reduceEqDiff, reduceIte]; exact rfl) ?_
  (repeat first | refine HWM_seq ?_ | refine msQ_normal ?_ | refine HWM_skip ?_ | refine mbQ_normal ?_ | refine HWM_block ?_); refine HWM_regE (fun K hK => ?_); simp (maxSteps := 2000000) (disch := omega) only [push_cast, ↓Int.cast_ofNat_Int, Nat.reduceBEq, Nat.reduceAdd, Nat.reduceLT, Nat.reduceEqDiff, reduceIte, reduceCtorEq, Nat.reduceLeDiff, Nat.reduceSub, List.reduceReplicate, Nat.reduceMul, Int.reduceToNat, Int.toNat_natCast, Nat.reducePow, reduceIte]; refine hK _ ?_; clear hK K
  (repeat first | refine msQ_ret ?_ | refine msQ_exit ?_ | refine mbQ_exit ?_ | refine mbQ_other rfl ?_ | refine mbQ_ret ?_ | refine mbQ_normal ?_ | refine HWM_seq ?_ | refine msQ_normal ?_ | refine HWM_skip ?_ | refine HWM_exit ?_ | refine HWM_ret ?_)
  refine ⟨(i + 1, d), ?_, rfl, ⟨by show i + 1 ≤ 60; omega, by show i + 1 ≤ ts.length; omega, hF, ok_mono hO (by push_cast; omega)⟩, by show 60 - (i + 1) < 60 - i; omega⟩
  dsimp only
  rw [show (((i + 1 : Nat) : Int)) = (i : Int) + 1 from Int.natCast_succ i]
  rfl
 ·rw [hr] at b3
  simp only [cells_eq] at b3
  have hO' := hOn d' ⟨_, hr⟩
  have hOB' : d'.Ok BB := ok_mono hO' (by show _ ≤ (1099511627776 : Int); push_cast; omega)
  have b4 := read_H d' p r1 r2 hp.size
  have b5 := used_H d' BB hOB' (Int.le_refl _) tV r1 r2
  rw [hrd'] at b4
  simp only [cells_eq] at b4 b5
  refine HVM_call 632 [120] cl11 (b3) rfl rfl rfl rfl (by simp only [push_cast, pos_nil, yF, Option.getD_some, Bool.or_true, Bool.or_false, Bool.and_true, Bool.and_false, Option.map_some, Option.map_none, Nat.zero_add, Nat.reduceBEq, Nat.reduceAdd, Nat.reduceLT, Nat.reduceEqDiff, reduceIte, reduceCtorEq, Nat.reduceLeDiff, Nat.reduceSub, List.reduceReplicate, Nat.reduceMul, Int.reduceToNat, Int.toNat_natCast, Nat.reducePow, reduceIte]; exact rfl) (by decide) (by decide) (by decide) (by simp only [push_cast, pos_nil, yF, Option.getD_some, Bool.or_true, Bool.or_false, Bool.and_true, Bool.and_false, Option.map_some, Option.map_none, Nat.zero_add, Nat.reduceBEq, Nat.reduceAdd, Nat.reduceLT, Nat.reduceEqDiff, reduceIte, reduceCtorEq, Nat.reduceLeDiff, Nat.reduceSub, List.reduceReplicate, Nat.reduceMul, Int.reduceToNat, Int.toNat_natCast, Nat.reducePow, reduceIte]; try rfl) (by simp only [push_cast, pos_nil, yF, Option.getD_some, Bool.or_true, Bool.or_false, Bool.and_true, Bool.and_false, Option.map_some, Option.map_none, Nat.zero_add, Nat.reduceBEq, Nat.reduceAdd, Nat.reduceLT, Nat.reduceEqDiff, reduceIte, reduceCtorEq, Nat.reduceLeDiff, Nat.reduceSub, List.reduceReplicate, Nat.reduceMul, Int.reduceToNat, Int.toNat_natCast, Nat.reducePow, reduceIte]; try rfl) ?_
  rintro _ _ _ ⟨rfl, rfl, rfl⟩
  refine HVM_eng 1 (fun K1 hK1 => ?_); simp (maxSteps := 2000000) (disch := omega) only [push_cast, ↓Int.cast_ofNat_Int, Nat.reduceBEq, Nat.reduceAdd, Nat.reduceLT, Nat.reduceEqDiff, reduceIte, reduceCtorEq, Nat.reduceLeDiff, Nat.reduceSub, List.reduceReplicate, Nat.reduceMul, Int.reduceToNat, Int.toNat_natCast, Nat.reducePow, reduceIte, Option.getD_some, Bool.or_true, Bool.or_false, Bool.and_true, Bool.and_false, Nat.zero_add, pos_nil, yF, Option.map_some, Option.map_none, lookH_true, lookH_false]; refine hK1 _ ?_; (try clear hK1 K1)
  refine HVM_nil ?_
  (repeat first | refine HWM_seq ?_ | refine msQ_normal ?_ | refine HWM_skip ?_ | refine mbQ_normal ?_ | refine HWM_block ?_); refine HWM_reg ?_; refine HVM_eng 2 (fun K1 hK1 => ?_); simp (maxSteps := 2000000) (disch := omega) only [push_cast, ↓Int.cast_ofNat_Int, Nat.reduceBEq, Nat.reduceAdd, Nat.reduceLT, Nat.reduceEqDiff, reduceIte, reduceCtorEq, Nat.reduceLeDiff, Nat.reduceSub, List.reduceReplicate, Nat.reduceMul, Int.reduceToNat, Int.toNat_natCast, Nat.reducePow, reduceIte]; refine hK1 _ ?_; (try clear hK1 K1)
  refine HVM_call 664 [120] cl13 (b4) rfl rfl rfl rfl (by simp only [push_cast, pos_nil, yF, Option.getD_some, Bool.or_true, Bool.or_false, Bool.and_true, Bool.and_false, Option.map_some, Option.map_none, Nat.zero_add, Nat.reduceBEq, Nat.reduceAdd, Nat.reduceLT, Nat.reduceEqDiff, reduceIte, reduceCtorEq, Nat.reduceLeDiff, Nat.reduceSub, List.reduceReplicate, Nat.reduceMul, Int.reduceToNat, Int.toNat_natCast, Nat.reducePow, reduceIte]; exact rfl) (by decide) (by decide) (by decide) (by simp only [push_cast, pos_nil, yF, Option.getD_some, Bool.or_true, Bool.or_false, Bool.and_true, Bool.and_false, Option.map_some, Option.map_none, Nat.zero_add, Nat.reduceBEq, Nat.reduceAdd, Nat.reduceLT, Nat.reduceEqDiff, reduceIte, reduceCtorEq, Nat.reduceLeDiff, Nat.reduceSub, List.reduceReplicate, Nat.reduceMul, Int.reduceToNat, Int.toNat_natCast, Nat.reducePow, reduceIte]; try rfl) (by simp only [push_cast, pos_nil, yF, Option.getD_some, Bool.or_true, Bool.or_false, Bool.and_true, Bool.and_false, Option.map_some, Option.map_none, Nat.zero_add, Nat.reduceBEq, Nat.reduceAdd, Nat.reduceLT, Nat.reduceEqDiff, reduceIte, reduceCtorEq, Nat.reduceLeDiff, Nat.reduceSub, List.reduceReplicate, Nat.reduceMul, Int.reduceToNat, Int.toNat_natCast, Nat.reducePow, reduceIte]; try rfl) ?_
  rintro _ _ _ ⟨rfl, rfl, rfl⟩
  refine HVM_eng 5 (fun K1 hK1 => ?_); simp (maxSteps := 2000000) (disch := omega) only [push_cast, ↓Int.cast_ofNat_Int, Nat.reduceBEq, Nat.reduceAdd, Nat.reduceLT, Nat.reduceEqDiff, reduceIte, reduceCtorEq, Nat.reduceLeDiff, Nat.reduceSub, List.reduceReplicate, Nat.reduceMul, Int.reduceToNat, Int.toNat_natCast, Nat.reducePow, reduceIte, Option.getD_some, Bool.or_true, Bool.or_false, Bool.and_true, Bool.and_false, Nat.zero_add, pos_nil, yF, Option.map_some, Option.map_none, lookH_true, lookH_false]; refine hK1 _ ?_; (try clear hK1 K1)
  refine HVM_nil ?_
  refine HWM_keep [0, 1, 5, 6, 7, 8, 9, 11, 12, 13] [120, 392] (by simp only [zZ, zR, zP, zQ, zN, zS, zM, zX, zU, Nat.reduceEqDiff, reduceIte]; exact rfl) ?_
  have hw : decide (s = s) = true := by simp
  have hle : decide (n < used d' tV) = false := decide_eq_false (by have := hF'.used; omega)
  (repeat first | refine HWM_seq ?_ | refine msQ_normal ?_ | refine HWM_skip ?_ | refine mbQ_normal ?_ | refine HWM_block ?_); refine HWM_reg ?_; refine HVM_eng 31 (fun K1 hK1 => ?_); simp (maxSteps := 2000000) (disch := omega) only [push_cast, ↓Int.cast_ofNat_Int, Nat.reduceBEq, Nat.reduceAdd, Nat.reduceLT, Nat.reduceEqDiff, reduceIte, reduceCtorEq, Nat.reduceLeDiff, Nat.reduceSub, List.reduceReplicate, Nat.reduceMul, Int.reduceToNat, Int.toNat_natCast, Nat.reducePow, reduceIte, strs_len, strs_wid, hgs, hw]; refine hK1 _ ?_; (try clear hK1 K1)
  refine HVM_call 936 [120] cl14 (b5) rfl rfl rfl rfl (by simp only [push_cast, pos_nil, yF, Option.getD_some, Bool.or_true, Bool.or_false, Bool.and_true, Bool.and_false, Option.map_some, Option.map_none, Nat.zero_add, Nat.reduceBEq, Nat.reduceAdd, Nat.reduceLT, Nat.reduceEqDiff, reduceIte, reduceCtorEq, Nat.reduceLeDiff, Nat.reduceSub, List.reduceReplicate, Nat.reduceMul, Int.reduceToNat, Int.toNat_natCast, Nat.reducePow, reduceIte]; exact rfl) (by decide) (by decide) (by decide) (by simp only [push_cast, pos_nil, yF, Option.getD_some, Bool.or_true, Bool.or_false, Bool.and_true, Bool.and_false, Option.map_some, Option.map_none, Nat.zero_add, Nat.reduceBEq, Nat.reduceAdd, Nat.reduceLT, Nat.reduceEqDiff, reduceIte, reduceCtorEq, Nat.reduceLeDiff, Nat.reduceSub, List.reduceReplicate, Nat.reduceMul, Int.reduceToNat, Int.toNat_natCast, Nat.reducePow, reduceIte]; try rfl) (by simp only [push_cast, pos_nil, yF, Option.getD_some, Bool.or_true, Bool.or_false, Bool.and_true, Bool.and_false, Option.map_some, Option.map_none, Nat.zero_add, Nat.reduceBEq, Nat.reduceAdd, Nat.reduceLT, Nat.reduceEqDiff, reduceIte, reduceCtorEq, Nat.reduceLeDiff, Nat.reduceSub, List.reduceReplicate, Nat.reduceMul, Int.reduceToNat, Int.toNat_natCast, Nat.reducePow, reduceIte]; try rfl) ?_
  rintro _ _ _ ⟨rfl, rfl, rfl⟩
  refine HVM_eng 3 (fun K1 hK1 => ?_); simp (maxSteps := 2000000) (disch := omega) only [push_cast, ↓Int.cast_ofNat_Int, Nat.reduceBEq, Nat.reduceAdd, Nat.reduceLT, Nat.reduceEqDiff, reduceIte, reduceCtorEq, Nat.reduceLeDiff, Nat.reduceSub, List.reduceReplicate, Nat.reduceMul, Int.reduceToNat, Int.toNat_natCast, Nat.reducePow, reduceIte, Option.getD_some, Bool.or_true, Bool.or_false, Bool.and_true, Bool.and_false, Nat.zero_add, pos_nil, yF, Option.map_some, Option.map_none, lookH_true, lookH_false, hle]; refine hK1 _ ?_; (try clear hK1 K1)
  refine HVM_nil ?_
  (repeat first | refine HWM_seq ?_ | refine msQ_normal ?_ | refine HWM_skip ?_ | refine mbQ_normal ?_ | refine HWM_block ?_)
  refine HWM_false rfl ?_
  refine HWM_keep [0, 1, 5, 6, 7, 8, 9, 11, 12] [120, 392] (by simp only [zZ, zR, zP, zQ, zN, zS, zM, zX, zU, Nat.reduceEqDiff, reduceIte]; exact rfl) ?_
  (repeat first | refine HWM_seq ?_ | refine msQ_normal ?_ | refine HWM_skip ?_ | refine mbQ_normal ?_ | refine HWM_block ?_); refine HWM_regE (fun K hK => ?_); simp (maxSteps := 2000000) (disch := omega) only [push_cast, ↓Int.cast_ofNat_Int, Nat.reduceBEq, Nat.reduceAdd, Nat.reduceLT, Nat.reduceEqDiff, reduceIte, reduceCtorEq, Nat.reduceLeDiff, Nat.reduceSub, List.reduceReplicate, Nat.reduceMul, Int.reduceToNat, Int.toNat_natCast, Nat.reducePow, reduceIte, strs_len, strs_wid, hgs]; refine hK _ ?_; clear hK K
  (repeat first | refine HWM_seq ?_ | refine msQ_normal ?_ | refine HWM_skip ?_ | refine mbQ_normal ?_ | refine HWM_block ?_)
  refine HWM_false rfl ?_
  (repeat first | refine HWM_seq ?_ | refine msQ_normal ?_ | refine HWM_skip ?_ | refine mbQ_normal ?_ | refine HWM_block ?_)
  refine HWM_keep [0, 1, 5, 6, 7] [120, 392] (by simp only [zZ, zR, zP, zQ, zN, zS, zM, zX, zU, Nat.reduceEqDiff, reduceIte]; exact rfl) ?_
  (repeat first | refine HWM_seq ?_ | refine msQ_normal ?_ | refine HWM_skip ?_ | refine mbQ_normal ?_ | refine HWM_block ?_); refine HWM_regE (fun K hK => ?_); simp (maxSteps := 2000000) (disch := omega) only [push_cast, ↓Int.cast_ofNat_Int, Nat.reduceBEq, Nat.reduceAdd, Nat.reduceLT, Nat.reduceEqDiff, reduceIte, reduceCtorEq, Nat.reduceLeDiff, Nat.reduceSub, List.reduceReplicate, Nat.reduceMul, Int.reduceToNat, Int.toNat_natCast, Nat.reducePow, reduceIte]; refine hK _ ?_; clear hK K
  (repeat first | refine msQ_ret ?_ | refine msQ_exit ?_ | refine mbQ_exit ?_ | refine mbQ_other rfl ?_ | refine mbQ_ret ?_ | refine mbQ_normal ?_ | refine HWM_seq ?_ | refine msQ_normal ?_ | refine HWM_skip ?_ | refine HWM_exit ?_ | refine HWM_ret ?_)
  refine ⟨(i + 1, d'), ?_, rfl, ⟨by show i + 1 ≤ 60; omega, by show i + 1 ≤ ts.length; omega, hF', hO'⟩, by show 60 - (i + 1) < 60 - i; omega⟩
  dsimp only
  rw [show (((i + 1 : Nat) : Int)) = (i : Int) + 1 from Int.natCast_succ i]
  rfl
theorem sum_strs : ∀ (ts : List ByteArray), ts.length ≤ (ts.map fun s => s.size + 1).sum ∧ ∀ s ∈ ts, s.size + 1 ≤ (ts.map fun s => s.size + 1).sum
 | [] => ⟨Nat.le_refl _, fun s h => by simp at h⟩
 | x :: r => by
  obtain ⟨h1, h2⟩ := sum_strs r
  refine ⟨by simp only [List.length_cons, List.map_cons, List.sum_cons]; omega, fun s h => ?_⟩
  simp only [List.map_cons, List.sum_cons]
  rcases List.mem_cons.1 h with rfl | h
  ·omega
  ·have := h2 s h; omega
theorem diskFills_U (n : Int) (ts : List ByteArray) (hu : fw (.v (.int .i64 n)) + (fw (.lst false (strs ts)) + 0) ≤ 1048576) : HFun Tryd.prog 3 [.v (.int .i64 n), .lst false (strs ts)] (fun h st => h = .v (.bool true)) := by
 rw [fw_strs] at hu
 obtain ⟨h1, h2⟩ := sum_strs ts
 exact fills_H n ts (fun s hs => by have := h2 s hs; omega) (by omega)
end Go.Proofs.YtojolcpblacjjaaDoor
