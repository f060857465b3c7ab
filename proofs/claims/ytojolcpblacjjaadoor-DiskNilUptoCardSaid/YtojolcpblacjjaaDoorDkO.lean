/-
  The law DiskNil: a nil disk refuses.
-/
import Derived.Test.YtojolcpblacjjaaDoorDkN
import Derived.Test.YtojolcpblacjjaaDoorUpt
set_option linter.unusedSimpArgs false
set_option linter.unusedVariables false
set_option maxRecDepth 20000
namespace Go.Proofs.YtojolcpblacjjaaDoor
open Go Go.Eng Go.RowKit Go.Tr Go.Dk
set_option maxHeartbeats 4000000 in
theorem diskNil_H (p : ByteArray) (k : Int) : HFun Tryd.prog 7 [.v (.string p), .v (.int .i64 k)] (fun h st => h = .v (.bool true)) := by
 refine hfun (N := 120) Tryd.func7 rfl Tryd.ntmps7 Tryd.results7 (by simp) ?_
 refine HW_ofM ?_
 have he : decide (({ data := #[] } : ByteArray) = { data := #[] }) = true := by decide
 (repeat first | refine HWM_seq ?_ | refine msQ_normal ?_ | refine HWM_skip ?_ | refine mbQ_normal ?_ | refine HWM_block ?_); refine HWM_regE (fun K hK => ?_); simp (maxSteps := 2000000) (disch := omega) only [push_cast, ↓Int.cast_ofNat_Int, Nat.reduceBEq, Nat.reduceAdd, Nat.reduceLT, Nat.reduceEqDiff, reduceIte, reduceCtorEq, Nat.reduceLeDiff, Nat.reduceSub, List.reduceReplicate, Nat.reduceMul, Int.reduceToNat, Int.toNat_natCast, Nat.reducePow, reduceIte]; refine hK _ ?_; clear hK K
 (repeat first | refine HWM_seq ?_ | refine msQ_normal ?_ | refine HWM_skip ?_ | refine mbQ_normal ?_ | refine HWM_block ?_); refine HWM_regE (fun K hK => ?_); simp (maxSteps := 2000000) (disch := omega) only [push_cast, ↓Int.cast_ofNat_Int, Nat.reduceBEq, Nat.reduceAdd, Nat.reduceLT, Nat.reduceEqDiff, reduceIte, reduceCtorEq, Nat.reduceLeDiff, Nat.reduceSub, List.reduceReplicate, Nat.reduceMul, Int.reduceToNat, Int.toNat_natCast, Nat.reducePow, reduceIte]; refine hK _ ?_; clear hK K
 (repeat first | refine HWM_seq ?_ | refine msQ_normal ?_ | refine HWM_skip ?_ | refine mbQ_normal ?_ | refine HWM_block ?_); refine HWM_regE (fun K hK => ?_); simp (maxSteps := 2000000) (disch := omega) only [push_cast, ↓Int.cast_ofNat_Int, Nat.reduceBEq, Nat.reduceAdd, Nat.reduceLT, Nat.reduceEqDiff, reduceIte, reduceCtorEq, Nat.reduceLeDiff, Nat.reduceSub, List.reduceReplicate, Nat.reduceMul, Int.reduceToNat, Int.toNat_natCast, Nat.reducePow, reduceIte]
 refine hatt cl13 (nread_H p) (.cons (.v _) (.cons (.v _) .nil)) ?_
 with_reducible refine hstop ?_; simp (maxSteps := 2000000) (disch := omega) only [push_cast, ↓Int.cast_ofNat_Int, Nat.reduceBEq, Nat.reduceAdd, Nat.reduceLT, Nat.reduceEqDiff, reduceIte, reduceCtorEq, Nat.reduceLeDiff, Nat.reduceSub, List.reduceReplicate, Nat.reduceMul, Int.reduceToNat, Int.toNat_natCast, Nat.reducePow, reduceIte]
 refine hK _ ?_; clear hK K
 (repeat first | refine HWM_seq ?_ | refine msQ_normal ?_ | refine HWM_skip ?_ | refine mbQ_normal ?_ | refine HWM_block ?_); refine HWM_regE (fun K hK => ?_); simp (maxSteps := 2000000) (disch := omega) only [push_cast, ↓Int.cast_ofNat_Int, Nat.reduceBEq, Nat.reduceAdd, Nat.reduceLT, Nat.reduceEqDiff, reduceIte, reduceCtorEq, Nat.reduceLeDiff, Nat.reduceSub, List.reduceReplicate, Nat.reduceMul, Int.reduceToNat, Int.toNat_natCast, Nat.reducePow, reduceIte]
 refine hatt cl16 (narm_H k) (.cons (.v _) (.cons (.v _) .nil)) ?_
 with_reducible refine hstop ?_; simp (maxSteps := 2000000) (disch := omega) only [push_cast, ↓Int.cast_ofNat_Int, Nat.reduceBEq, Nat.reduceAdd, Nat.reduceLT, Nat.reduceEqDiff, reduceIte, reduceCtorEq, Nat.reduceLeDiff, Nat.reduceSub, List.reduceReplicate, Nat.reduceMul, Int.reduceToNat, Int.toNat_natCast, Nat.reducePow, reduceIte]
 refine hK _ ?_; clear hK K
 refine HWM_keep [0, 1, 5, 6, 7] [] (by simp only [zZ, zR, zP, zQ, zN, zS, zM, zX, zU, Nat.reduceEqDiff, reduceIte]; exact rfl) ?_
 (repeat first | refine HWM_seq ?_ | refine msQ_normal ?_ | refine HWM_skip ?_ | refine mbQ_normal ?_ | refine HWM_block ?_); refine HWM_reg ?_; refine HVM_eng 6 (fun K1 hK1 => ?_); simp (maxSteps := 2000000) (disch := omega) only [push_cast, ↓Int.cast_ofNat_Int, Nat.reduceBEq, Nat.reduceAdd, Nat.reduceLT, Nat.reduceEqDiff, reduceIte, reduceCtorEq, Nat.reduceLeDiff, Nat.reduceSub, List.reduceReplicate, Nat.reduceMul, Int.reduceToNat, Int.toNat_natCast, Nat.reducePow, reduceIte, he, List.append_eq]
 refine hatv cl9 awake_H .nil ?_
 with_reducible refine hstop ?_; simp (maxSteps := 2000000) (disch := omega) only [push_cast, ↓Int.cast_ofNat_Int, Nat.reduceBEq, Nat.reduceAdd, Nat.reduceLT, Nat.reduceEqDiff, reduceIte, reduceCtorEq, Nat.reduceLeDiff, Nat.reduceSub, List.reduceReplicate, Nat.reduceMul, Int.reduceToNat, Int.toNat_natCast, Nat.reducePow, reduceIte, he]
 refine hK1 _ ?_; (try clear hK1 K1)
 refine HVM_keep [0, 1, 5, 6, 7, 22] [] (by simp only [zZ, zR, zP, zQ, zN, zS, zM, zX, zU, Nat.reduceEqDiff, reduceIte]; exact rfl) ?_
 refine HVM_eng 4 (fun K1 hK1 => ?_); simp (maxSteps := 2000000) (disch := omega) only [push_cast, ↓Int.cast_ofNat_Int, Nat.reduceBEq, Nat.reduceAdd, Nat.reduceLT, Nat.reduceEqDiff, reduceIte, reduceCtorEq, Nat.reduceLeDiff, Nat.reduceSub, List.reduceReplicate, Nat.reduceMul, Int.reduceToNat, Int.toNat_natCast, Nat.reducePow, reduceIte, Option.getD_some, Bool.or_true, Bool.or_false, Bool.and_true, Bool.and_false, Nat.zero_add, pos_nil, yF, Option.map_some, Option.map_none, lookH_true, lookH_false, List.append_eq]
 refine hK1 _ ?_; (try clear hK1 K1)
 refine HVM_keep [0, 1, 5, 6, 7, 26] [] (by simp only [zZ, zR, zP, zQ, zN, zS, zM, zX, zU, Nat.reduceEqDiff, reduceIte]; exact rfl) ?_
 refine HVM_eng 6 (fun K1 hK1 => ?_); simp (maxSteps := 2000000) (disch := omega) only [push_cast, ↓Int.cast_ofNat_Int, Nat.reduceBEq, Nat.reduceAdd, Nat.reduceLT, Nat.reduceEqDiff, reduceIte, reduceCtorEq, Nat.reduceLeDiff, Nat.reduceSub, List.reduceReplicate, Nat.reduceMul, Int.reduceToNat, Int.toNat_natCast, Nat.reducePow, reduceIte, Option.getD_some, Bool.or_true, Bool.or_false, Bool.and_true, Bool.and_false, Nat.zero_add, pos_nil, yF, Option.map_some, Option.map_none, lookH_true, lookH_false, List.append_eq]
 refine hatv cl10 (nmkdir_H p) (.cons (.v _) (.cons (.v _) .nil)) ?_
 with_reducible refine hstop ?_; simp (maxSteps := 2000000) (disch := omega) only [push_cast, ↓Int.cast_ofNat_Int, Nat.reduceBEq, Nat.reduceAdd, Nat.reduceLT, Nat.reduceEqDiff, reduceIte, reduceCtorEq, Nat.reduceLeDiff, Nat.reduceSub, List.reduceReplicate, Nat.reduceMul, Int.reduceToNat, Int.toNat_natCast, Nat.reducePow, reduceIte]
 refine hK1 _ ?_; (try clear hK1 K1)
 refine HVM_keep [0, 1, 5, 6, 7, 32] [] (by simp only [zZ, zR, zP, zQ, zN, zS, zM, zX, zU, Nat.reduceEqDiff, reduceIte]; exact rfl) ?_
 refine HVM_eng 7 (fun K1 hK1 => ?_); simp (maxSteps := 2000000) (disch := omega) only [push_cast, ↓Int.cast_ofNat_Int, Nat.reduceBEq, Nat.reduceAdd, Nat.reduceLT, Nat.reduceEqDiff, reduceIte, reduceCtorEq, Nat.reduceLeDiff, Nat.reduceSub, List.reduceReplicate, Nat.reduceMul, Int.reduceToNat, Int.toNat_natCast, Nat.reducePow, reduceIte, Option.getD_some, Bool.or_true, Bool.or_false, Bool.and_true, Bool.and_false, Nat.zero_add, pos_nil, yF, Option.map_some, Option.map_none, lookH_true, lookH_false, List.append_eq]
 refine hatv cl11 (nwrite_H p p) (.cons (.v _) (.cons (.v _) (.cons (.v _) .nil))) ?_
 with_reducible refine hstop ?_; simp (maxSteps := 2000000) (disch := omega) only [push_cast, ↓Int.cast_ofNat_Int, Nat.reduceBEq, Nat.reduceAdd, Nat.reduceLT, Nat.reduceEqDiff, reduceIte, reduceCtorEq, Nat.reduceLeDiff, Nat.reduceSub, List.reduceReplicate, Nat.reduceMul, Int.reduceToNat, Int.toNat_natCast, Nat.reducePow, reduceIte]
 refine hK1 _ ?_; (try clear hK1 K1)
 refine HVM_keep [0, 1, 5, 6, 7, 39] [] (by simp only [zZ, zR, zP, zQ, zN, zS, zM, zX, zU, Nat.reduceEqDiff, reduceIte]; exact rfl) ?_
 refine HVM_eng 7 (fun K1 hK1 => ?_); simp (maxSteps := 2000000) (disch := omega) only [push_cast, ↓Int.cast_ofNat_Int, Nat.reduceBEq, Nat.reduceAdd, Nat.reduceLT, Nat.reduceEqDiff, reduceIte, reduceCtorEq, Nat.reduceLeDiff, Nat.reduceSub, List.reduceReplicate, Nat.reduceMul, Int.reduceToNat, Int.toNat_natCast, Nat.reducePow, reduceIte, Option.getD_some, Bool.or_true, Bool.or_false, Bool.and_true, Bool.and_false, Nat.zero_add, pos_nil, yF, Option.map_some, Option.map_none, lookH_true, lookH_false, List.append_eq]
 refine hatv cl19 (nappend_H p p) (.cons (.v _) (.cons (.v _) (.cons (.v _) .nil))) ?_
 with_reducible refine hstop ?_; simp (maxSteps := 2000000) (disch := omega) only [push_cast, ↓Int.cast_ofNat_Int, Nat.reduceBEq, Nat.reduceAdd, Nat.reduceLT, Nat.reduceEqDiff, reduceIte, reduceCtorEq, Nat.reduceLeDiff, Nat.reduceSub, List.reduceReplicate, Nat.reduceMul, Int.reduceToNat, Int.toNat_natCast, Nat.reducePow, reduceIte]
 refine hK1 _ ?_; (try clear hK1 K1)
 refine HVM_keep [0, 1, 5, 6, 7, 46] [] (by simp only [zZ, zR, zP, zQ, zN, zS, zM, zX, zU, Nat.reduceEqDiff, reduceIte]; exact rfl) ?_
 refine HVM_eng 6 (fun K1 hK1 => ?_); simp (maxSteps := 2000000) (disch := omega) only [push_cast, ↓Int.cast_ofNat_Int, Nat.reduceBEq, Nat.reduceAdd, Nat.reduceLT, Nat.reduceEqDiff, reduceIte, reduceCtorEq, Nat.reduceLeDiff, Nat.reduceSub, List.reduceReplicate, Nat.reduceMul, Int.reduceToNat, Int.toNat_natCast, Nat.reducePow, reduceIte, Option.getD_some, Bool.or_true, Bool.or_false, Bool.and_true, Bool.and_false, Nat.zero_add, pos_nil, yF, Option.map_some, Option.map_none, lookH_true, lookH_false, List.append_eq]
 refine hatv cl15 (nsync_H p) (.cons (.v _) (.cons (.v _) .nil)) ?_
 with_reducible refine hstop ?_; simp (maxSteps := 2000000) (disch := omega) only [push_cast, ↓Int.cast_ofNat_Int, Nat.reduceBEq, Nat.reduceAdd, Nat.reduceLT, Nat.reduceEqDiff, reduceIte, reduceCtorEq, Nat.reduceLeDiff, Nat.reduceSub, List.reduceReplicate, Nat.reduceMul, Int.reduceToNat, Int.toNat_natCast, Nat.reducePow, reduceIte]
 refine hK1 _ ?_; (try clear hK1 K1)
 refine HVM_keep [0, 1, 5, 6, 7, 52] [] (by simp only [zZ, zR, zP, zQ, zN, zS, zM, zX, zU, Nat.reduceEqDiff, reduceIte]; exact rfl) ?_
 refine HVM_eng 7 (fun K1 hK1 => ?_); simp (maxSteps := 2000000) (disch := omega) only [push_cast, ↓Int.cast_ofNat_Int, Nat.reduceBEq, Nat.reduceAdd, Nat.reduceLT, Nat.reduceEqDiff, reduceIte, reduceCtorEq, Nat.reduceLeDiff, Nat.reduceSub, List.reduceReplicate, Nat.reduceMul, Int.reduceToNat, Int.toNat_natCast, Nat.reducePow, reduceIte, Option.getD_some, Bool.or_true, Bool.or_false, Bool.and_true, Bool.and_false, Nat.zero_add, pos_nil, yF, Option.map_some, Option.map_none, lookH_true, lookH_false, List.append_eq]
 refine hatv cl17 (nrename_H p p) (.cons (.v _) (.cons (.v _) (.cons (.v _) .nil))) ?_
 with_reducible refine hstop ?_; simp (maxSteps := 2000000) (disch := omega) only [push_cast, ↓Int.cast_ofNat_Int, Nat.reduceBEq, Nat.reduceAdd, Nat.reduceLT, Nat.reduceEqDiff, reduceIte, reduceCtorEq, Nat.reduceLeDiff, Nat.reduceSub, List.reduceReplicate, Nat.reduceMul, Int.reduceToNat, Int.toNat_natCast, Nat.reducePow, reduceIte]
 refine hK1 _ ?_; (try clear hK1 K1)
 refine HVM_keep [0, 1, 5, 6, 7, 59] [] (by simp only [zZ, zR, zP, zQ, zN, zS, zM, zX, zU, Nat.reduceEqDiff, reduceIte]; exact rfl) ?_
 refine HVM_eng 6 (fun K1 hK1 => ?_); simp (maxSteps := 2000000) (disch := omega) only [push_cast, ↓Int.cast_ofNat_Int, Nat.reduceBEq, Nat.reduceAdd, Nat.reduceLT, Nat.reduceEqDiff, reduceIte, reduceCtorEq, Nat.reduceLeDiff, Nat.reduceSub, List.reduceReplicate, Nat.reduceMul, Int.reduceToNat, Int.toNat_natCast, Nat.reducePow, reduceIte, Option.getD_some, Bool.or_true, Bool.or_false, Bool.and_true, Bool.and_false, Nat.zero_add, pos_nil, yF, Option.map_some, Option.map_none, lookH_true, lookH_false, List.append_eq]
 refine hatv cl22 (nremove_H p) (.cons (.v _) (.cons (.v _) .nil)) ?_
 with_reducible refine hstop ?_; simp (maxSteps := 2000000) (disch := omega) only [push_cast, ↓Int.cast_ofNat_Int, Nat.reduceBEq, Nat.reduceAdd, Nat.reduceLT, Nat.reduceEqDiff, reduceIte, reduceCtorEq, Nat.reduceLeDiff, Nat.reduceSub, List.reduceReplicate, Nat.reduceMul, Int.reduceToNat, Int.toNat_natCast, Nat.reducePow, reduceIte]
 refine hK1 _ ?_; (try clear hK1 K1)
 refine HVM_keep [0, 1, 5, 6, 7, 65] [] (by simp only [zZ, zR, zP, zQ, zN, zS, zM, zX, zU, Nat.reduceEqDiff, reduceIte]; exact rfl) ?_
 refine HVM_eng 7 (fun K1 hK1 => ?_); simp (maxSteps := 2000000) (disch := omega) only [push_cast, ↓Int.cast_ofNat_Int, Nat.reduceBEq, Nat.reduceAdd, Nat.reduceLT, Nat.reduceEqDiff, reduceIte, reduceCtorEq, Nat.reduceLeDiff, Nat.reduceSub, List.reduceReplicate, Nat.reduceMul, Int.reduceToNat, Int.toNat_natCast, Nat.reducePow, reduceIte, Option.getD_some, Bool.or_true, Bool.or_false, Bool.and_true, Bool.and_false, Nat.zero_add, pos_nil, yF, Option.map_some, Option.map_none, lookH_true, lookH_false, List.append_eq]
 refine hatv cl23 (nrot_H p k) (.cons (.v _) (.cons (.v _) (.cons (.v _) .nil))) ?_
 with_reducible refine hstop ?_; simp (maxSteps := 2000000) (disch := omega) only [push_cast, ↓Int.cast_ofNat_Int, Nat.reduceBEq, Nat.reduceAdd, Nat.reduceLT, Nat.reduceEqDiff, reduceIte, reduceCtorEq, Nat.reduceLeDiff, Nat.reduceSub, List.reduceReplicate, Nat.reduceMul, Int.reduceToNat, Int.toNat_natCast, Nat.reducePow, reduceIte]
 refine hK1 _ ?_; (try clear hK1 K1)
 refine HVM_keep [0, 1, 5, 6, 7, 72] [] (by simp only [zZ, zR, zP, zQ, zN, zS, zM, zX, zU, Nat.reduceEqDiff, reduceIte]; exact rfl) ?_
 refine HVM_eng 6 (fun K1 hK1 => ?_); simp (maxSteps := 2000000) (disch := omega) only [push_cast, ↓Int.cast_ofNat_Int, Nat.reduceBEq, Nat.reduceAdd, Nat.reduceLT, Nat.reduceEqDiff, reduceIte, reduceCtorEq, Nat.reduceLeDiff, Nat.reduceSub, List.reduceReplicate, Nat.reduceMul, Int.reduceToNat, Int.toNat_natCast, Nat.reducePow, reduceIte, Option.getD_some, Bool.or_true, Bool.or_false, Bool.and_true, Bool.and_false, Nat.zero_add, pos_nil, yF, Option.map_some, Option.map_none, lookH_true, lookH_false, List.append_eq]
 refine hatv cl18 (nrestart_H k) (.cons (.v _) (.cons (.v _) .nil)) ?_
 with_reducible refine hstop ?_; simp (maxSteps := 2000000) (disch := omega) only [push_cast, ↓Int.cast_ofNat_Int, Nat.reduceBEq, Nat.reduceAdd, Nat.reduceLT, Nat.reduceEqDiff, reduceIte, reduceCtorEq, Nat.reduceLeDiff, Nat.reduceSub, List.reduceReplicate, Nat.reduceMul, Int.reduceToNat, Int.toNat_natCast, Nat.reducePow, reduceIte]
 refine hK1 _ ?_; (try clear hK1 K1)
 refine HVM_keep [0, 1, 5, 6, 7, 78] [] (by simp only [zZ, zR, zP, zQ, zN, zS, zM, zX, zU, Nat.reduceEqDiff, reduceIte]; exact rfl) ?_
 refine HVM_eng 7 (fun K1 hK1 => ?_); simp (maxSteps := 2000000) (disch := omega) only [push_cast, ↓Int.cast_ofNat_Int, Nat.reduceBEq, Nat.reduceAdd, Nat.reduceLT, Nat.reduceEqDiff, reduceIte, reduceCtorEq, Nat.reduceLeDiff, Nat.reduceSub, List.reduceReplicate, Nat.reduceMul, Int.reduceToNat, Int.toNat_natCast, Nat.reducePow, reduceIte, Option.getD_some, Bool.or_true, Bool.or_false, Bool.and_true, Bool.and_false, Nat.zero_add, pos_nil, yF, Option.map_some, Option.map_none, lookH_true, lookH_false, List.append_eq]
 refine hatv cl12 (nlimit_H p k) (.cons (.v _) (.cons (.v _) (.cons (.v _) .nil))) ?_
 with_reducible refine hstop ?_; simp (maxSteps := 2000000) (disch := omega) only [push_cast, ↓Int.cast_ofNat_Int, Nat.reduceBEq, Nat.reduceAdd, Nat.reduceLT, Nat.reduceEqDiff, reduceIte, reduceCtorEq, Nat.reduceLeDiff, Nat.reduceSub, List.reduceReplicate, Nat.reduceMul, Int.reduceToNat, Int.toNat_natCast, Nat.reducePow, reduceIte]
 refine hK1 _ ?_; (try clear hK1 K1)
 refine HVM_keep [0, 1, 5, 6, 7, 85] [] (by simp only [zZ, zR, zP, zQ, zN, zS, zM, zX, zU, Nat.reduceEqDiff, reduceIte]; exact rfl) ?_
 refine HVM_eng 6 (fun K1 hK1 => ?_); simp (maxSteps := 2000000) (disch := omega) only [push_cast, ↓Int.cast_ofNat_Int, Nat.reduceBEq, Nat.reduceAdd, Nat.reduceLT, Nat.reduceEqDiff, reduceIte, reduceCtorEq, Nat.reduceLeDiff, Nat.reduceSub, List.reduceReplicate, Nat.reduceMul, Int.reduceToNat, Int.toNat_natCast, Nat.reducePow, reduceIte, Option.getD_some, Bool.or_true, Bool.or_false, Bool.and_true, Bool.and_false, Nat.zero_add, pos_nil, yF, Option.map_some, Option.map_none, lookH_true, lookH_false, List.append_eq]
 refine hatv cl24 (nkind_H p) (.cons (.v _) (.cons (.v _) .nil)) ?_
 with_reducible refine hstop ?_; simp (maxSteps := 2000000) (disch := omega) only [push_cast, ↓Int.cast_ofNat_Int, Nat.reduceBEq, Nat.reduceAdd, Nat.reduceLT, Nat.reduceEqDiff, reduceIte, reduceCtorEq, Nat.reduceLeDiff, Nat.reduceSub, List.reduceReplicate, Nat.reduceMul, Int.reduceToNat, Int.toNat_natCast, Nat.reducePow, reduceIte]
 refine hK1 _ ?_; (try clear hK1 K1)
 refine HVM_keep [0, 1, 5, 6, 7, 91] [] (by simp only [zZ, zR, zP, zQ, zN, zS, zM, zX, zU, Nat.reduceEqDiff, reduceIte]; exact rfl) ?_
 refine HVM_eng 7 (fun K1 hK1 => ?_); simp (maxSteps := 2000000) (disch := omega) only [push_cast, ↓Int.cast_ofNat_Int, Nat.reduceBEq, Nat.reduceAdd, Nat.reduceLT, Nat.reduceEqDiff, reduceIte, reduceCtorEq, Nat.reduceLeDiff, Nat.reduceSub, List.reduceReplicate, Nat.reduceMul, Int.reduceToNat, Int.toNat_natCast, Nat.reducePow, reduceIte, Option.getD_some, Bool.or_true, Bool.or_false, Bool.and_true, Bool.and_false, Nat.zero_add, pos_nil, yF, Option.map_some, Option.map_none, lookH_true, lookH_false, List.append_eq]
 refine hat 752 cl25 (nlist_H p) (.cons (.v _) (.cons (.v _) .nil)) ?_
 rintro _ _ ⟨rfl, rfl⟩
 with_reducible refine hstop ?_; simp (maxSteps := 2000000) (disch := omega) only [push_cast, ↓Int.cast_ofNat_Int, Nat.reduceBEq, Nat.reduceAdd, Nat.reduceLT, Nat.reduceEqDiff, reduceIte, reduceCtorEq, Nat.reduceLeDiff, Nat.reduceSub, List.reduceReplicate, Nat.reduceMul, Int.reduceToNat, Int.toNat_natCast, Nat.reducePow, reduceIte]
 refine hK1 _ ?_; (try clear hK1 K1)
 refine HVM_keep [0, 1, 5, 6, 7, 98] [] (by simp only [zZ, zR, zP, zQ, zN, zS, zM, zX, zU, Nat.reduceEqDiff, reduceIte]; exact rfl) ?_
 refine HVM_eng 6 (fun K1 hK1 => ?_); simp (maxSteps := 2000000) (disch := omega) only [push_cast, ↓Int.cast_ofNat_Int, Nat.reduceBEq, Nat.reduceAdd, Nat.reduceLT, Nat.reduceEqDiff, reduceIte, reduceCtorEq, Nat.reduceLeDiff, Nat.reduceSub, List.reduceReplicate, Nat.reduceMul, Int.reduceToNat, Int.toNat_natCast, Nat.reducePow, reduceIte, Option.getD_some, Bool.or_true, Bool.or_false, Bool.and_true, Bool.and_false, Nat.zero_add, pos_nil, yF, Option.map_some, Option.map_none, lookH_true, lookH_false, List.append_eq]
 refine hatv cl26 (nstamp_H p) (.cons (.v _) (.cons (.v _) .nil)) ?_
 with_reducible refine hstop ?_; simp (maxSteps := 2000000) (disch := omega) only [push_cast, ↓Int.cast_ofNat_Int, Nat.reduceBEq, Nat.reduceAdd, Nat.reduceLT, Nat.reduceEqDiff, reduceIte, reduceCtorEq, Nat.reduceLeDiff, Nat.reduceSub, List.reduceReplicate, Nat.reduceMul, Int.reduceToNat, Int.toNat_natCast, Nat.reducePow, reduceIte]
 refine hK1 _ ?_; (try clear hK1 K1)
 refine HVM_keep [0, 1, 5, 6, 7, 104] [] (by simp only [zZ, zR, zP, zQ, zN, zS, zM, zX, zU, Nat.reduceEqDiff, reduceIte]; exact rfl) ?_
 refine HVM_eng 6 (fun K1 hK1 => ?_); simp (maxSteps := 2000000) (disch := omega) only [push_cast, ↓Int.cast_ofNat_Int, Nat.reduceBEq, Nat.reduceAdd, Nat.reduceLT, Nat.reduceEqDiff, reduceIte, reduceCtorEq, Nat.reduceLeDiff, Nat.reduceSub, List.reduceReplicate, Nat.reduceMul, Int.reduceToNat, Int.toNat_natCast, Nat.reducePow, reduceIte, Option.getD_some, Bool.or_true, Bool.or_false, Bool.and_true, Bool.and_false, Nat.zero_add, pos_nil, yF, Option.map_some, Option.map_none, lookH_true, lookH_false, List.append_eq]
 refine hatv cl14 (nused_H p) (.cons (.v _) (.cons (.v _) .nil)) ?_
 with_reducible refine hstop ?_; simp (maxSteps := 2000000) (disch := omega) only [push_cast, ↓Int.cast_ofNat_Int, Nat.reduceBEq, Nat.reduceAdd, Nat.reduceLT, Nat.reduceEqDiff, reduceIte, reduceCtorEq, Nat.reduceLeDiff, Nat.reduceSub, List.reduceReplicate, Nat.reduceMul, Int.reduceToNat, Int.toNat_natCast, Nat.reducePow, reduceIte]
 refine hK1 _ ?_; (try clear hK1 K1)
 refine HVM_keep [0, 1, 5, 6, 7, 110] [] (by simp only [zZ, zR, zP, zQ, zN, zS, zM, zX, zU, Nat.reduceEqDiff, reduceIte]; exact rfl) ?_
 refine HVM_eng 5 (fun K1 hK1 => ?_); simp (maxSteps := 2000000) (disch := omega) only [push_cast, ↓Int.cast_ofNat_Int, Nat.reduceBEq, Nat.reduceAdd, Nat.reduceLT, Nat.reduceEqDiff, reduceIte, reduceCtorEq, Nat.reduceLeDiff, Nat.reduceSub, List.reduceReplicate, Nat.reduceMul, Int.reduceToNat, Int.toNat_natCast, Nat.reducePow, reduceIte, Option.getD_some, Bool.or_true, Bool.or_false, Bool.and_true, Bool.and_false, Nat.zero_add, pos_nil, yF, Option.map_some, Option.map_none, lookH_true, lookH_false, List.append_eq]
 refine hatv cl21 (nsteps_H) (.cons (.v _) .nil) ?_
 with_reducible refine hstop ?_; simp (maxSteps := 2000000) (disch := omega) only [push_cast, ↓Int.cast_ofNat_Int, Nat.reduceBEq, Nat.reduceAdd, Nat.reduceLT, Nat.reduceEqDiff, reduceIte, reduceCtorEq, Nat.reduceLeDiff, Nat.reduceSub, List.reduceReplicate, Nat.reduceMul, Int.reduceToNat, Int.toNat_natCast, Nat.reducePow, reduceIte]
 refine hK1 _ ?_; (try clear hK1 K1)
 refine HVM_keep [0, 1, 5, 6, 7, 115] [] (by simp only [zZ, zR, zP, zQ, zN, zS, zM, zX, zU, Nat.reduceEqDiff, reduceIte]; exact rfl) ?_
 refine HVM_eng 5 (fun K1 hK1 => ?_); simp (maxSteps := 2000000) (disch := omega) only [push_cast, ↓Int.cast_ofNat_Int, Nat.reduceBEq, Nat.reduceAdd, Nat.reduceLT, Nat.reduceEqDiff, reduceIte, reduceCtorEq, Nat.reduceLeDiff, Nat.reduceSub, List.reduceReplicate, Nat.reduceMul, Int.reduceToNat, Int.toNat_natCast, Nat.reducePow, reduceIte, Option.getD_some, Bool.or_true, Bool.or_false, Bool.and_true, Bool.and_false, Nat.zero_add, pos_nil, yF, Option.map_some, Option.map_none, lookH_true, lookH_false, List.append_eq]
 refine hatv cl20 (ndown_H) (.cons (.v _) .nil) ?_
 with_reducible refine hstop ?_; simp (maxSteps := 2000000) (disch := omega) only [push_cast, ↓Int.cast_ofNat_Int, Nat.reduceBEq, Nat.reduceAdd, Nat.reduceLT, Nat.reduceEqDiff, reduceIte, reduceCtorEq, Nat.reduceLeDiff, Nat.reduceSub, List.reduceReplicate, Nat.reduceMul, Int.reduceToNat, Int.toNat_natCast, Nat.reducePow, reduceIte]
 refine hK1 _ ?_; (try clear hK1 K1)
 refine HVM_nil ?_
 (repeat first | refine msQ_ret ?_ | refine msQ_exit ?_ | refine mbQ_exit ?_ | refine mbQ_other rfl ?_ | refine mbQ_ret ?_ | refine mbQ_normal ?_ | refine HWM_seq ?_ | refine msQ_normal ?_ | refine HWM_skip ?_ | refine HWM_exit ?_ | refine HWM_ret ?_)
 simp only [yA, yM, yH, yE, resH_cell, resC_go, yK, yJ, zS, zM, Nat.reduceEqDiff, reduceIte, reduceCtorEq]
 exact hres_v rfl
theorem diskNil_U (p : ByteArray) (k : Int) (hu : fw (.v (.string p)) + (fw (.v (.int .i64 k)) + 0) ≤ 1048576) : HFun Tryd.prog 7 [.v (.string p), .v (.int .i64 k)] (fun h st => h = .v (.bool true)) := diskNil_H p k
end Go.Proofs.YtojolcpblacjjaaDoor
