/-
  wire.put: the bytes of a number.
-/
import Derived.Test.YtppnicpbncfhnaaBls
import Derived.Test.YtppnicpbncfhnaaRefW
import Derived.Test.YtppnicpbncfhnaaPutW
set_option linter.unusedSimpArgs false
set_option linter.unusedVariables false
set_option maxRecDepth 20000
namespace Go.Proofs.Ytppnicpbncfhnaa
open Go Go.Eng Go.RowKit


def numE (l : List Int) : List (List FV) := l.map fun n => [.v (.int .u8 n)]
theorem numE_len (l : List Int) : (numE l).length = l.length := by simp [numE]
theorem byteE_nums {l : List Int} (h : ∀ n ∈ l, 0 ≤ n ∧ n < 256) : byteE (strOfNums l) = numE l := by
  unfold byteE numE strOfNums
  simp only [List.map_map]
  apply List.map_congr_left
  intro n hn
  obtain ⟨h1, h2⟩ := h n hn
  simp
  omega
theorem vnums_byte (x : Nat) : ∀ n ∈ vnums x, 0 ≤ n ∧ n < 256 := by
  induction x using Nat.strongRecOn with
  | _ x ih =>
  intro n hn
  by_cases h : x < 128
  · rw [vnums_lt h] at hn; simp at hn; omega
  · rw [vnums_ge h] at hn
    simp only [List.mem_cons] at hn
    rcases hn with rfl | hn
    · omega
    · exact ih (x / 128) (by omega) n hn
theorem or128 (y : Nat) : bits .or .u8 (IntKind.u8.wrap y) 128 = ((128 + y % 128 : Nat) : Int) := by
  have key : ∀ z : Fin 256, bits .or .u8 (z.val : Int) 128 = ((128 + z.val % 128 : Nat) : Int) := by decide +kernel
  have e : IntKind.u8.wrap y = ((y % 256 : Nat) : Int) := by rw [IntKind.wrap_u8]; omega
  have := key ⟨y % 256, by omega⟩
  rw [e, this]
  simp only [Nat.mod_mod_of_dvd y (show 128 ∣ 256 by decide)]
theorem shr7 (y : Nat) : (y : Int).fdiv (2 ^ min 7 IntKind.u64.bits) = ((y / 128 : Nat) : Int) := by
  rw [show min 7 IntKind.u64.bits = 7 from rfl]
  rw [Int.fdiv_eq_ediv_of_nonneg _ (by decide)]; omega
theorem numE_snoc (l : List Int) (n : Int) : numE l ++ [[.v (.int .u8 n)]] = numE (l ++ [n]) := by simp [numE]
structure PutI where
  x : Nat
  done : List Int
  c0 : HV
def putE (i : PutI) : HS := ⟨[(0, .v (.int .u64 i.x)), (3, .ptr 24 2 0 0)], [(24, .bx true 100 [i.c0, .own 9000]), (9000, .sl true 5 1 (numE i.done))]⟩
set_option maxHeartbeats 2000000 in
theorem put_H (x : Nat) (hx : x ≤ 18446744073709551615) : HFun Try.prog 55 [.v (.int .u64 x)] (fun h st => h = .v (.string (vstr x))) := by
  refine hfun (N := 16) Try.func55 rfl Try.ntmps55 Try.results55 (by simp) ?_
  (repeat first | refine HW_seq ?_ | refine hseqQ_normal ?_ | refine HW_skip ?_ | refine hblkQ_normal ?_ | refine HW_block ?_); refine HW_reg (fun K hK => ?_); simp (maxSteps := 2000000) (disch := omega) only [push_cast, ↓Int.cast_ofNat_Int, Nat.reduceBEq, Nat.reduceAdd, Nat.reduceLT, Nat.reduceEqDiff, reduceIte, reduceCtorEq, Nat.reduceLeDiff, Nat.reduceSub, List.reduceReplicate, Nat.reduceMul, Int.reduceToNat, Int.toNat_natCast, Nat.reducePow, reduceIte]; refine hK _ ?_; clear hK K
  (repeat first | refine HW_seq ?_ | refine hseqQ_normal ?_ | refine HW_skip ?_ | refine hblkQ_normal ?_ | refine HW_block ?_); refine HW_reg (fun K hK => ?_); simp (maxSteps := 2000000) (disch := omega) only [push_cast, ↓Int.cast_ofNat_Int, Nat.reduceBEq, Nat.reduceAdd, Nat.reduceLT, Nat.reduceEqDiff, reduceIte, reduceCtorEq, Nat.reduceLeDiff, Nat.reduceSub, List.reduceReplicate, Nat.reduceMul, Int.reduceToNat, Int.toNat_natCast, Nat.reducePow, reduceIte]; refine hK _ ?_; clear hK K
  (repeat first | refine HW_seq ?_ | refine hseqQ_normal ?_ | refine HW_skip ?_ | refine hblkQ_normal ?_ | refine HW_block ?_)
  refine HW_ownB 24 1 9000 5 1 (by decide) rfl rfl (by simp only [push_cast, List.map_cons, List.map_nil, List.set_cons_succ, List.set_cons_zero, Nat.reduceEqDiff, reduceIte, Nat.reduceBEq, cond_false, cond_true]; exact rfl) ?_
  (repeat first | refine HW_seq ?_ | refine hseqQ_normal ?_ | refine HW_skip ?_ | refine hblkQ_normal ?_ | refine HW_block ?_)
  refine HW_loop putE (fun i => i.x ≤ 18446744073709551615 ∧ vnums x = i.done ++ vnums i.x ∧ (i.c0 = .v (.pointer none) ∨ i.c0 = .ptr 24 2 0 0)) (fun i => i.x) [0, 3] [24, 9000] ⟨x, [], .v (.pointer none)⟩ (by simp only [keep_eq, hkeep_nil, hkeep_cons, rkeep_nil, rkeep_cons, hlk_nil, hlk_cons, rlk_nil, rlk_cons, Nat.reduceEqDiff, reduceIte]; exact rfl) ⟨hx, by simp, .inl rfl⟩ ?_
  rintro ⟨y, done, c0⟩ ⟨hy, hv, hc0⟩
  simp only [putE] at hy hv hc0 ⊢
  by_cases h : y < 128
  · (repeat first | refine HW_seq ?_ | refine hseqQ_normal ?_ | refine HW_skip ?_ | refine hblkQ_normal ?_ | refine HW_block ?_); refine HW_reg (fun K hK => ?_); simp (maxSteps := 2000000) (disch := omega) only [push_cast, ↓Int.cast_ofNat_Int, Nat.reduceBEq, Nat.reduceAdd, Nat.reduceLT, Nat.reduceEqDiff, reduceIte, reduceCtorEq, Nat.reduceLeDiff, Nat.reduceSub, List.reduceReplicate, Nat.reduceMul, Int.reduceToNat, Int.toNat_natCast, Nat.reducePow, reduceIte]; refine hK _ ?_; clear hK K
    refine HW_false rfl ?_
    (repeat first | refine hseqQ_ret ?_ | refine hseqQ_exit ?_ | refine hblkQ_exit ?_ | refine hblkQ_other rfl ?_ | refine hblkQ_ret ?_ | refine hblkQ_normal ?_ | refine HW_seq ?_ | refine hseqQ_normal ?_ | refine HW_skip ?_ | refine HW_exit ?_ | refine HW_ret ?_)
    have hl : done.length + 1 ≤ 10 := by
      have := vnums_ten hx
      rw [hv, List.length_append, vnums_lt h] at this
      simpa using this
    have e0 : vstr x = strOfNums (done ++ [(y : Int)]) := by rw [vstr, hv, vnums_lt h]
    have hb : ∀ n ∈ done ++ [(y : Int)], 0 ≤ n ∧ n < 256 := by rw [← vnums_lt h, ← hv]; exact vnums_byte x
    rcases hc0 with rfl | rfl
    · (repeat first | refine HW_seq ?_ | refine hseqQ_normal ?_ | refine HW_skip ?_ | refine hblkQ_normal ?_ | refine HW_block ?_); refine HW_reg (fun K hK => ?_); simp (maxSteps := 2000000) (disch := omega) only [push_cast, ↓Int.cast_ofNat_Int, Nat.reduceBEq, Nat.reduceAdd, Nat.reduceLT, Nat.reduceEqDiff, reduceIte, reduceCtorEq, Nat.reduceLeDiff, Nat.reduceSub, List.reduceReplicate, Nat.reduceMul, Int.reduceToNat, Int.toNat_natCast, Nat.reducePow, reduceIte, wru8]
      refine hatS 112 [24, 9000] cl70 (wb_H (.v (.pointer none)) (.inl rfl) true (numE done) y (by rw [numE_len]; omega)) rfl (by decide) (by decide) (by simp only [push_cast, pos_nil, pos_cons, Option.getD_some, Bool.or_true, Bool.or_false, Bool.and_true, Bool.and_false, Option.map_some, Option.map_none, Nat.zero_add, Nat.reduceBEq, Nat.reduceAdd, Nat.reduceLT, Nat.reduceEqDiff, reduceIte, reduceCtorEq, Nat.reduceLeDiff, Nat.reduceSub, List.reduceReplicate, Nat.reduceMul, Int.reduceToNat, Int.toNat_natCast, Nat.reducePow, reduceIte]; try rfl) (by simp only [push_cast, pos_nil, pos_cons, Option.getD_some, Bool.or_true, Bool.or_false, Bool.and_true, Bool.and_false, Option.map_some, Option.map_none, Nat.zero_add, Nat.reduceBEq, Nat.reduceAdd, Nat.reduceLT, Nat.reduceEqDiff, reduceIte, reduceCtorEq, Nat.reduceLeDiff, Nat.reduceSub, List.reduceReplicate, Nat.reduceMul, Int.reduceToNat, Int.toNat_natCast, Nat.reducePow, reduceIte]; try rfl) ?_
      rintro _ _ ⟨rfl, rfl⟩
      refine hstop ?_; simp (maxSteps := 2000000) (disch := omega) only [push_cast, ↓Int.cast_ofNat_Int, Nat.reduceBEq, Nat.reduceAdd, Nat.reduceLT, Nat.reduceEqDiff, reduceIte, reduceCtorEq, Nat.reduceLeDiff, Nat.reduceSub, List.reduceReplicate, Nat.reduceMul, Int.reduceToNat, Int.toNat_natCast, Nat.reducePow, reduceIte, bldS, Option.getD_some, Bool.or_true, Bool.or_false, Bool.and_true, Bool.and_false, Nat.zero_add, pos_nil, pos_cons, Option.map_some, Option.map_none]
      refine hK _ ?_; clear hK K
      (repeat first | refine HW_seq ?_ | refine hseqQ_normal ?_ | refine HW_skip ?_ | refine hblkQ_normal ?_ | refine HW_block ?_); refine HW_reg (fun K hK => ?_); simp (maxSteps := 2000000) (disch := omega) only [push_cast, ↓Int.cast_ofNat_Int, Nat.reduceBEq, Nat.reduceAdd, Nat.reduceLT, Nat.reduceEqDiff, reduceIte, reduceCtorEq, Nat.reduceLeDiff, Nat.reduceSub, List.reduceReplicate, Nat.reduceMul, Int.reduceToNat, Int.toNat_natCast, Nat.reducePow, reduceIte]
      refine hatS 120 [24, 9000] cl68 (str_H _ (.inr rfl) true (numE done ++ [[.v (.int .u8 y)]]) (vstr x) (by rw [e0, byteE_nums hb]; simp [numE])) rfl (by decide) (by decide) (by simp only [push_cast, pos_nil, pos_cons, Option.getD_some, Bool.or_true, Bool.or_false, Bool.and_true, Bool.and_false, Option.map_some, Option.map_none, Nat.zero_add, Nat.reduceBEq, Nat.reduceAdd, Nat.reduceLT, Nat.reduceEqDiff, reduceIte, reduceCtorEq, Nat.reduceLeDiff, Nat.reduceSub, List.reduceReplicate, Nat.reduceMul, Int.reduceToNat, Int.toNat_natCast, Nat.reducePow, reduceIte]; try rfl) (by simp only [push_cast, pos_nil, pos_cons, Option.getD_some, Bool.or_true, Bool.or_false, Bool.and_true, Bool.and_false, Option.map_some, Option.map_none, Nat.zero_add, Nat.reduceBEq, Nat.reduceAdd, Nat.reduceLT, Nat.reduceEqDiff, reduceIte, reduceCtorEq, Nat.reduceLeDiff, Nat.reduceSub, List.reduceReplicate, Nat.reduceMul, Int.reduceToNat, Int.toNat_natCast, Nat.reducePow, reduceIte]; try rfl) ?_
      rintro _ _ ⟨rfl, rfl⟩
      refine hstop ?_; simp (maxSteps := 2000000) (disch := omega) only [push_cast, ↓Int.cast_ofNat_Int, Nat.reduceBEq, Nat.reduceAdd, Nat.reduceLT, Nat.reduceEqDiff, reduceIte, reduceCtorEq, Nat.reduceLeDiff, Nat.reduceSub, List.reduceReplicate, Nat.reduceMul, Int.reduceToNat, Int.toNat_natCast, Nat.reducePow, reduceIte, Option.getD_some, Bool.or_true, Bool.or_false, Bool.and_true, Bool.and_false, Nat.zero_add, pos_nil, pos_cons, Option.map_some, Option.map_none]
      refine hK _ ?_; clear hK K
      (repeat first | refine hseqQ_ret ?_ | refine hseqQ_exit ?_ | refine hblkQ_exit ?_ | refine hblkQ_other rfl ?_ | refine hblkQ_ret ?_ | refine hblkQ_normal ?_ | refine HW_seq ?_ | refine hseqQ_normal ?_ | refine HW_skip ?_ | refine HW_exit ?_ | refine HW_ret ?_)
      simp only [hfunQ_normal, hfunQ_ret, resH_nil, resH_cons, resH_cell, resC_go, htup_one, htup_two, hlk_nil, hlk_cons, Nat.reduceEqDiff, reduceIte, reduceCtorEq]
      exact hres_v rfl
    · (repeat first | refine HW_seq ?_ | refine hseqQ_normal ?_ | refine HW_skip ?_ | refine hblkQ_normal ?_ | refine HW_block ?_); refine HW_reg (fun K hK => ?_); simp (maxSteps := 2000000) (disch := omega) only [push_cast, ↓Int.cast_ofNat_Int, Nat.reduceBEq, Nat.reduceAdd, Nat.reduceLT, Nat.reduceEqDiff, reduceIte, reduceCtorEq, Nat.reduceLeDiff, Nat.reduceSub, List.reduceReplicate, Nat.reduceMul, Int.reduceToNat, Int.toNat_natCast, Nat.reducePow, reduceIte, wru8]
      refine hatS 112 [24, 9000] cl70 (wb_H (.ptr 0 2 0 0) (.inr rfl) true (numE done) y (by rw [numE_len]; omega)) rfl (by decide) (by decide) (by simp only [push_cast, pos_nil, pos_cons, Option.getD_some, Bool.or_true, Bool.or_false, Bool.and_true, Bool.and_false, Option.map_some, Option.map_none, Nat.zero_add, Nat.reduceBEq, Nat.reduceAdd, Nat.reduceLT, Nat.reduceEqDiff, reduceIte, reduceCtorEq, Nat.reduceLeDiff, Nat.reduceSub, List.reduceReplicate, Nat.reduceMul, Int.reduceToNat, Int.toNat_natCast, Nat.reducePow, reduceIte]; try rfl) (by simp only [push_cast, pos_nil, pos_cons, Option.getD_some, Bool.or_true, Bool.or_false, Bool.and_true, Bool.and_false, Option.map_some, Option.map_none, Nat.zero_add, Nat.reduceBEq, Nat.reduceAdd, Nat.reduceLT, Nat.reduceEqDiff, reduceIte, reduceCtorEq, Nat.reduceLeDiff, Nat.reduceSub, List.reduceReplicate, Nat.reduceMul, Int.reduceToNat, Int.toNat_natCast, Nat.reducePow, reduceIte]; try rfl) ?_
      rintro _ _ ⟨rfl, rfl⟩
      refine hstop ?_; simp (maxSteps := 2000000) (disch := omega) only [push_cast, ↓Int.cast_ofNat_Int, Nat.reduceBEq, Nat.reduceAdd, Nat.reduceLT, Nat.reduceEqDiff, reduceIte, reduceCtorEq, Nat.reduceLeDiff, Nat.reduceSub, List.reduceReplicate, Nat.reduceMul, Int.reduceToNat, Int.toNat_natCast, Nat.reducePow, reduceIte, bldS, Option.getD_some, Bool.or_true, Bool.or_false, Bool.and_true, Bool.and_false, Nat.zero_add, pos_nil, pos_cons, Option.map_some, Option.map_none]
      refine hK _ ?_; clear hK K
      (repeat first | refine HW_seq ?_ | refine hseqQ_normal ?_ | refine HW_skip ?_ | refine hblkQ_normal ?_ | refine HW_block ?_); refine HW_reg (fun K hK => ?_); simp (maxSteps := 2000000) (disch := omega) only [push_cast, ↓Int.cast_ofNat_Int, Nat.reduceBEq, Nat.reduceAdd, Nat.reduceLT, Nat.reduceEqDiff, reduceIte, reduceCtorEq, Nat.reduceLeDiff, Nat.reduceSub, List.reduceReplicate, Nat.reduceMul, Int.reduceToNat, Int.toNat_natCast, Nat.reducePow, reduceIte]
      refine hatS 120 [24, 9000] cl68 (str_H _ (.inr rfl) true (numE done ++ [[.v (.int .u8 y)]]) (vstr x) (by rw [e0, byteE_nums hb]; simp [numE])) rfl (by decide) (by decide) (by simp only [push_cast, pos_nil, pos_cons, Option.getD_some, Bool.or_true, Bool.or_false, Bool.and_true, Bool.and_false, Option.map_some, Option.map_none, Nat.zero_add, Nat.reduceBEq, Nat.reduceAdd, Nat.reduceLT, Nat.reduceEqDiff, reduceIte, reduceCtorEq, Nat.reduceLeDiff, Nat.reduceSub, List.reduceReplicate, Nat.reduceMul, Int.reduceToNat, Int.toNat_natCast, Nat.reducePow, reduceIte]; try rfl) (by simp only [push_cast, pos_nil, pos_cons, Option.getD_some, Bool.or_true, Bool.or_false, Bool.and_true, Bool.and_false, Option.map_some, Option.map_none, Nat.zero_add, Nat.reduceBEq, Nat.reduceAdd, Nat.reduceLT, Nat.reduceEqDiff, reduceIte, reduceCtorEq, Nat.reduceLeDiff, Nat.reduceSub, List.reduceReplicate, Nat.reduceMul, Int.reduceToNat, Int.toNat_natCast, Nat.reducePow, reduceIte]; try rfl) ?_
      rintro _ _ ⟨rfl, rfl⟩
      refine hstop ?_; simp (maxSteps := 2000000) (disch := omega) only [push_cast, ↓Int.cast_ofNat_Int, Nat.reduceBEq, Nat.reduceAdd, Nat.reduceLT, Nat.reduceEqDiff, reduceIte, reduceCtorEq, Nat.reduceLeDiff, Nat.reduceSub, List.reduceReplicate, Nat.reduceMul, Int.reduceToNat, Int.toNat_natCast, Nat.reducePow, reduceIte, Option.getD_some, Bool.or_true, Bool.or_false, Bool.and_true, Bool.and_false, Nat.zero_add, pos_nil, pos_cons, Option.map_some, Option.map_none]
      refine hK _ ?_; clear hK K
      (repeat first | refine hseqQ_ret ?_ | refine hseqQ_exit ?_ | refine hblkQ_exit ?_ | refine hblkQ_other rfl ?_ | refine hblkQ_ret ?_ | refine hblkQ_normal ?_ | refine HW_seq ?_ | refine hseqQ_normal ?_ | refine HW_skip ?_ | refine HW_exit ?_ | refine HW_ret ?_)
      simp only [hfunQ_normal, hfunQ_ret, resH_nil, resH_cons, resH_cell, resC_go, htup_one, htup_two, hlk_nil, hlk_cons, Nat.reduceEqDiff, reduceIte, reduceCtorEq]
      exact hres_v rfl
  · obtain ⟨q, hq⟩ : ∃ q, q = y / 128 := ⟨_, rfl⟩
    obtain ⟨m, hm⟩ : ∃ m, m = 128 + y % 128 := ⟨_, rfl⟩
    have e1 := or128 y
    rw [← hm] at e1
    have e2 := shr7 y
    rw [← hq] at e2
    (repeat first | refine HW_seq ?_ | refine hseqQ_normal ?_ | refine HW_skip ?_ | refine hblkQ_normal ?_ | refine HW_block ?_); refine HW_reg (fun K hK => ?_); simp (maxSteps := 2000000) (disch := omega) only [push_cast, ↓Int.cast_ofNat_Int, Nat.reduceBEq, Nat.reduceAdd, Nat.reduceLT, Nat.reduceEqDiff, reduceIte, reduceCtorEq, Nat.reduceLeDiff, Nat.reduceSub, List.reduceReplicate, Nat.reduceMul, Int.reduceToNat, Int.toNat_natCast, Nat.reducePow, reduceIte]; refine hK _ ?_; clear hK K
    refine HW_true rfl ?_
    have hl : done.length + 1 ≤ 10 := by
      have := vnums_ten hx
      rw [hv, List.length_append, vnums_ge h] at this
      simp only [List.length_cons] at this
      omega
    rcases hc0 with rfl | rfl
    · (repeat first | refine HW_seq ?_ | refine hseqQ_normal ?_ | refine HW_skip ?_ | refine hblkQ_normal ?_ | refine HW_block ?_); refine HW_reg (fun K hK => ?_); simp (maxSteps := 2000000) (disch := omega) only [push_cast, ↓Int.cast_ofNat_Int, Nat.reduceBEq, Nat.reduceAdd, Nat.reduceLT, Nat.reduceEqDiff, reduceIte, reduceCtorEq, Nat.reduceLeDiff, Nat.reduceSub, List.reduceReplicate, Nat.reduceMul, Int.reduceToNat, Int.toNat_natCast, Nat.reducePow, reduceIte, e1]
      refine hatS 72 [24, 9000] cl70 (wb_H (.v (.pointer none)) (.inl rfl) true (numE done) (m : Int) (by rw [numE_len]; omega)) rfl (by decide) (by decide) (by simp only [push_cast, pos_nil, pos_cons, Option.getD_some, Bool.or_true, Bool.or_false, Bool.and_true, Bool.and_false, Option.map_some, Option.map_none, Nat.zero_add, Nat.reduceBEq, Nat.reduceAdd, Nat.reduceLT, Nat.reduceEqDiff, reduceIte, reduceCtorEq, Nat.reduceLeDiff, Nat.reduceSub, List.reduceReplicate, Nat.reduceMul, Int.reduceToNat, Int.toNat_natCast, Nat.reducePow, reduceIte]; try rfl) (by simp only [push_cast, pos_nil, pos_cons, Option.getD_some, Bool.or_true, Bool.or_false, Bool.and_true, Bool.and_false, Option.map_some, Option.map_none, Nat.zero_add, Nat.reduceBEq, Nat.reduceAdd, Nat.reduceLT, Nat.reduceEqDiff, reduceIte, reduceCtorEq, Nat.reduceLeDiff, Nat.reduceSub, List.reduceReplicate, Nat.reduceMul, Int.reduceToNat, Int.toNat_natCast, Nat.reducePow, reduceIte]; try rfl) ?_
      rintro _ _ ⟨rfl, rfl⟩
      refine hstop ?_; simp (maxSteps := 2000000) (disch := omega) only [push_cast, ↓Int.cast_ofNat_Int, Nat.reduceBEq, Nat.reduceAdd, Nat.reduceLT, Nat.reduceEqDiff, reduceIte, reduceCtorEq, Nat.reduceLeDiff, Nat.reduceSub, List.reduceReplicate, Nat.reduceMul, Int.reduceToNat, Int.toNat_natCast, Nat.reducePow, reduceIte, bldS, Option.getD_some, Bool.or_true, Bool.or_false, Bool.and_true, Bool.and_false, Nat.zero_add, pos_nil, pos_cons, Option.map_some, Option.map_none]
      refine hK _ ?_; clear hK K
      (repeat first | refine HW_seq ?_ | refine hseqQ_normal ?_ | refine HW_skip ?_ | refine hblkQ_normal ?_ | refine HW_block ?_); refine HW_reg (fun K hK => ?_); simp (maxSteps := 2000000) (disch := omega) only [push_cast, ↓Int.cast_ofNat_Int, Nat.reduceBEq, Nat.reduceAdd, Nat.reduceLT, Nat.reduceEqDiff, reduceIte, reduceCtorEq, Nat.reduceLeDiff, Nat.reduceSub, List.reduceReplicate, Nat.reduceMul, Int.reduceToNat, Int.toNat_natCast, Nat.reducePow, reduceIte, e2]
      refine ⟨by decide, ?_⟩
      refine hK _ ?_; clear hK K
      (repeat first | refine hseqQ_ret ?_ | refine hseqQ_exit ?_ | refine hblkQ_exit ?_ | refine hblkQ_other rfl ?_ | refine hblkQ_ret ?_ | refine hblkQ_normal ?_ | refine HW_seq ?_ | refine hseqQ_normal ?_ | refine HW_skip ?_ | refine HW_exit ?_ | refine HW_ret ?_)
      refine ⟨⟨q, done ++ [(m : Int)], .ptr 24 2 0 0⟩, ?_, ⟨?_, ?_, ?_⟩, ?_⟩
      · simp only [keep_eq, hkeep_nil, hkeep_cons, rkeep_nil, rkeep_cons, hlk_nil, hlk_cons, rlk_nil, rlk_cons, Nat.reduceEqDiff, reduceIte, numE_snoc]
      · show q ≤ _; omega
      · show vnums x = (done ++ [(m : Int)]) ++ vnums q
        rw [hv, vnums_ge h, ← hm, ← hq]; simp
      · exact .inr rfl
      · show q < y; omega
    · (repeat first | refine HW_seq ?_ | refine hseqQ_normal ?_ | refine HW_skip ?_ | refine hblkQ_normal ?_ | refine HW_block ?_); refine HW_reg (fun K hK => ?_); simp (maxSteps := 2000000) (disch := omega) only [push_cast, ↓Int.cast_ofNat_Int, Nat.reduceBEq, Nat.reduceAdd, Nat.reduceLT, Nat.reduceEqDiff, reduceIte, reduceCtorEq, Nat.reduceLeDiff, Nat.reduceSub, List.reduceReplicate, Nat.reduceMul, Int.reduceToNat, Int.toNat_natCast, Nat.reducePow, reduceIte, e1]
      refine hatS 72 [24, 9000] cl70 (wb_H (.ptr 0 2 0 0) (.inr rfl) true (numE done) (m : Int) (by rw [numE_len]; omega)) rfl (by decide) (by decide) (by simp only [push_cast, pos_nil, pos_cons, Option.getD_some, Bool.or_true, Bool.or_false, Bool.and_true, Bool.and_false, Option.map_some, Option.map_none, Nat.zero_add, Nat.reduceBEq, Nat.reduceAdd, Nat.reduceLT, Nat.reduceEqDiff, reduceIte, reduceCtorEq, Nat.reduceLeDiff, Nat.reduceSub, List.reduceReplicate, Nat.reduceMul, Int.reduceToNat, Int.toNat_natCast, Nat.reducePow, reduceIte]; try rfl) (by simp only [push_cast, pos_nil, pos_cons, Option.getD_some, Bool.or_true, Bool.or_false, Bool.and_true, Bool.and_false, Option.map_some, Option.map_none, Nat.zero_add, Nat.reduceBEq, Nat.reduceAdd, Nat.reduceLT, Nat.reduceEqDiff, reduceIte, reduceCtorEq, Nat.reduceLeDiff, Nat.reduceSub, List.reduceReplicate, Nat.reduceMul, Int.reduceToNat, Int.toNat_natCast, Nat.reducePow, reduceIte]; try rfl) ?_
      rintro _ _ ⟨rfl, rfl⟩
      refine hstop ?_; simp (maxSteps := 2000000) (disch := omega) only [push_cast, ↓Int.cast_ofNat_Int, Nat.reduceBEq, Nat.reduceAdd, Nat.reduceLT, Nat.reduceEqDiff, reduceIte, reduceCtorEq, Nat.reduceLeDiff, Nat.reduceSub, List.reduceReplicate, Nat.reduceMul, Int.reduceToNat, Int.toNat_natCast, Nat.reducePow, reduceIte, bldS, Option.getD_some, Bool.or_true, Bool.or_false, Bool.and_true, Bool.and_false, Nat.zero_add, pos_nil, pos_cons, Option.map_some, Option.map_none]
      refine hK _ ?_; clear hK K
      (repeat first | refine HW_seq ?_ | refine hseqQ_normal ?_ | refine HW_skip ?_ | refine hblkQ_normal ?_ | refine HW_block ?_); refine HW_reg (fun K hK => ?_); simp (maxSteps := 2000000) (disch := omega) only [push_cast, ↓Int.cast_ofNat_Int, Nat.reduceBEq, Nat.reduceAdd, Nat.reduceLT, Nat.reduceEqDiff, reduceIte, reduceCtorEq, Nat.reduceLeDiff, Nat.reduceSub, List.reduceReplicate, Nat.reduceMul, Int.reduceToNat, Int.toNat_natCast, Nat.reducePow, reduceIte, e2]
      refine ⟨by decide, ?_⟩
      refine hK _ ?_; clear hK K
      (repeat first | refine hseqQ_ret ?_ | refine hseqQ_exit ?_ | refine hblkQ_exit ?_ | refine hblkQ_other rfl ?_ | refine hblkQ_ret ?_ | refine hblkQ_normal ?_ | refine HW_seq ?_ | refine hseqQ_normal ?_ | refine HW_skip ?_ | refine HW_exit ?_ | refine HW_ret ?_)
      refine ⟨⟨q, done ++ [(m : Int)], .ptr 24 2 0 0⟩, ?_, ⟨?_, ?_, ?_⟩, ?_⟩
      · simp only [keep_eq, hkeep_nil, hkeep_cons, rkeep_nil, rkeep_cons, hlk_nil, hlk_cons, rlk_nil, rlk_cons, Nat.reduceEqDiff, reduceIte, numE_snoc]
      · show q ≤ _; omega
      · show vnums x = (done ++ [(m : Int)]) ++ vnums q
        rw [hv, vnums_ge h, ← hm, ← hq]; simp
      · exact .inr rfl
      · show q < y; omega
theorem putOk : PutOk := fun x hx => put_H x hx
end Go.Proofs.Ytppnicpbncfhnaa
