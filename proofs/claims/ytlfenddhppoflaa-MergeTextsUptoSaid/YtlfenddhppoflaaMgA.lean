/- What the walk of the law stands on. -/
import Derived.Test.YtlfenddhppoflaaKept
import Derived.Test.YtlfenddhppoflaaOne
set_option linter.unusedSimpArgs false
set_option linter.unusedVariables false
set_option maxRecDepth 20000
namespace Go.Proofs.Ytlfenddhppoflaa
open Go Go.Eng Go.RowKit Go.DiffM

theorem msk (n : Nat) (h : n ≤ 100000) : bits .and .u64 (n : Int) 4294967295 = (n : Int) := by
 have e := bits_and_u64_nat n 4294967295 (by omega) (by omega)
 have e2 : n &&& 4294967295 = n % 4294967296 := Nat.and_two_pow_sub_one_eq_mod n 32
 rw [e2] at e
 rw [show ((4294967295 : Nat) : Int) = 4294967295 from rfl] at e
 rw [e]; omega
theorem mskS : bits .and .u64 1 4294967295 = 1 := by have := msk 1 (by omega); simpa using this
theorem mskZ : bits .and .u64 0 4294967295 = 0 := by have := msk 0 (by omega); simpa using this
theorem sh32 (n : Nat) (h : n ≤ 100000) : (n : Int).fdiv (2 ^ (min 32 (IntKind.bits .u64))) = 0 := by
 have : (2 : Int) ^ (min 32 (IntKind.bits .u64)) = 4294967296 := by decide
 rw [this, Int.fdiv_eq_ediv_of_nonneg _ (by omega)]; omega
theorem wu (n : Nat) (h : n ≤ 100000) : IntKind.u64.wrap (n : Int) = (n : Int) := by rw [IntKind.wrap_u64]; omega
set_option maxHeartbeats 4000000 in
theorem mul64_H (n : Nat) (h : n ≤ 100000) : HFun Try.prog 93 [.v (.int .u64 1), .v (.int .u64 n)] (fun h st => h = .tup [.v (.int .u64 0), .v (.int .u64 n)]) := by
 refine hfun (N := 51) Try.func93 rfl Try.ntmps93 Try.results93 (by simp) ?_
 have w1 := wu n h
 have w0 : IntKind.u64.wrap 0 = 0 := wu 0 (by omega)
 have m1 := msk n h
 have s1 := sh32 n h
 have s0 : (0 : Int).fdiv (2 ^ (min 32 (IntKind.bits .u64))) = 0 := sh32 0 (by omega)
 have s2 : (1 : Int).fdiv (2 ^ (min 32 (IntKind.bits .u64))) = 0 := sh32 1 (by omega)
 (repeat first | refine qE ?_ | refine qA ?_ | refine qC ?_ | refine qB ?_ | refine qD ?_); refine qJ (fun K hK => ?_); simp (maxSteps := 2000000) (disch := omega) only [push_cast, ↓Int.cast_ofNat_Int, Nat.reduceBEq, Nat.reduceAdd, Nat.reduceLT, Nat.reduceEqDiff, reduceIte, reduceCtorEq, Nat.reduceLeDiff, Nat.reduceSub, List.reduceReplicate, Nat.reduceMul, Int.reduceToNat, Nat.reducePow]; refine hK _ ?_; clear hK K
 (repeat first | refine qE ?_ | refine qA ?_ | refine qC ?_ | refine qB ?_ | refine qD ?_); refine qJ (fun K hK => ?_); simp (maxSteps := 2000000) (disch := omega) only [push_cast, ↓Int.cast_ofNat_Int, Nat.reduceBEq, Nat.reduceAdd, Nat.reduceLT, Nat.reduceEqDiff, reduceIte, reduceCtorEq, Nat.reduceLeDiff, Nat.reduceSub, List.reduceReplicate, Nat.reduceMul, Int.reduceToNat, Nat.reducePow, mskS]; refine hK _ ?_; clear hK K
 (repeat first | refine qE ?_ | refine qA ?_ | refine qC ?_ | refine qB ?_ | refine qD ?_); refine qJ (fun K hK => ?_); simp (maxSteps := 2000000) (disch := omega) only [push_cast, ↓Int.cast_ofNat_Int, Nat.reduceBEq, Nat.reduceAdd, Nat.reduceLT, Nat.reduceEqDiff, reduceIte, reduceCtorEq, Nat.reduceLeDiff, Nat.reduceSub, List.reduceReplicate, Nat.reduceMul, Int.reduceToNat, Nat.reducePow, s2]; (repeat refine ⟨by first | omega | decide | ((repeat' apply And.intro) <;> first | omega | decide), ?_⟩); refine hK _ ?_; clear hK K
 (repeat first | refine qE ?_ | refine qA ?_ | refine qC ?_ | refine qB ?_ | refine qD ?_); refine qJ (fun K hK => ?_); simp (maxSteps := 2000000) (disch := omega) only [push_cast, ↓Int.cast_ofNat_Int, Nat.reduceBEq, Nat.reduceAdd, Nat.reduceLT, Nat.reduceEqDiff, reduceIte, reduceCtorEq, Nat.reduceLeDiff, Nat.reduceSub, List.reduceReplicate, Nat.reduceMul, Int.reduceToNat, Nat.reducePow, m1]; (repeat refine ⟨by first | omega | decide | ((repeat' apply And.intro) <;> first | omega | decide), ?_⟩); refine hK _ ?_; clear hK K
 (repeat first | refine qE ?_ | refine qA ?_ | refine qC ?_ | refine qB ?_ | refine qD ?_); refine qJ (fun K hK => ?_); simp (maxSteps := 2000000) (disch := omega) only [push_cast, ↓Int.cast_ofNat_Int, Nat.reduceBEq, Nat.reduceAdd, Nat.reduceLT, Nat.reduceEqDiff, reduceIte, reduceCtorEq, Nat.reduceLeDiff, Nat.reduceSub, List.reduceReplicate, Nat.reduceMul, Int.reduceToNat, Nat.reducePow, s1]; (repeat refine ⟨by first | omega | decide | ((repeat' apply And.intro) <;> first | omega | decide), ?_⟩); refine hK _ ?_; clear hK K
 (repeat first | refine qE ?_ | refine qA ?_ | refine qC ?_ | refine qB ?_ | refine qD ?_); refine qJ (fun K hK => ?_); simp (maxSteps := 2000000) (disch := omega) only [push_cast, ↓Int.cast_ofNat_Int, Nat.reduceBEq, Nat.reduceAdd, Nat.reduceLT, Nat.reduceEqDiff, reduceIte, reduceCtorEq, Nat.reduceLeDiff, Nat.reduceSub, List.reduceReplicate, Nat.reduceMul, Int.reduceToNat, Nat.reducePow, w1, Int.one_mul]; (repeat refine ⟨by first | omega | decide | ((repeat' apply And.intro) <;> first | omega | decide), ?_⟩); refine hK _ ?_; clear hK K
 (repeat first | refine qE ?_ | refine qA ?_ | refine qC ?_ | refine qB ?_ | refine qD ?_); refine qJ (fun K hK => ?_); simp (maxSteps := 2000000) (disch := omega) only [push_cast, ↓Int.cast_ofNat_Int, Nat.reduceBEq, Nat.reduceAdd, Nat.reduceLT, Nat.reduceEqDiff, reduceIte, reduceCtorEq, Nat.reduceLeDiff, Nat.reduceSub, List.reduceReplicate, Nat.reduceMul, Int.reduceToNat, Nat.reducePow, s1, w0, Int.zero_mul, Int.add_zero]; (repeat refine ⟨by first | omega | decide | ((repeat' apply And.intro) <;> first | omega | decide), ?_⟩); refine hK _ ?_; clear hK K
 (repeat first | refine qE ?_ | refine qA ?_ | refine qC ?_ | refine qB ?_ | refine qD ?_); refine qJ (fun K hK => ?_); simp (maxSteps := 2000000) (disch := omega) only [push_cast, ↓Int.cast_ofNat_Int, Nat.reduceBEq, Nat.reduceAdd, Nat.reduceLT, Nat.reduceEqDiff, reduceIte, reduceCtorEq, Nat.reduceLeDiff, Nat.reduceSub, List.reduceReplicate, Nat.reduceMul, Int.reduceToNat, Nat.reducePow, mskZ]; (repeat refine ⟨by first | omega | decide | ((repeat' apply And.intro) <;> first | omega | decide), ?_⟩); refine hK _ ?_; clear hK K
 (repeat first | refine qE ?_ | refine qA ?_ | refine qC ?_ | refine qB ?_ | refine qD ?_); refine qJ (fun K hK => ?_); simp (maxSteps := 2000000) (disch := omega) only [push_cast, ↓Int.cast_ofNat_Int, Nat.reduceBEq, Nat.reduceAdd, Nat.reduceLT, Nat.reduceEqDiff, reduceIte, reduceCtorEq, Nat.reduceLeDiff, Nat.reduceSub, List.reduceReplicate, Nat.reduceMul, Int.reduceToNat, Nat.reducePow, s0]; (repeat refine ⟨by first | omega | decide | ((repeat' apply And.intro) <;> first | omega | decide), ?_⟩); refine hK _ ?_; clear hK K
 (repeat first | refine qE ?_ | refine qA ?_ | refine qC ?_ | refine qB ?_ | refine qD ?_); refine qJ (fun K hK => ?_); simp (maxSteps := 2000000) (disch := omega) only [push_cast, ↓Int.cast_ofNat_Int, Nat.reduceBEq, Nat.reduceAdd, Nat.reduceLT, Nat.reduceEqDiff, reduceIte, reduceCtorEq, Nat.reduceLeDiff, Nat.reduceSub, List.reduceReplicate, Nat.reduceMul, Int.reduceToNat, Nat.reducePow, w0, w1, Int.mul_zero, Int.add_zero]; (repeat refine ⟨by first | omega | decide | ((repeat' apply And.intro) <;> first | omega | decide), ?_⟩); refine hK _ ?_; clear hK K
 (repeat first | refine qE ?_ | refine qA ?_ | refine qC ?_ | refine qB ?_ | refine qD ?_); refine qJ (fun K hK => ?_); simp (maxSteps := 2000000) (disch := omega) only [push_cast, ↓Int.cast_ofNat_Int, Nat.reduceBEq, Nat.reduceAdd, Nat.reduceLT, Nat.reduceEqDiff, reduceIte, reduceCtorEq, Nat.reduceLeDiff, Nat.reduceSub, List.reduceReplicate, Nat.reduceMul, Int.reduceToNat, Nat.reducePow, s0, w0, Int.zero_mul, Int.add_zero]; (repeat refine ⟨by first | omega | decide | ((repeat' apply And.intro) <;> first | omega | decide), ?_⟩); refine hK _ ?_; clear hK K
 (repeat first | refine qE ?_ | refine qA ?_ | refine qC ?_ | refine qB ?_ | refine qD ?_); refine qJ (fun K hK => ?_); simp (maxSteps := 2000000) (disch := omega) only [push_cast, ↓Int.cast_ofNat_Int, Nat.reduceBEq, Nat.reduceAdd, Nat.reduceLT, Nat.reduceEqDiff, reduceIte, reduceCtorEq, Nat.reduceLeDiff, Nat.reduceSub, List.reduceReplicate, Nat.reduceMul, Int.reduceToNat, Nat.reducePow, w1, Int.one_mul]; (repeat refine ⟨by first | omega | decide | ((repeat' apply And.intro) <;> first | omega | decide), ?_⟩); refine hK _ ?_; clear hK K
 (repeat first | refine qK ?_ | refine qG ?_ | refine qH ?_ | refine qF rfl ?_ | refine qL ?_ | refine qB ?_ | refine qE ?_ | refine qA ?_ | refine qC ?_ | refine qT ?_ | refine qW ?_)
 simp only [zA, zM, zH, zE, zK, zJ, qS, qM, Nat.reduceEqDiff, reduceIte, reduceCtorEq]
 exact hres_vv rfl
set_option maxHeartbeats 4000000 in
theorem mul_H (n : Nat) (h : n ≤ 100000) : HFun Try.prog 86 [.v (.int .u64 1), .v (.int .u64 n)] (fun h st => h = .tup [.v (.int .u64 0), .v (.int .u64 n)]) := by
 refine hfun (N := 30) Try.func86 rfl Try.ntmps86 Try.results86 (by simp) ?_
 (repeat first | refine qE ?_ | refine qA ?_ | refine qC ?_ | refine qB ?_ | refine qD ?_); refine qJ (fun K hK => ?_); simp (maxSteps := 2000000) (disch := omega) only [push_cast, ↓Int.cast_ofNat_Int, Nat.reduceBEq, Nat.reduceAdd, Nat.reduceLT, Nat.reduceEqDiff, reduceIte, reduceCtorEq, Nat.reduceLeDiff, Nat.reduceSub, List.reduceReplicate, Nat.reduceMul, Int.reduceToNat, Nat.reducePow]; refine hK _ ?_; clear hK K
 (repeat first | refine qE ?_ | refine qA ?_ | refine qC ?_ | refine qB ?_ | refine qD ?_)
 refine zC rfl ?_
 (repeat first | refine qK ?_ | refine qG ?_ | refine qH ?_ | refine qF rfl ?_ | refine qL ?_ | refine qB ?_ | refine qE ?_ | refine qA ?_ | refine qC ?_ | refine qT ?_ | refine qW ?_)
 (repeat first | refine qE ?_ | refine qA ?_ | refine qC ?_ | refine qB ?_ | refine qD ?_); refine qJ (fun K hK => ?_); simp (maxSteps := 2000000) (disch := omega) only [push_cast, ↓Int.cast_ofNat_Int, Nat.reduceBEq, Nat.reduceAdd, Nat.reduceLT, Nat.reduceEqDiff, reduceIte, reduceCtorEq, Nat.reduceLeDiff, Nat.reduceSub, List.reduceReplicate, Nat.reduceMul, Int.reduceToNat, Nat.reducePow]
 refine hatt (xs := [.int .u64 0, .int .u64 n]) cl93 (mul64_H n h) (.cons (.v _) (.cons (.v _) .nil)) ?_
 with_reducible refine hstop ?_; simp (maxSteps := 2000000) (disch := omega) only [push_cast, ↓Int.cast_ofNat_Int, Nat.reduceBEq, Nat.reduceAdd, Nat.reduceLT, Nat.reduceEqDiff, reduceIte, reduceCtorEq, Nat.reduceLeDiff, Nat.reduceSub, List.reduceReplicate, Nat.reduceMul, Int.reduceToNat, Nat.reducePow]
 refine hK _ ?_; clear hK K
 (repeat first | refine qE ?_ | refine qA ?_ | refine qC ?_ | refine qB ?_ | refine qD ?_); refine qJ (fun K hK => ?_); simp (maxSteps := 2000000) (disch := omega) only [push_cast, ↓Int.cast_ofNat_Int, Nat.reduceBEq, Nat.reduceAdd, Nat.reduceLT, Nat.reduceEqDiff, reduceIte, reduceCtorEq, Nat.reduceLeDiff, Nat.reduceSub, List.reduceReplicate, Nat.reduceMul, Int.reduceToNat, Nat.reducePow]; refine hK _ ?_; clear hK K
 (repeat first | refine qK ?_ | refine qG ?_ | refine qH ?_ | refine qF rfl ?_ | refine qL ?_ | refine qB ?_ | refine qE ?_ | refine qA ?_ | refine qC ?_ | refine qT ?_ | refine qW ?_)
 simp only [zA, zM, zH, zE, zK, zJ, qS, qM, Nat.reduceEqDiff, reduceIte, reduceCtorEq]
 exact hres_vv rfl
def rp (c : Int) (n bp : Nat) : List (List FV) := List.replicate bp [.v (.int .i64 c)] ++ List.replicate (n - bp) [.v (.int .i64 0)]
theorem rp_len {c : Int} {n bp : Nat} (h : bp ≤ n) : (rp c n bp).length = n := by simp [rp]; omega
theorem rp_take {c : Int} {n bp m : Nat} (h : m ≤ bp) : (rp c n bp).take m = List.replicate m [.v (.int .i64 c)] := by
 rw [rp, List.take_append_of_le_length (by simpa using h), List.take_replicate, Nat.min_eq_left h]
theorem rp_splice {c : Int} {n bp m : Nat} (h : bp + m ≤ n) (q : Nat) (hq : q = bp ∨ q = bp + m) : splice (rp c n q) bp (List.replicate m [.v (.int .i64 c)]) = rp c n (bp + m) := by
 apply List.ext_getElem?
 intro j
 rw [splice_get _ _ _ (by rw [rp_len (by omega)]; simpa using h)]
 simp only [List.length_replicate]
 unfold rp
 simp only [List.getElem?_append, List.length_replicate, List.getElem?_replicate]
 rcases hq with rfl | rfl
 all_goals
  repeat' split
  all_goals first | rfl | omega
def rpS (c : Int) (n bp : Nat) : HS := ⟨[(7, .own 240), (8, .v (.int .i64 bp))], [(240, .sl true 3 1 (rp c n bp))]⟩
set_option maxHeartbeats 4000000 in
theorem repeat_H (c : Int) (n : Nat) (h : n ≤ 100000) : HFun Try.prog 81 [.lst false (ints [c]), .v (.int .i64 n)] (fun h st => h = .own 0 ∧ st = [(0, .sl true 3 1 (ints (List.replicate n c)))]) := by
 refine hfun (N := 48) Try.func81 rfl Try.ntmps81 Try.results81 (by simp) ?_
 have w1 := wu n h
 (repeat first | refine qE ?_ | refine qA ?_ | refine qC ?_ | refine qB ?_ | refine qD ?_); refine qJ (fun K hK => ?_); simp (maxSteps := 2000000) (disch := omega) only [push_cast, ↓Int.cast_ofNat_Int, Nat.reduceBEq, Nat.reduceAdd, Nat.reduceLT, Nat.reduceEqDiff, reduceIte, reduceCtorEq, Nat.reduceLeDiff, Nat.reduceSub, List.reduceReplicate, Nat.reduceMul, Int.reduceToNat, Nat.reducePow]; refine hK _ ?_; clear hK K
 (repeat first | refine qE ?_ | refine qA ?_ | refine qC ?_ | refine qB ?_ | refine qD ?_); refine qJ (fun K hK => ?_); simp (maxSteps := 2000000) (disch := omega) only [push_cast, ↓Int.cast_ofNat_Int, Nat.reduceBEq, Nat.reduceAdd, Nat.reduceLT, Nat.reduceEqDiff, reduceIte, reduceCtorEq, Nat.reduceLeDiff, Nat.reduceSub, List.reduceReplicate, Nat.reduceMul, Int.reduceToNat, Nat.reducePow]; (repeat refine ⟨by first | omega | decide | ((repeat' apply And.intro) <;> first | omega | decide), ?_⟩); refine hK _ ?_; clear hK K
 (repeat first | refine qE ?_ | refine qA ?_ | refine qC ?_ | refine qB ?_ | refine qD ?_)
 refine zC rfl ?_
 (repeat first | refine qE ?_ | refine qA ?_ | refine qC ?_ | refine qB ?_ | refine qD ?_)
 have e1 : IntKind.u64.wrap ((ints [c]).length : Int) = 1 := by rw [ints_len]; exact wu 1 (by omega)
 have e2 : IntKind.u64.wrap (n : Int) = (n : Int) := wu n h
 (repeat first | refine qE ?_ | refine qA ?_ | refine qC ?_ | refine qB ?_ | refine qD ?_); refine qJ (fun K hK => ?_); simp (maxSteps := 2000000) (disch := omega) only [push_cast, ↓Int.cast_ofNat_Int, Nat.reduceBEq, Nat.reduceAdd, Nat.reduceLT, Nat.reduceEqDiff, reduceIte, reduceCtorEq, Nat.reduceLeDiff, Nat.reduceSub, List.reduceReplicate, Nat.reduceMul, Int.reduceToNat, Nat.reducePow]
 rw [e1, e2]
 refine hatt (xs := [.int .u64 0, .int .u64 n]) cl86 (mul_H n h) (.cons (.v _) (.cons (.v _) .nil)) ?_
 with_reducible refine hstop ?_; simp (maxSteps := 2000000) (disch := omega) only [push_cast, ↓Int.cast_ofNat_Int, Nat.reduceBEq, Nat.reduceAdd, Nat.reduceLT, Nat.reduceEqDiff, reduceIte, reduceCtorEq, Nat.reduceLeDiff, Nat.reduceSub, List.reduceReplicate, Nat.reduceMul, Int.reduceToNat, Nat.reducePow]
 refine hK _ ?_; clear hK K
 (repeat first | refine qE ?_ | refine qA ?_ | refine qC ?_ | refine qB ?_ | refine qD ?_); refine qJ (fun K hK => ?_); simp (maxSteps := 2000000) (disch := omega) only [push_cast, ↓Int.cast_ofNat_Int, Nat.reduceBEq, Nat.reduceAdd, Nat.reduceLT, Nat.reduceEqDiff, reduceIte, reduceCtorEq, Nat.reduceLeDiff, Nat.reduceSub, List.reduceReplicate, Nat.reduceMul, Int.reduceToNat, Nat.reducePow]; (repeat refine ⟨by first | omega | decide | ((repeat' apply And.intro) <;> first | omega | decide), ?_⟩); refine hK _ ?_; clear hK K
 refine zC rfl ?_
 (repeat first | refine qE ?_ | refine qA ?_ | refine qC ?_ | refine qB ?_ | refine qD ?_)
 have e3 : IntKind.i64.wrap (n : Int) = (n : Int) := by rw [IntKind.wrap_i64]; omega
 (repeat first | refine qE ?_ | refine qA ?_ | refine qC ?_ | refine qB ?_ | refine qD ?_); refine qJ (fun K hK => ?_); simp (maxSteps := 2000000) (disch := omega) only [push_cast, ↓Int.cast_ofNat_Int, Nat.reduceBEq, Nat.reduceAdd, Nat.reduceLT, Nat.reduceEqDiff, reduceIte, reduceCtorEq, Nat.reduceLeDiff, Nat.reduceSub, List.reduceReplicate, Nat.reduceMul, Int.reduceToNat, Nat.reducePow, e3]
 refine ⟨by unfold Cond maxLen; omega, ?_⟩
 refine hK _ ?_; clear hK K
 refine zB [0, 7] [240] (by simp only [qZ, qR, qP, qQ, qN, qS, qM, qX, qU, Nat.reduceEqDiff, reduceIte]; exact rfl) ?_
 (repeat first | refine qE ?_ | refine qA ?_ | refine qC ?_ | refine qB ?_ | refine qD ?_)
 have f0 : cpy (List.replicate n [FV.v (.int .i64 0)]) 0 (ints [c]) n = rp c n (min 1 n) := by
  have e : (ints [c]).take n = List.replicate (min 1 n) [FV.v (.int .i64 c)] := by
   rcases n with _ | n
   ·rfl
   ·simp [ints, intE]
  rw [cpy, e]
  have := rp_splice (c := c) (n := n) (bp := 0) (m := min 1 n) (by omega) 0 (.inl rfl)
  simpa [rp] using this
 have f1 : cpn (ints [c]) n = min 1 n := by rw [cpn, ints_len]; rfl
 obtain ⟨m0, hm0⟩ : ∃ m0, m0 = min 1 n := ⟨_, rfl⟩
 rw [← hm0] at f0 f1
 (repeat first | refine qE ?_ | refine qA ?_ | refine qC ?_ | refine qB ?_ | refine qD ?_); refine qJ (fun K hK => ?_); simp (maxSteps := 2000000) (disch := omega) only [push_cast, ↓Int.cast_ofNat_Int, Nat.reduceBEq, Nat.reduceAdd, Nat.reduceLT, Nat.reduceEqDiff, reduceIte, reduceCtorEq, Nat.reduceLeDiff, Nat.reduceSub, List.reduceReplicate, Nat.reduceMul, Int.reduceToNat, Nat.reducePow, ints_wid, List.length_replicate, f0, f1]; (repeat refine ⟨by first | omega | decide | ((repeat' apply And.intro) <;> first | omega | decide), ?_⟩); refine hK _ ?_; clear hK K
 (repeat first | refine qE ?_ | refine qA ?_ | refine qC ?_ | refine qB ?_ | refine qD ?_)
 refine HW_loop (rpS c n) (fun bp => bp ≤ n ∧ (0 < n → 0 < bp)) (fun bp => n - bp) [7, 8] [240] m0 (by simp only [qZ, qR, qP, qQ, qN, qS, qM, qX, qU, Nat.reduceEqDiff, reduceIte, rpS]; try rfl) ⟨by omega, by omega⟩ ?_
 rintro bp ⟨hb, hp⟩
 simp only [rpS]
 by_cases hlt : bp < n
 ·have hl := rp_len (c := c) hb
  (repeat first | refine qE ?_ | refine qA ?_ | refine qC ?_ | refine qB ?_ | refine qD ?_); refine qJ (fun K hK => ?_); simp (maxSteps := 2000000) (disch := omega) only [push_cast, ↓Int.cast_ofNat_Int, Nat.reduceBEq, Nat.reduceAdd, Nat.reduceLT, Nat.reduceEqDiff, reduceIte, reduceCtorEq, Nat.reduceLeDiff, Nat.reduceSub, List.reduceReplicate, Nat.reduceMul, Int.reduceToNat, Nat.reducePow, hl]; refine hK _ ?_; clear hK K
  (repeat first | refine qE ?_ | refine qA ?_ | refine qC ?_ | refine qB ?_ | refine qD ?_)
  refine zD rfl ?_
  (repeat first | refine qK ?_ | refine qG ?_ | refine qH ?_ | refine qF rfl ?_ | refine qL ?_ | refine qB ?_ | refine qE ?_ | refine qA ?_ | refine qC ?_ | refine qT ?_ | refine qW ?_)
  obtain ⟨m, hm⟩ : ∃ m, m = min bp (n - bp) := ⟨_, rfl⟩
  have again : ∀ q, q = bp ∨ q = bp + m → cpy (rp c n q) bp ((rp c n q).take bp) (n - bp) = rp c n (bp + m) := fun q hq => by
   rw [cpy, rp_take (by omega), List.take_replicate, Nat.min_comm, ← hm]
   exact rp_splice (by omega) q hq
  have hl2 : (rp c n (bp + m)).length = n := rp_len (by omega)
  have f2 : cpn ((rp c n bp).take bp) (n - bp) = m := by rw [cpn, List.length_take, hl]; omega
  have f3 : cpn ((rp c n (bp + m)).take bp) (n - bp) = m := by rw [cpn, List.length_take, hl2]; omega
  (repeat first | refine qE ?_ | refine qA ?_ | refine qC ?_ | refine qB ?_ | refine qD ?_)
  refine HW_drwO 8 7 [(240, .sl true 3 1 (rp c n (bp + m)))] (fun i => match i with | 1 => .own 240 | 3 => .vw 240 1 bp (n - bp) | 4 => .own 240 | 6 => .vw 240 1 0 bp | 7 => .v (.int .i64 m) | _ => .v (.int .i64 bp)) [(38, .v (.int .i64 bp)), (45, .v (.int .i64 m)), (7, .own 240)] (by decide) mixed (by kernel_rfl) (fun i o hi ho => ?_) ?_ (fun K hK => ?_)
  ·match i, hi, ho with
   | 0, _, ho => cases ho; exact ⟨rfl, dstOk_lt rfl, rfl, [(8, .v (.int .i64 bp))], frOk_old (by kernel_rfl) rfl frOk_nil, slots_ok rfl, fun _ => ⟨rfl, hop_move rfl, hop_move rfl⟩, fun e => by omega⟩
   | 1, _, ho => cases ho; exact ⟨rfl, dstOk_lt rfl, rfl, [(7, .own 240)], frOk_old (by kernel_rfl) rfl frOk_nil, slots_ok rfl, fun _ => ⟨rfl, hop_move rfl, hop_move rfl⟩, fun e => by omega⟩
   | 2, _, ho => cases ho; exact ⟨rfl, dstOk_lt rfl, rfl, [(8, .v (.int .i64 bp))], frOk_old (by kernel_rfl) rfl frOk_nil, slots_ok rfl, fun _ => ⟨rfl, hop_move rfl, hop_move rfl⟩, fun e => by omega⟩
   | 3, _, ho =>
    cases ho
    refine ⟨rfl, dstOk_lt rfl, rfl, [(39, .own 240), (40, .v (.int .i64 bp))], frOk_new 1 (by kernel_rfl) rfl (frOk_new 2 (by kernel_rfl) rfl frOk_nil), slots_ok rfl, fun _ => ⟨rfl, ?_, ?_⟩, fun e => by omega⟩
    ·simp (maxSteps := 2000000) (disch := omega) only [push_cast, ↓Int.cast_ofNat_Int, Nat.reduceBEq, Nat.reduceAdd, Nat.reduceLT, Nat.reduceEqDiff, reduceIte, reduceCtorEq, Nat.reduceLeDiff, Nat.reduceSub, List.reduceReplicate, Nat.reduceMul, Int.reduceToNat, Nat.reducePow, hl]
     exact ⟨True, trivial, rfl⟩
    ·simp (maxSteps := 2000000) (disch := omega) only [push_cast, ↓Int.cast_ofNat_Int, Nat.reduceBEq, Nat.reduceAdd, Nat.reduceLT, Nat.reduceEqDiff, reduceIte, reduceCtorEq, Nat.reduceLeDiff, Nat.reduceSub, List.reduceReplicate, Nat.reduceMul, Int.reduceToNat, Nat.reducePow, hl2]
     exact ⟨True, trivial, rfl⟩
   | 4, _, ho => cases ho; exact ⟨rfl, dstOk_lt rfl, rfl, [(7, .own 240)], frOk_old (by kernel_rfl) rfl frOk_nil, slots_ok rfl, fun _ => ⟨rfl, hop_move rfl, hop_move rfl⟩, fun e => by omega⟩
   | 5, _, ho => cases ho; exact ⟨rfl, dstOk_lt rfl, rfl, [(8, .v (.int .i64 bp))], frOk_old (by kernel_rfl) rfl frOk_nil, slots_ok rfl, fun _ => ⟨rfl, hop_move rfl, hop_move rfl⟩, fun e => by omega⟩
   | 6, _, ho =>
    cases ho
    refine ⟨rfl, dstOk_lt rfl, rfl, [(42, .own 240), (43, .v (.int .i64 bp))], frOk_new 4 (by kernel_rfl) rfl (frOk_new 5 (by kernel_rfl) rfl frOk_nil), slots_ok rfl, fun _ => ⟨rfl, ?_, ?_⟩, fun e => by omega⟩
    ·simp (maxSteps := 2000000) (disch := omega) only [push_cast, ↓Int.cast_ofNat_Int, Nat.reduceBEq, Nat.reduceAdd, Nat.reduceLT, Nat.reduceEqDiff, reduceIte, reduceCtorEq, Nat.reduceLeDiff, Nat.reduceSub, List.reduceReplicate, Nat.reduceMul, Int.reduceToNat, Nat.reducePow, hl, Nat.sub_zero]
     exact ⟨True, trivial, rfl⟩
    ·simp (maxSteps := 2000000) (disch := omega) only [push_cast, ↓Int.cast_ofNat_Int, Nat.reduceBEq, Nat.reduceAdd, Nat.reduceLT, Nat.reduceEqDiff, reduceIte, reduceCtorEq, Nat.reduceLeDiff, Nat.reduceSub, List.reduceReplicate, Nat.reduceMul, Int.reduceToNat, Nat.reducePow, hl2, Nat.sub_zero]
     exact ⟨True, trivial, rfl⟩
   | 7, _, ho =>
    cases ho
    refine ⟨rfl, dstOk_lt rfl, rfl, [(41, .vw 240 1 bp (n - bp)), (44, .vw 240 1 0 bp)], frOk_new 3 (by kernel_rfl) rfl (frOk_new 6 (by kernel_rfl) rfl frOk_nil), slots_ok rfl, fun e => absurd rfl e, fun _ => ⟨_, _, rfl, ?_, ?_⟩⟩
    ·simp (maxSteps := 2000000) (disch := omega) only [push_cast, ↓Int.cast_ofNat_Int, Nat.reduceBEq, Nat.reduceAdd, Nat.reduceLT, Nat.reduceEqDiff, reduceIte, reduceCtorEq, Nat.reduceLeDiff, Nat.reduceSub, List.reduceReplicate, Nat.reduceMul, Int.reduceToNat, Nat.reducePow, hl, again bp (.inl rfl), f2]
     exact ⟨True, trivial, rfl⟩
    ·simp (maxSteps := 2000000) (disch := omega) only [push_cast, ↓Int.cast_ofNat_Int, Nat.reduceBEq, Nat.reduceAdd, Nat.reduceLT, Nat.reduceEqDiff, reduceIte, reduceCtorEq, Nat.reduceLeDiff, Nat.reduceSub, List.reduceReplicate, Nat.reduceMul, Int.reduceToNat, Nat.reducePow, hl2, again (bp + m) (.inr rfl), f3]
     exact ⟨True, trivial, rfl⟩
  ·exact frOk_new 0 (by kernel_rfl) rfl (frOk_new 7 (by kernel_rfl) rfl (frOk_old (by kernel_rfl) rfl frOk_nil))
  ·with_reducible refine hstop ?_; simp (maxSteps := 2000000) (disch := omega) only [push_cast, ↓Int.cast_ofNat_Int, Nat.reduceBEq, Nat.reduceAdd, Nat.reduceLT, Nat.reduceEqDiff, reduceIte, reduceCtorEq, Nat.reduceLeDiff, Nat.reduceSub, List.reduceReplicate, Nat.reduceMul, Int.reduceToNat, Nat.reducePow]
   refine hK _ ?_; clear hK K
   (repeat first | refine qK ?_ | refine qG ?_ | refine qH ?_ | refine qF rfl ?_ | refine qL ?_ | refine qB ?_ | refine qE ?_ | refine qA ?_ | refine qC ?_ | refine qT ?_ | refine qW ?_)
   refine ⟨bp + m, ?_, ⟨by omega, by omega⟩, by omega⟩
   simp only [qZ, qR, qP, qQ, qN, qS, qM, qX, qU, Nat.reduceEqDiff, reduceIte, rpS]; try rfl
 ·have hbn : bp = n := by omega
  subst hbn
  have hl := rp_len (c := c) hb
  (repeat first | refine qE ?_ | refine qA ?_ | refine qC ?_ | refine qB ?_ | refine qD ?_); refine qJ (fun K hK => ?_); simp (maxSteps := 2000000) (disch := omega) only [push_cast, ↓Int.cast_ofNat_Int, Nat.reduceBEq, Nat.reduceAdd, Nat.reduceLT, Nat.reduceEqDiff, reduceIte, reduceCtorEq, Nat.reduceLeDiff, Nat.reduceSub, List.reduceReplicate, Nat.reduceMul, Int.reduceToNat, Nat.reducePow, hl]; refine hK _ ?_; clear hK K
  (repeat first | refine qE ?_ | refine qA ?_ | refine qC ?_ | refine qB ?_ | refine qD ?_)
  refine zC rfl ?_
  (repeat first | refine qK ?_ | refine qG ?_ | refine qH ?_ | refine qF rfl ?_ | refine qL ?_ | refine qB ?_ | refine qE ?_ | refine qA ?_ | refine qC ?_ | refine qT ?_ | refine qW ?_)
  (repeat first | refine qE ?_ | refine qA ?_ | refine qC ?_ | refine qB ?_ | refine qD ?_); refine qJ (fun K hK => ?_); simp (maxSteps := 2000000) (disch := omega) only [push_cast, ↓Int.cast_ofNat_Int, Nat.reduceBEq, Nat.reduceAdd, Nat.reduceLT, Nat.reduceEqDiff, reduceIte, reduceCtorEq, Nat.reduceLeDiff, Nat.reduceSub, List.reduceReplicate, Nat.reduceMul, Int.reduceToNat, Nat.reducePow]; refine hK _ ?_; clear hK K
  (repeat first | refine qK ?_ | refine qG ?_ | refine qH ?_ | refine qF rfl ?_ | refine qL ?_ | refine qB ?_ | refine qE ?_ | refine qA ?_ | refine qC ?_ | refine qT ?_ | refine qW ?_)
  simp only [zA, zM, zH, zE, zK, zJ, qS, qM, Nat.reduceEqDiff, reduceIte, reduceCtorEq]
  have e9 : rp c bp bp = ints (List.replicate bp c) := by simp [rp, ints, intE]
  rw [e9]
  exact hres_o rfl (ints_fresh _) ⟨rfl, rfl⟩
end Go.Proofs.Ytlfenddhppoflaa
