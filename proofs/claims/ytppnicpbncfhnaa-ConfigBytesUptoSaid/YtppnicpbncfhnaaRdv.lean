/-
  Reader.varint: the number that stands at a place.
-/
import Derived.Test.YtppnicpbncfhnaaInt
set_option linter.unusedSimpArgs false
set_option linter.unusedVariables false
set_option maxRecDepth 20000
namespace Go.Proofs.Ytppnicpbncfhnaa
open Go Go.Eng Go.RowKit

/-- the number that begins a list of bytes, how many bytes it has, the error; k bytes have been read, they make x -/
def vrd : List Nat → Nat → Nat → Nat × Nat × Nat
  | [], _, _ => (0, 0, 2)
  | c :: r, k, x => if k = 9 ∧ 1 < c then (0, 0, 3) else if 128 ≤ c then vrd r (k + 1) (x + c % 128 * 128 ^ k) else if c = 0 ∧ 0 < k then (0, 0, 3) else (x + c * 128 ^ k, k + 1, 0)
def sb (s : ByteArray) : List Nat := s.data.toList.map UInt8.toNat
def vread (s : ByteArray) (i : Nat) : Nat × Nat × Nat := vrd ((sb s).drop i) 0 0
def vtup (i : Nat) (r : Nat × Nat × Nat) : List Value := [.int .u64 r.1, .int .i64 (if r.2.2 = 0 then i + r.2.1 else 0 : Nat), .int .i64 r.2.2]
theorem sb_len (s : ByteArray) : (sb s).length = s.size := by simp [sb]
theorem byte_drop (s : ByteArray) {j : Nat} (h : j < s.size) : ∃ c : Nat, byteAt s j = (c : Int) ∧ c < 256 ∧ (sb s).drop j = c :: (sb s).drop (j + 1) := by
  have hj : j < (sb s).length := by rw [sb_len]; exact h
  have hj' : j < s.data.toList.length := by simpa using h
  refine ⟨(sb s)[j], ?_, ?_, List.drop_eq_getElem_cons hj⟩
  · have : (sb s)[j] = (s.data.toList[j]).toNat := by simp [sb]
    rw [this]
    unfold byteAt
    congr 1
    rw [Array.getD_eq_getD_getElem?, ← Array.getElem?_toList, List.getElem?_eq_getElem hj']
    rfl
  · have : (sb s)[j] = (s.data.toList[j]).toNat := by simp [sb]
    rw [this]; exact UInt8.toNat_lt _
theorem and127 {c : Nat} (h : c < 256) : ∃ m : Nat, m = c % 128 ∧ bits .and .u8 (c : Int) 127 = (m : Int) := by
  have key : ∀ z : Fin 256, bits .and .u8 (z.val : Int) 127 = ((z.val % 128 : Nat) : Int) := by decide +kernel
  exact ⟨_, rfl, key ⟨c, h⟩⟩
theorem or_step {k x m : Nat} (hk : k ≤ 9) (hx : x < 128 ^ k) (hm : m < 128) (h9 : k = 9 → m ≤ 1) : ∃ x' : Nat, x' = x + m * 128 ^ k ∧ bits .or .u64 (x : Int) (IntKind.u64.wrap (IntKind.u64.wrap m * 2 ^ min (7 * (k : Int)).toNat IntKind.u64.bits)) = (x' : Int) := by
  have e128 : 128 ^ k = 2 ^ (7 * k) := by rw [Nat.pow_mul]
  have hlt : m * 128 ^ k < 2 ^ 64 := by
    by_cases h : k = 9
    · subst h
      have := Nat.mul_le_mul_right (128 ^ 9) (h9 rfl)
      omega
    · have h1 : 128 ^ k ≤ 128 ^ 8 := Nat.pow_le_pow_right (by omega) (by omega)
      have h2 : m * 128 ^ k ≤ 127 * 128 ^ 8 := Nat.mul_le_mul (by omega) h1
      omega
  have hx64 : x < 2 ^ 64 := by
    have h1 : 128 ^ k ≤ 128 ^ 9 := Nat.pow_le_pow_right (by omega) hk
    omega
  refine ⟨_, rfl, ?_⟩
  have e1 : min (7 * (k : Int)).toNat IntKind.u64.bits = 7 * k := by
    rw [show IntKind.u64.bits = 64 from rfl]; omega
  have e2 : IntKind.u64.wrap m = (m : Int) := by rw [wu64]; omega
  have e3 : IntKind.u64.wrap ((m : Int) * 2 ^ (7 * k)) = ((m * 128 ^ k : Nat) : Int) := by
    rw [wu64, show (m : Int) * 2 ^ (7 * k) = ((m * 128 ^ k : Nat) : Int) by rw [e128]; simp]
    omega
  rw [e1, e2, e3]
  show IntKind.u64.wrap ((BitVec.ofInt 64 (x : Int) ||| BitVec.ofInt 64 ((m * 128 ^ k : Nat) : Int)).toNat : Nat) = _
  rw [BitVec.toNat_or, BitVec.toNat_ofInt, BitVec.toNat_ofInt, wu64]
  have a1 : ((x : Int) % ((2 ^ 64 : Nat) : Int)).toNat = x := by omega
  have a2 : (((m * 128 ^ k : Nat) : Int) % ((2 ^ 64 : Nat) : Int)).toNat = m * 128 ^ k := by omega
  rw [a1, a2, Nat.or_comm, show m * 128 ^ k = 2 ^ (7 * k) * m by rw [e128, Nat.mul_comm], ← Nat.two_pow_add_eq_or_of_lt (by rw [← e128]; exact hx)]
  rw [← e128]
  have : 128 ^ k * m + x < 2 ^ 64 := by
    by_cases h : k = 9
    · subst h
      have := Nat.mul_le_mul_left (128 ^ 9) (h9 rfl)
      omega
    · have h1 : 128 ^ k ≤ 128 ^ 8 := Nat.pow_le_pow_right (by omega) (by omega)
      have h2 : 128 ^ k * m ≤ 128 ^ 8 * 127 := Nat.mul_le_mul h1 (by omega)
      omega
  rw [Nat.add_comm x]
  omega
structure VI where
  k : Nat
  x : Nat
def vE (s : ByteArray) (i : Nat) (j : VI) : HS := ⟨[(0, .ptr 0 2 0 0), (5, .v (.int .u64 j.x)), (6, .v (.int .i64 j.k))], [(0, .bx false 82 [.v (.string s), .v (.int .i64 i)])]⟩
theorem hrcv_t {ty n : Nat} {Q : HV → List Value → Prop} {E : HEnv} {xs : List Value} {cells : List Value} {st : Store} (hr : rlk st 0 = some (.bx false ty (cells.map .v))) (hn : cells.length = n) (q : Q (.tup (xs.map .v)) cells) : hrcvK ty n Q ⟨E, st⟩ (.tup (xs.map .v)) := ⟨.tup xs, cells, hr, hn, q⟩
set_option maxHeartbeats 4000000 in
theorem vread_H (s : ByteArray) (i : Nat) (hi : i ≤ s.size) (hs : s.size ≤ 140737488355328) : HRcv Try.prog 57 82 (rdr s i) [] (fun h cs => h = .tup ((vtup i (vread s i)).map .v) ∧ cs = rdr s i) := by
  refine hrcv (N := 63) Try.func57 rfl Try.ntmps57 Try.results57 (by simp) ?_
  simp only [rdr]
  (repeat first | refine HW_seq ?_ | refine hseqQ_normal ?_ | refine HW_skip ?_ | refine hblkQ_normal ?_ | refine HW_block ?_); refine HW_reg (fun K hK => ?_); simp (maxSteps := 2000000) (disch := omega) only [push_cast, ↓Int.cast_ofNat_Int, Nat.reduceBEq, Nat.reduceAdd, Nat.reduceLT, Nat.reduceEqDiff, reduceIte, reduceCtorEq, Nat.reduceLeDiff, Nat.reduceSub, List.reduceReplicate, Nat.reduceMul, Int.reduceToNat, Int.toNat_natCast, Nat.reducePow, reduceIte]; refine hK _ ?_; clear hK K
  (repeat first | refine HW_seq ?_ | refine hseqQ_normal ?_ | refine HW_skip ?_ | refine hblkQ_normal ?_ | refine HW_block ?_); refine HW_reg (fun K hK => ?_); simp (maxSteps := 2000000) (disch := omega) only [push_cast, ↓Int.cast_ofNat_Int, Nat.reduceBEq, Nat.reduceAdd, Nat.reduceLT, Nat.reduceEqDiff, reduceIte, reduceCtorEq, Nat.reduceLeDiff, Nat.reduceSub, List.reduceReplicate, Nat.reduceMul, Int.reduceToNat, Int.toNat_natCast, Nat.reducePow, reduceIte]; refine hK _ ?_; clear hK K
  (repeat first | refine HW_seq ?_ | refine hseqQ_normal ?_ | refine HW_skip ?_ | refine hblkQ_normal ?_ | refine HW_block ?_); refine HW_reg (fun K hK => ?_); simp (maxSteps := 2000000) (disch := omega) only [push_cast, ↓Int.cast_ofNat_Int, Nat.reduceBEq, Nat.reduceAdd, Nat.reduceLT, Nat.reduceEqDiff, reduceIte, reduceCtorEq, Nat.reduceLeDiff, Nat.reduceSub, List.reduceReplicate, Nat.reduceMul, Int.reduceToNat, Int.toNat_natCast, Nat.reducePow, reduceIte]; refine hK _ ?_; clear hK K
  (repeat first | refine HW_seq ?_ | refine hseqQ_normal ?_ | refine HW_skip ?_ | refine hblkQ_normal ?_ | refine HW_block ?_)
  refine HW_loop (vE s i) (fun j => j.k ≤ 9 ∧ j.x < 128 ^ j.k ∧ i + j.k ≤ s.size ∧ vread s i = vrd ((sb s).drop (i + j.k)) j.k j.x) (fun j => s.size - j.k) [0, 5, 6] [0] ⟨0, 0⟩ (by simp only [keep_eq, hkeep_nil, hkeep_cons, rkeep_nil, rkeep_cons, hlk_nil, hlk_cons, rlk_nil, rlk_cons, Nat.reduceEqDiff, reduceIte]; exact rfl) ⟨by simp, by simp, by simpa using hi, rfl⟩ ?_
  rintro ⟨k, x⟩ ⟨hk, hx, hik, hv⟩
  simp only [vE] at hk hx hik hv ⊢
  by_cases h : i + k < s.size
  · (repeat first | refine HW_seq ?_ | refine hseqQ_normal ?_ | refine HW_skip ?_ | refine hblkQ_normal ?_ | refine HW_block ?_); refine HW_drw 12 mixed (by kernel_rfl) (fun K hK => ?_); simp (maxSteps := 2000000) (disch := omega) only [push_cast, ↓Int.cast_ofNat_Int, Nat.reduceBEq, Nat.reduceAdd, Nat.reduceLT, Nat.reduceEqDiff, reduceIte, reduceCtorEq, Nat.reduceLeDiff, Nat.reduceSub, List.reduceReplicate, Nat.reduceMul, Int.reduceToNat, Int.toNat_natCast, Nat.reducePow, reduceIte]
    with_reducible refine hstop ?_; simp (maxSteps := 2000000) (disch := omega) only [push_cast, ↓Int.cast_ofNat_Int, Nat.reduceBEq, Nat.reduceAdd, Nat.reduceLT, Nat.reduceEqDiff, reduceIte, reduceCtorEq, Nat.reduceLeDiff, Nat.reduceSub, List.reduceReplicate, Nat.reduceMul, Int.reduceToNat, Int.toNat_natCast, Nat.reducePow, reduceIte]
    refine hK _ ?_; clear hK K
    refine HW_false rfl ?_
    (repeat first | refine HW_seq ?_ | refine hseqQ_normal ?_ | refine HW_skip ?_ | refine hblkQ_normal ?_ | refine HW_block ?_)
    obtain ⟨c, hc, hc2, hd⟩ := byte_drop s h
    (repeat first | refine HW_seq ?_ | refine hseqQ_normal ?_ | refine HW_skip ?_ | refine hblkQ_normal ?_ | refine HW_block ?_); refine HW_drw 12 mixed (by kernel_rfl) (fun K hK => ?_); simp (maxSteps := 2000000) (disch := omega) only [push_cast, ↓Int.cast_ofNat_Int, Nat.reduceBEq, Nat.reduceAdd, Nat.reduceLT, Nat.reduceEqDiff, reduceIte, reduceCtorEq, Nat.reduceLeDiff, Nat.reduceSub, List.reduceReplicate, Nat.reduceMul, Int.reduceToNat, Int.toNat_natCast, Nat.reducePow, reduceIte, hc]
    refine ⟨⟨by omega, by omega⟩, ?_⟩
    with_reducible refine hstop ?_; simp (maxSteps := 2000000) (disch := omega) only [push_cast, ↓Int.cast_ofNat_Int, Nat.reduceBEq, Nat.reduceAdd, Nat.reduceLT, Nat.reduceEqDiff, reduceIte, reduceCtorEq, Nat.reduceLeDiff, Nat.reduceSub, List.reduceReplicate, Nat.reduceMul, Int.reduceToNat, Int.toNat_natCast, Nat.reducePow, reduceIte]
    refine hK _ ?_; clear hK K
    by_cases h9 : k = 9 ∧ 1 < c
    · obtain ⟨h9, h1⟩ := h9
      (repeat first | refine HW_seq ?_ | refine hseqQ_normal ?_ | refine HW_skip ?_ | refine hblkQ_normal ?_ | refine HW_block ?_); refine HW_reg (fun K hK => ?_); simp (maxSteps := 2000000) (disch := omega) only [push_cast, ↓Int.cast_ofNat_Int, Nat.reduceBEq, Nat.reduceAdd, Nat.reduceLT, Nat.reduceEqDiff, reduceIte, reduceCtorEq, Nat.reduceLeDiff, Nat.reduceSub, List.reduceReplicate, Nat.reduceMul, Int.reduceToNat, Int.toNat_natCast, Nat.reducePow, reduceIte]; refine hK _ ?_; clear hK K
      refine HW_true rfl ?_
      (repeat first | refine HW_seq ?_ | refine hseqQ_normal ?_ | refine HW_skip ?_ | refine hblkQ_normal ?_ | refine HW_block ?_); refine HW_reg (fun K hK => ?_); simp (maxSteps := 2000000) (disch := omega) only [push_cast, ↓Int.cast_ofNat_Int, Nat.reduceBEq, Nat.reduceAdd, Nat.reduceLT, Nat.reduceEqDiff, reduceIte, reduceCtorEq, Nat.reduceLeDiff, Nat.reduceSub, List.reduceReplicate, Nat.reduceMul, Int.reduceToNat, Int.toNat_natCast, Nat.reducePow, reduceIte]; refine hK _ ?_; clear hK K
      (repeat first | refine hseqQ_ret ?_ | refine hseqQ_exit ?_ | refine hblkQ_exit ?_ | refine hblkQ_other rfl ?_ | refine hblkQ_ret ?_ | refine hblkQ_normal ?_ | refine HW_seq ?_ | refine hseqQ_normal ?_ | refine HW_skip ?_ | refine HW_exit ?_ | refine HW_ret ?_)
      simp only [hrcvQ_normal, hrcvQ_ret, hfunQ_normal, hfunQ_ret, resH_nil, resH_cons, resH_cell, resC_go, htup_one, htup_two, hlk_nil, hlk_cons, Nat.reduceEqDiff, reduceIte, reduceCtorEq]
      have e2 : vread s i = (0, 0, 3) := by rw [hv, hd, vrd, if_pos ⟨h9, h1⟩]
      exact hrcv_t (cells := rdr s i) (xs := [.int .u64 0, .int .i64 0, .int .i64 3]) rfl rfl ⟨by rw [e2]; rfl, rfl⟩
    obtain ⟨m, hm, e1⟩ := and127 hc2
    rcases (show (k = 9 ∧ c ≤ 1) ∨ k ≠ 9 by omega) with ⟨h1, h2⟩ | h1
    all_goals
      (repeat first | refine HW_seq ?_ | refine hseqQ_normal ?_ | refine HW_skip ?_ | refine hblkQ_normal ?_ | refine HW_block ?_); refine HW_reg (fun K hK => ?_); simp (maxSteps := 2000000) (disch := omega) only [push_cast, ↓Int.cast_ofNat_Int, Nat.reduceBEq, Nat.reduceAdd, Nat.reduceLT, Nat.reduceEqDiff, reduceIte, reduceCtorEq, Nat.reduceLeDiff, Nat.reduceSub, List.reduceReplicate, Nat.reduceMul, Int.reduceToNat, Int.toNat_natCast, Nat.reducePow, reduceIte]; refine hK _ ?_; clear hK K
      refine HW_false rfl ?_
      refine HW_keep [0, 5, 6, 7] [0] (by simp only [keep_eq, hkeep_nil, hkeep_cons, rkeep_nil, rkeep_cons, hlk_nil, hlk_cons, rlk_nil, rlk_cons, Nat.reduceEqDiff, reduceIte]; exact rfl) ?_
      obtain ⟨x', hx', e3⟩ := or_step (m := m) hk hx (by omega) (by omega)
      (repeat first | refine HW_seq ?_ | refine hseqQ_normal ?_ | refine HW_skip ?_ | refine hblkQ_normal ?_ | refine HW_block ?_); refine HW_reg (fun K hK => ?_); simp (maxSteps := 2000000) (disch := omega) only [push_cast, ↓Int.cast_ofNat_Int, Nat.reduceBEq, Nat.reduceAdd, Nat.reduceLT, Nat.reduceEqDiff, reduceIte, reduceCtorEq, Nat.reduceLeDiff, Nat.reduceSub, List.reduceReplicate, Nat.reduceMul, Int.reduceToNat, Int.toNat_natCast, Nat.reducePow, reduceIte, e1, e3]
      refine ⟨by omega, ?_⟩
      refine hK _ ?_; clear hK K
      by_cases h128 : 128 ≤ c
      · (repeat first | refine HW_seq ?_ | refine hseqQ_normal ?_ | refine HW_skip ?_ | refine hblkQ_normal ?_ | refine HW_block ?_); refine HW_reg (fun K hK => ?_); simp (maxSteps := 2000000) (disch := omega) only [push_cast, ↓Int.cast_ofNat_Int, Nat.reduceBEq, Nat.reduceAdd, Nat.reduceLT, Nat.reduceEqDiff, reduceIte, reduceCtorEq, Nat.reduceLeDiff, Nat.reduceSub, List.reduceReplicate, Nat.reduceMul, Int.reduceToNat, Int.toNat_natCast, Nat.reducePow, reduceIte]; refine hK _ ?_; clear hK K
        refine HW_true rfl ?_
        (repeat first | refine hseqQ_ret ?_ | refine hseqQ_exit ?_ | refine hblkQ_exit ?_ | refine hblkQ_other rfl ?_ | refine hblkQ_ret ?_ | refine hblkQ_normal ?_ | refine HW_seq ?_ | refine hseqQ_normal ?_ | refine HW_skip ?_ | refine HW_exit ?_ | refine HW_ret ?_)
        (repeat first | refine HW_seq ?_ | refine hseqQ_normal ?_ | refine HW_skip ?_ | refine hblkQ_normal ?_ | refine HW_block ?_); refine HW_reg (fun K hK => ?_); simp (maxSteps := 2000000) (disch := omega) only [push_cast, ↓Int.cast_ofNat_Int, Nat.reduceBEq, Nat.reduceAdd, Nat.reduceLT, Nat.reduceEqDiff, reduceIte, reduceCtorEq, Nat.reduceLeDiff, Nat.reduceSub, List.reduceReplicate, Nat.reduceMul, Int.reduceToNat, Int.toNat_natCast, Nat.reducePow, reduceIte]; refine hK _ ?_; clear hK K
        (repeat first | refine hseqQ_ret ?_ | refine hseqQ_exit ?_ | refine hblkQ_exit ?_ | refine hblkQ_other rfl ?_ | refine hblkQ_ret ?_ | refine hblkQ_normal ?_ | refine HW_seq ?_ | refine hseqQ_normal ?_ | refine HW_skip ?_ | refine HW_exit ?_ | refine HW_ret ?_)
        refine ⟨⟨k + 1, x'⟩, ?_, ⟨?_, ?_, ?_, ?_⟩, ?_⟩
        · simp only [keep_eq, hkeep_nil, hkeep_cons, rkeep_nil, rkeep_cons, hlk_nil, hlk_cons, rlk_nil, rlk_cons, Nat.reduceEqDiff, reduceIte]; rfl
        · show k + 1 ≤ 9; omega
        · show x' < 128 ^ (k + 1)
          rw [hx', Nat.pow_succ]
          have : m * 128 ^ k ≤ 127 * 128 ^ k := Nat.mul_le_mul_right _ (by omega)
          omega
        · show i + (k + 1) ≤ s.size; omega
        · show vread s i = vrd ((sb s).drop (i + (k + 1))) (k + 1) x'
          rw [hv, hd, vrd, if_neg h9, if_pos h128, ← hm, ← hx']; rfl
        · show s.size - (k + 1) < s.size - k; omega
      · (repeat first | refine HW_seq ?_ | refine hseqQ_normal ?_ | refine HW_skip ?_ | refine hblkQ_normal ?_ | refine HW_block ?_); refine HW_reg (fun K hK => ?_); simp (maxSteps := 2000000) (disch := omega) only [push_cast, ↓Int.cast_ofNat_Int, Nat.reduceBEq, Nat.reduceAdd, Nat.reduceLT, Nat.reduceEqDiff, reduceIte, reduceCtorEq, Nat.reduceLeDiff, Nat.reduceSub, List.reduceReplicate, Nat.reduceMul, Int.reduceToNat, Int.toNat_natCast, Nat.reducePow, reduceIte]; refine hK _ ?_; clear hK K
        refine HW_false rfl ?_
        have hmc : m = c := by omega
        rcases (show (c = 0 ∧ 0 < k) ∨ (c = 0 ∧ k = 0) ∨ c ≠ 0 by omega) with ⟨h3, h4⟩ | ⟨h3, h4⟩ | h3
        · (repeat first | refine HW_seq ?_ | refine hseqQ_normal ?_ | refine HW_skip ?_ | refine hblkQ_normal ?_ | refine HW_block ?_); refine HW_reg (fun K hK => ?_); simp (maxSteps := 2000000) (disch := omega) only [push_cast, ↓Int.cast_ofNat_Int, Nat.reduceBEq, Nat.reduceAdd, Nat.reduceLT, Nat.reduceEqDiff, reduceIte, reduceCtorEq, Nat.reduceLeDiff, Nat.reduceSub, List.reduceReplicate, Nat.reduceMul, Int.reduceToNat, Int.toNat_natCast, Nat.reducePow, reduceIte]; refine hK _ ?_; clear hK K
          refine HW_true rfl ?_
          (repeat first | refine HW_seq ?_ | refine hseqQ_normal ?_ | refine HW_skip ?_ | refine hblkQ_normal ?_ | refine HW_block ?_); refine HW_reg (fun K hK => ?_); simp (maxSteps := 2000000) (disch := omega) only [push_cast, ↓Int.cast_ofNat_Int, Nat.reduceBEq, Nat.reduceAdd, Nat.reduceLT, Nat.reduceEqDiff, reduceIte, reduceCtorEq, Nat.reduceLeDiff, Nat.reduceSub, List.reduceReplicate, Nat.reduceMul, Int.reduceToNat, Int.toNat_natCast, Nat.reducePow, reduceIte]; refine hK _ ?_; clear hK K
          (repeat first | refine hseqQ_ret ?_ | refine hseqQ_exit ?_ | refine hblkQ_exit ?_ | refine hblkQ_other rfl ?_ | refine hblkQ_ret ?_ | refine hblkQ_normal ?_ | refine HW_seq ?_ | refine hseqQ_normal ?_ | refine HW_skip ?_ | refine HW_exit ?_ | refine HW_ret ?_)
          simp only [hrcvQ_normal, hrcvQ_ret, hfunQ_normal, hfunQ_ret, resH_nil, resH_cons, resH_cell, resC_go, htup_one, htup_two, hlk_nil, hlk_cons, Nat.reduceEqDiff, reduceIte, reduceCtorEq]
          have e2 : vread s i = (0, 0, 3) := by rw [hv, hd, vrd, if_neg h9, if_neg h128, if_pos ⟨h3, h4⟩]
          exact hrcv_t (cells := rdr s i) (xs := [.int .u64 0, .int .i64 0, .int .i64 3]) rfl rfl ⟨by rw [e2]; rfl, rfl⟩
        all_goals first
          | (exfalso; omega)
          | skip
        all_goals
          (repeat first | refine HW_seq ?_ | refine hseqQ_normal ?_ | refine HW_skip ?_ | refine hblkQ_normal ?_ | refine HW_block ?_); refine HW_reg (fun K hK => ?_); simp (maxSteps := 2000000) (disch := omega) only [push_cast, ↓Int.cast_ofNat_Int, Nat.reduceBEq, Nat.reduceAdd, Nat.reduceLT, Nat.reduceEqDiff, reduceIte, reduceCtorEq, Nat.reduceLeDiff, Nat.reduceSub, List.reduceReplicate, Nat.reduceMul, Int.reduceToNat, Int.toNat_natCast, Nat.reducePow, reduceIte]; refine hK _ ?_; clear hK K
          refine HW_false rfl ?_
          (repeat first | refine HW_seq ?_ | refine hseqQ_normal ?_ | refine HW_skip ?_ | refine hblkQ_normal ?_ | refine HW_block ?_)
          (repeat first | refine HW_seq ?_ | refine hseqQ_normal ?_ | refine HW_skip ?_ | refine hblkQ_normal ?_ | refine HW_block ?_); refine HW_drw 11 mixed (by kernel_rfl) (fun K hK => ?_); simp (maxSteps := 2000000) (disch := omega) only [push_cast, ↓Int.cast_ofNat_Int, Nat.reduceBEq, Nat.reduceAdd, Nat.reduceLT, Nat.reduceEqDiff, reduceIte, reduceCtorEq, Nat.reduceLeDiff, Nat.reduceSub, List.reduceReplicate, Nat.reduceMul, Int.reduceToNat, Int.toNat_natCast, Nat.reducePow, reduceIte]
          with_reducible refine hstop ?_; simp (maxSteps := 2000000) (disch := omega) only [push_cast, ↓Int.cast_ofNat_Int, Nat.reduceBEq, Nat.reduceAdd, Nat.reduceLT, Nat.reduceEqDiff, reduceIte, reduceCtorEq, Nat.reduceLeDiff, Nat.reduceSub, List.reduceReplicate, Nat.reduceMul, Int.reduceToNat, Int.toNat_natCast, Nat.reducePow, reduceIte]
          refine hK _ ?_; clear hK K
          (repeat first | refine hseqQ_ret ?_ | refine hseqQ_exit ?_ | refine hblkQ_exit ?_ | refine hblkQ_other rfl ?_ | refine hblkQ_ret ?_ | refine hblkQ_normal ?_ | refine HW_seq ?_ | refine hseqQ_normal ?_ | refine HW_skip ?_ | refine HW_exit ?_ | refine HW_ret ?_)
          simp only [hrcvQ_normal, hrcvQ_ret, hfunQ_normal, hfunQ_ret, resH_nil, resH_cons, resH_cell, resC_go, htup_one, htup_two, hlk_nil, hlk_cons, Nat.reduceEqDiff, reduceIte, reduceCtorEq]
          have e2 : vread s i = (x', k + 1, 0) := by rw [hv, hd, vrd, if_neg h9, if_neg h128, if_neg (by omega), hx', hmc]
          exact hrcv_t (cells := rdr s i) (xs := [.int .u64 x', .int .i64 (i + k + 1), .int .i64 0]) rfl rfl ⟨by rw [e2]; rfl, rfl⟩
  · (repeat first | refine HW_seq ?_ | refine hseqQ_normal ?_ | refine HW_skip ?_ | refine hblkQ_normal ?_ | refine HW_block ?_); refine HW_drw 12 mixed (by kernel_rfl) (fun K hK => ?_); simp (maxSteps := 2000000) (disch := omega) only [push_cast, ↓Int.cast_ofNat_Int, Nat.reduceBEq, Nat.reduceAdd, Nat.reduceLT, Nat.reduceEqDiff, reduceIte, reduceCtorEq, Nat.reduceLeDiff, Nat.reduceSub, List.reduceReplicate, Nat.reduceMul, Int.reduceToNat, Int.toNat_natCast, Nat.reducePow, reduceIte]
    with_reducible refine hstop ?_; simp (maxSteps := 2000000) (disch := omega) only [push_cast, ↓Int.cast_ofNat_Int, Nat.reduceBEq, Nat.reduceAdd, Nat.reduceLT, Nat.reduceEqDiff, reduceIte, reduceCtorEq, Nat.reduceLeDiff, Nat.reduceSub, List.reduceReplicate, Nat.reduceMul, Int.reduceToNat, Int.toNat_natCast, Nat.reducePow, reduceIte]
    refine hK _ ?_; clear hK K
    refine HW_true rfl ?_
    (repeat first | refine HW_seq ?_ | refine hseqQ_normal ?_ | refine HW_skip ?_ | refine hblkQ_normal ?_ | refine HW_block ?_); refine HW_reg (fun K hK => ?_); simp (maxSteps := 2000000) (disch := omega) only [push_cast, ↓Int.cast_ofNat_Int, Nat.reduceBEq, Nat.reduceAdd, Nat.reduceLT, Nat.reduceEqDiff, reduceIte, reduceCtorEq, Nat.reduceLeDiff, Nat.reduceSub, List.reduceReplicate, Nat.reduceMul, Int.reduceToNat, Int.toNat_natCast, Nat.reducePow, reduceIte]; refine hK _ ?_; clear hK K
    (repeat first | refine hseqQ_ret ?_ | refine hseqQ_exit ?_ | refine hblkQ_exit ?_ | refine hblkQ_other rfl ?_ | refine hblkQ_ret ?_ | refine hblkQ_normal ?_ | refine HW_seq ?_ | refine hseqQ_normal ?_ | refine HW_skip ?_ | refine HW_exit ?_ | refine HW_ret ?_)
    simp only [hrcvQ_normal, hrcvQ_ret, hfunQ_normal, hfunQ_ret, resH_nil, resH_cons, resH_cell, resC_go, htup_one, htup_two, hlk_nil, hlk_cons, Nat.reduceEqDiff, reduceIte, reduceCtorEq]
    have e : i + k = s.size := by omega
    have e2 : vread s i = (0, 0, 2) := by rw [hv, e, List.drop_of_length_le (by rw [sb_len]; exact Nat.le_refl _), vrd]
    exact hrcv_t (cells := rdr s i) (xs := [.int .u64 0, .int .i64 0, .int .i64 2]) rfl rfl ⟨by rw [e2]; rfl, rfl⟩
end Go.Proofs.Ytppnicpbncfhnaa
