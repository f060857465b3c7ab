/-
  wire.Int; Reader.varint.
-/
import Derived.Test.YtppnicpbncfhnaaPut
import Derived.Test.YtppnicpbncfhnaaRdr
set_option linter.unusedSimpArgs false
set_option linter.unusedVariables false
set_option maxRecDepth 20000
namespace Go.Proofs.Ytppnicpbncfhnaa
open Go Go.Eng Go.RowKit

theorem wu64 (n : Int) : IntKind.u64.wrap n = n % 18446744073709551616 := by simp [IntKind.wrap, IntKind.bits, IntKind.signed]
def zz (n : Int) : Int := bits .xor .u64 (IntKind.u64.wrap (IntKind.u64.wrap n * 2 ^ min 1 IntKind.u64.bits)) (IntKind.u64.wrap (n.fdiv (2 ^ min 63 IntKind.i64.bits)))
theorem zz_eq (n : Int) : bits .xor .u64 (IntKind.u64.wrap (IntKind.u64.wrap n * 2 ^ min 1 IntKind.u64.bits)) (IntKind.u64.wrap (n.fdiv (2 ^ min 63 IntKind.i64.bits))) = zz n := rfl
theorem zz_pos {x : Nat} (h : x ≤ 9223372036854775807) : zz x = ((2 * x : Nat) : Int) := by
  unfold zz
  rw [show min 63 IntKind.i64.bits = 63 from rfl, show min 1 IntKind.u64.bits = 1 from rfl, Int.fdiv_eq_ediv_of_nonneg _ (by decide), show (x : Int) / 2 ^ 63 = 0 by omega]
  rw [show IntKind.u64.wrap (IntKind.u64.wrap x * 2 ^ 1) = ((2 * x : Nat) : Int) by rw [wu64, wu64]; omega, show IntKind.u64.wrap 0 = 0 from rfl]
  show IntKind.u64.wrap ((BitVec.ofInt 64 ((2 * x : Nat) : Int) ^^^ BitVec.ofInt 64 0).toNat : Nat) = _
  rw [show BitVec.ofInt 64 0 = 0#64 from rfl, BitVec.xor_zero, BitVec.toNat_ofInt, wu64]
  omega
theorem zz_neg {y : Nat} (h : y ≤ 9223372036854775807) : zz (-(y : Int) - 1) = ((2 * y + 1 : Nat) : Int) := by
  unfold zz
  rw [show min 63 IntKind.i64.bits = 63 from rfl, show min 1 IntKind.u64.bits = 1 from rfl, Int.fdiv_eq_ediv_of_nonneg _ (by decide), show (-(y : Int) - 1) / 2 ^ 63 = -1 by omega]
  rw [show IntKind.u64.wrap (IntKind.u64.wrap (-(y : Int) - 1) * 2 ^ 1) = ((18446744073709551614 - 2 * y : Nat) : Int) by rw [wu64, wu64]; omega, show IntKind.u64.wrap (-1) = 18446744073709551615 from rfl]
  show IntKind.u64.wrap ((BitVec.ofInt 64 ((18446744073709551614 - 2 * y : Nat) : Int) ^^^ BitVec.ofInt 64 18446744073709551615).toNat : Nat) = _
  rw [show BitVec.ofInt 64 18446744073709551615 = BitVec.allOnes 64 from rfl, BitVec.xor_allOnes, BitVec.toNat_not, BitVec.toNat_ofInt, wu64]
  omega
set_option maxHeartbeats 2000000 in
theorem int_H (n : Int) (h1 : -9223372036854775808 ≤ n) (h2 : n ≤ 9223372036854775807) : HFun Try.prog 21 [.v (.int .i64 n)] (fun h st => h = .v (.string (refInt n))) := by
  refine hfun (N := 11) Try.func21 rfl Try.ntmps21 Try.results21 (by simp) ?_
  (repeat first | refine HW_seq ?_ | refine hseqQ_normal ?_ | refine HW_skip ?_ | refine hblkQ_normal ?_ | refine HW_block ?_); refine HW_reg (fun K hK => ?_); simp (maxSteps := 2000000) (disch := omega) only [push_cast, ↓Int.cast_ofNat_Int, Nat.reduceBEq, Nat.reduceAdd, Nat.reduceLT, Nat.reduceEqDiff, reduceIte, reduceCtorEq, Nat.reduceLeDiff, Nat.reduceSub, List.reduceReplicate, Nat.reduceMul, Int.reduceToNat, Int.toNat_natCast, Nat.reducePow, reduceIte]; refine hK _ ?_; clear hK K
  have e : zz n = ((if n ≥ 0 then 2 * n.toNat else 2 * (-(n + 1)).toNat + 1 : Nat) : Int) := by
    split
    · obtain ⟨x, rfl⟩ : ∃ x : Nat, n = x := ⟨n.toNat, by omega⟩
      rw [zz_pos (by omega), Int.toNat_natCast]
    · obtain ⟨y, rfl⟩ : ∃ y : Nat, n = -(y : Int) - 1 := ⟨(-(n + 1)).toNat, by omega⟩
      rw [zz_neg (by omega), show (-(-(y : Int) - 1 + 1)).toNat = y by omega]
  obtain ⟨z, hz⟩ : ∃ z : Nat, z = if n ≥ 0 then 2 * n.toNat else 2 * (-(n + 1)).toNat + 1 := ⟨_, rfl⟩
  rw [← hz] at e
  (repeat first | refine HW_seq ?_ | refine hseqQ_normal ?_ | refine HW_skip ?_ | refine hblkQ_normal ?_ | refine HW_block ?_); refine HW_reg (fun K hK => ?_); simp (maxSteps := 2000000) (disch := omega) only [push_cast, ↓Int.cast_ofNat_Int, Nat.reduceBEq, Nat.reduceAdd, Nat.reduceLT, Nat.reduceEqDiff, reduceIte, reduceCtorEq, Nat.reduceLeDiff, Nat.reduceSub, List.reduceReplicate, Nat.reduceMul, Int.reduceToNat, Int.toNat_natCast, Nat.reducePow, reduceIte, zz_eq, e]
  refine ⟨by decide, by decide, ?_⟩
  refine hatv cl55 (put_H z (by rw [hz]; split <;> omega)) (.cons (.v _) .nil) ?_
  with_reducible refine hstop ?_; simp (maxSteps := 2000000) (disch := omega) only [push_cast, ↓Int.cast_ofNat_Int, Nat.reduceBEq, Nat.reduceAdd, Nat.reduceLT, Nat.reduceEqDiff, reduceIte, reduceCtorEq, Nat.reduceLeDiff, Nat.reduceSub, List.reduceReplicate, Nat.reduceMul, Int.reduceToNat, Int.toNat_natCast, Nat.reducePow, reduceIte]
  refine hK _ ?_; clear hK K
  (repeat first | refine hseqQ_ret ?_ | refine hseqQ_exit ?_ | refine hblkQ_exit ?_ | refine hblkQ_other rfl ?_ | refine hblkQ_ret ?_ | refine hblkQ_normal ?_ | refine HW_seq ?_ | refine hseqQ_normal ?_ | refine HW_skip ?_ | refine HW_exit ?_ | refine HW_ret ?_)
  simp only [hfunQ_normal, hfunQ_ret, resH_nil, resH_cons, resH_cell, resC_go, htup_one, htup_two, hlk_nil, hlk_cons, Nat.reduceEqDiff, reduceIte, reduceCtorEq]
  exact hres_v (by rw [refInt, hz]; split <;> rfl)
def emptyS : ByteArray := ⟨#[]⟩
end Go.Proofs.Ytppnicpbncfhnaa
