/- What the walk of the law stands on. -/
import Derived.Test.YtlfenddhppoflaaMgG
set_option linter.unusedSimpArgs false
set_option linter.unusedVariables false
set_option maxRecDepth 20000
namespace Go.Proofs.Ytlfenddhppoflaa
open Go Go.Eng Go.RowKit Go.DiffM
section
variable {α : Type} [DecidableEq α] {A B C X Y : α}
theorem kn_ex1 (h1 : A ≠ X) (h2 : B ≠ X) (h3 : C ≠ X) (h4 : A ≠ B) (h5 : A ≠ C) (h6 : B ≠ C) : kn [A, B, C] [X, B, C] = [(1, 1), (2, 2)] := by
 simp [kn, steps, lcs, knS, h1, h2, h3, h4, h5, h6, Ne.symm h1, Ne.symm h2, Ne.symm h3, Ne.symm h4, Ne.symm h5, Ne.symm h6]
theorem kn_ex2 (h1 : C ≠ Y) : kn [A, B, C] [A, B, Y] = [(0, 0), (1, 1)] := by
 simp [kn, steps, lcs, knS, h1]
theorem chunks_ex [Inhabited α] (h1 : A ≠ X) (h2 : B ≠ X) (h3 : C ≠ X) (h4 : A ≠ B) (h5 : A ≠ C) (h6 : B ≠ C) (h7 : C ≠ Y) : chunks [A, B, C] [X, B, C] [A, B, Y] = [⟨false, [A], [X], [A]⟩, ⟨true, [B], [B], [B]⟩, ⟨false, [C], [C], [Y]⟩] := by
 rw [chunks, kn_ex1 h1 h2 h3 h4 h5 h6, kn_ex2 h7]
 rfl
end
def exO : ByteArray := { data := #[97, 10, 98, 10, 99, 10] }
def exL : ByteArray := { data := #[120, 10, 98, 10, 99, 10] }
def exR : ByteArray := { data := #[97, 10, 98, 10, 121, 10] }
def exM : ByteArray := { data := #[120, 10, 98, 10, 121, 10] }
def l1 (b : UInt8) : ByteArray := { data := #[b, 10] }
theorem ex_text : textS exO = 0 ∧ textS exL = 0 ∧ textS exR = 0 := by decide +kernel
theorem ex_spl : splS exO = [l1 97, l1 98, l1 99] ∧ splS exL = [l1 120, l1 98, l1 99] ∧ splS exR = [l1 97, l1 98, l1 121] := by decide +kernel
theorem ex_chunks : chunksS exO exL exR = [⟨false, [l1 97], [l1 120], [l1 97]⟩, ⟨true, [l1 98], [l1 98], [l1 98]⟩, ⟨false, [l1 99], [l1 99], [l1 121]⟩] := by
 show chunks (splS exO) (splS exL) (splS exR) = _
 rw [ex_spl.1, ex_spl.2.1, ex_spl.2.2]
 exact chunks_ex (by decide +kernel) (by decide +kernel) (by decide +kernel) (by decide +kernel) (by decide +kernel) (by decide +kernel) (by decide +kernel)
theorem ex_merge : mgTx exO exL exR = exM ∧ mgNn exO exL exR = 0 ∧ mgErr exO exL exR = 0 := by
 have hE := mgE_zero ex_text.1 ex_text.2.1 ex_text.2.2
 rw [mgTx, mgNn, if_neg (by simpa using hE), if_neg (by simpa using hE), ex_chunks]
 exact ⟨by decide +kernel, by decide +kernel, hE⟩

set_option maxHeartbeats 4000000 in
theorem mawake_H : HFun Try.prog 49 [] (fun h st => h = .v (.bool true)) := by
 refine hfun (N := 25) Try.func49 rfl Try.ntmps49 Try.results49 (by simp) ?_
 have M := merge_H exO exL exR (by decide) (by decide) (by decide)
 rw [ex_merge.1, ex_merge.2.1, ex_merge.2.2] at M
 (repeat first | refine qE ?_ | refine qA ?_ | refine qC ?_ | refine qB ?_ | refine qD ?_); refine qJ (fun K hK => ?_); simp (maxSteps := 2000000) (disch := omega) only [push_cast, ↓Int.cast_ofNat_Int, Nat.reduceBEq, Nat.reduceAdd, Nat.reduceLT, Nat.reduceEqDiff, reduceIte, reduceCtorEq, Nat.reduceLeDiff, Nat.reduceSub, List.reduceReplicate, Nat.reduceMul, Int.reduceToNat, Nat.reducePow]; refine hK _ ?_; clear hK K
 (repeat first | refine qE ?_ | refine qA ?_ | refine qC ?_ | refine qB ?_ | refine qD ?_); refine qJ (fun K hK => ?_); simp (maxSteps := 2000000) (disch := omega) only [push_cast, ↓Int.cast_ofNat_Int, Nat.reduceBEq, Nat.reduceAdd, Nat.reduceLT, Nat.reduceEqDiff, reduceIte, reduceCtorEq, Nat.reduceLeDiff, Nat.reduceSub, List.reduceReplicate, Nat.reduceMul, Int.reduceToNat, Nat.reducePow]
 refine hatt (xs := [.string exM, .int .i64 0, .int .i64 0]) cl51 M (.cons (.v _) (.cons (.v _) (.cons (.v _) .nil))) ?_
 with_reducible refine hstop ?_; simp (maxSteps := 2000000) (disch := omega) only [push_cast, ↓Int.cast_ofNat_Int, Nat.reduceBEq, Nat.reduceAdd, Nat.reduceLT, Nat.reduceEqDiff, reduceIte, reduceCtorEq, Nat.reduceLeDiff, Nat.reduceSub, List.reduceReplicate, Nat.reduceMul, Int.reduceToNat, Nat.reducePow]
 refine hK _ ?_; clear hK K
 have e1 : exM = { data := #[120, 10, 98, 10, 121, 10] } := rfl
 (repeat first | refine qE ?_ | refine qA ?_ | refine qC ?_ | refine qB ?_ | refine qD ?_); refine qJ (fun K hK => ?_); simp (maxSteps := 2000000) (disch := omega) only [push_cast, ↓Int.cast_ofNat_Int, Nat.reduceBEq, Nat.reduceAdd, Nat.reduceLT, Nat.reduceEqDiff, reduceIte, reduceCtorEq, Nat.reduceLeDiff, Nat.reduceSub, List.reduceReplicate, Nat.reduceMul, Int.reduceToNat, Nat.reducePow, e1]; refine hK _ ?_; clear hK K
 (repeat first | refine qK ?_ | refine qG ?_ | refine qH ?_ | refine qF rfl ?_ | refine qL ?_ | refine qB ?_ | refine qE ?_ | refine qA ?_ | refine qC ?_ | refine qT ?_ | refine qW ?_)
 simp only [zA, zM, zH, zE, zK, zJ, qS, qM, Nat.reduceEqDiff, reduceIte, reduceCtorEq]
 exact hres_v rfl
end Go.Proofs.Ytlfenddhppoflaa
