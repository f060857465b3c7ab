/-
  The hunk laws' awake.
-/
import Derived.Test.YtfojmpimnidmkaaHnk
import Derived.Test.YtfojmpimnidmkaaSmS
set_option linter.unusedSimpArgs false
set_option linter.unusedVariables false
set_option maxRecDepth 20000
namespace Go.Proofs.Ytfojmpimnidmkaa
open Go Go.Eng Go.RowKit Go.DiffM
def chA : ByteArray := { data := #[97] }
def chB : ByteArray := { data := #[98] }
def chC : ByteArray := { data := #[99] }
def chX : ByteArray := { data := #[120] }
theorem between_abc : between [chA, chB, chC] [chA, chX, chC] 0 = [⟨1, [chB], [chX]⟩] := by kernel_rfl
set_option maxHeartbeats 8000000 in
theorem hawake_H : HFun Try.prog 6 [] (fun h st => h = .v (.bool true)) := by
 have h1 := between_H [chA, chB, chC] [chA, chX, chC] 0 (by omega) (by omega)
 refine hfun (N := 39) Try.func6 rfl Try.ntmps6 Try.results6 (by simp) ?_
 (repeat first | refine zE ?_ | refine zA ?_ | refine zC ?_ | refine zB ?_ | refine zD ?_); refine zJ (fun K hK => ?_); simp (maxSteps := 2000000) (disch := omega) only [push_cast, ↓Int.cast_ofNat_Int, Nat.reduceBEq, Nat.reduceAdd, Nat.reduceLT, Nat.reduceEqDiff, reduceIte, reduceCtorEq, Nat.reduceLeDiff, Nat.reduceSub, List.reduceReplicate, Nat.reduceMul, Int.reduceToNat, Int.toNat_natCast, Nat.reducePow, reduceIte]; refine hK _ ?_; clear hK K
 (repeat first | refine zE ?_ | refine zA ?_ | refine zC ?_ | refine zB ?_ | refine zD ?_); refine zJ (fun K hK => ?_); simp (maxSteps := 2000000) (disch := omega) only [push_cast, ↓Int.cast_ofNat_Int, Nat.reduceBEq, Nat.reduceAdd, Nat.reduceLT, Nat.reduceEqDiff, reduceIte, reduceCtorEq, Nat.reduceLeDiff, Nat.reduceSub, List.reduceReplicate, Nat.reduceMul, Int.reduceToNat, Int.toNat_natCast, Nat.reducePow, reduceIte]
 refine hat 48 cl4 h1 (.cons (lendO (strs_old [chA, chB, chC]) rfl) (.cons (lendO (strs_old [chA, chX, chC]) rfl) (.cons (.v _) .nil))) ?_
 rintro _ _ (⟨h, _⟩ | ⟨_, h, _⟩ | ⟨_, _, _, rfl, rfl⟩)
 ·exact absurd h (by omega)
 ·exact absurd h (by simp)
 rw [show (min (0 : Int) 400).toNat = 0 by rfl, between_abc, show rowH [⟨1, [chB], [chX]⟩] = .sl true 33 3 [[.v (.int .i64 1), .lst true [[.v (.string chB)]], .lst true [[.v (.string chX)]]]] by rfl]
 with_reducible refine hstop ?_; simp (maxSteps := 2000000) (disch := omega) only [push_cast, ↓Int.cast_ofNat_Int, Nat.reduceBEq, Nat.reduceAdd, Nat.reduceLT, Nat.reduceEqDiff, reduceIte, reduceCtorEq, Nat.reduceLeDiff, Nat.reduceSub, List.reduceReplicate, Nat.reduceMul, Int.reduceToNat, Int.toNat_natCast, Nat.reducePow, reduceIte]
 refine hK _ ?_; clear hK K
 refine yB [0, 1, 2] [48] (by simp only [zZ, zR, zP, zQ, zN, zS, zM, zX, zU, Nat.reduceEqDiff, reduceIte]; exact rfl) ?_
 (repeat first | refine zE ?_ | refine zA ?_ | refine zC ?_ | refine zB ?_ | refine zD ?_); refine zJ (fun K hK => ?_); simp (maxSteps := 2000000) (disch := omega) only [push_cast, ↓Int.cast_ofNat_Int, Nat.reduceBEq, Nat.reduceAdd, Nat.reduceLT, Nat.reduceEqDiff, reduceIte, reduceCtorEq, Nat.reduceLeDiff, Nat.reduceSub, List.reduceReplicate, Nat.reduceMul, Int.reduceToNat, Int.toNat_natCast, Nat.reducePow, reduceIte]
 refine hatv cl8 (same_H [chB] [chB]) (.cons (lendL (strs_old [chB])) (.cons (lendO (strs_old [chB]) rfl) .nil)) ?_
 rw [decide_eq_true rfl]
 with_reducible refine hstop ?_; simp (maxSteps := 2000000) (disch := omega) only [push_cast, ↓Int.cast_ofNat_Int, Nat.reduceBEq, Nat.reduceAdd, Nat.reduceLT, Nat.reduceEqDiff, reduceIte, reduceCtorEq, Nat.reduceLeDiff, Nat.reduceSub, List.reduceReplicate, Nat.reduceMul, Int.reduceToNat, Int.toNat_natCast, Nat.reducePow, reduceIte]
 refine hatv cl8 (same_H [chX] [chX]) (.cons (lendL (strs_old [chX])) (.cons (lendO (strs_old [chX]) rfl) .nil)) ?_
 rw [decide_eq_true rfl]
 with_reducible refine hstop ?_; simp (maxSteps := 2000000) (disch := omega) only [push_cast, ↓Int.cast_ofNat_Int, Nat.reduceBEq, Nat.reduceAdd, Nat.reduceLT, Nat.reduceEqDiff, reduceIte, reduceCtorEq, Nat.reduceLeDiff, Nat.reduceSub, List.reduceReplicate, Nat.reduceMul, Int.reduceToNat, Int.toNat_natCast, Nat.reducePow, reduceIte]
 refine hK _ ?_; clear hK K
 (repeat first | refine zK ?_ | refine zG ?_ | refine zH ?_ | refine zF rfl ?_ | refine zL ?_ | refine zB ?_ | refine zE ?_ | refine zA ?_ | refine zC ?_ | refine zT ?_ | refine zW ?_)
 simp only [yA, yM, yH, yE, resH_cell, resC_go, yK, yJ, zS, zM, Nat.reduceEqDiff, reduceIte, reduceCtorEq]
 exact hres_v rfl
theorem hunk_size {α : Type} (a b : List α) (r : Nat) (s : Sp) : (hunkOf a b r s).new.length ≤ b.length ∧ (hunkOf a b r s).old.length ≤ a.length := by
 simp only [hunkOf, List.length_drop, List.length_take]; omega
end Go.Proofs.Ytfojmpimnidmkaa
