/-
  DiffScripts: for every input. No condition.
-/
import Derived.Test.YtlfenddhppoflaaRows
import Derived.Test.YtlfenddhppoflaaScrL
import Derived.Test.YtlfenddhppoflaaOpn
import Derived.Test.YtlfenddhppoflaaLift
set_option linter.unusedVariables false
namespace Go.Proofs.Ytlfenddhppoflaa
open Go Go.Eng Go.RowKit Go.ChangeShapes Go.WideShapes Go.ChangeAt

theorem ownDiffScripts : ownKnob Try.prog.godebug = none := by kernel_rfl
theorem laidOutDiffScripts : laidOutB Try.prog = true := by kernel_rfl
theorem shapeDiffScripts0 : shOf Try.prog 8 22 = some [.sl 16 [.str]] := by kernel_rfl
theorem shapeDiffScripts1 : shOf Try.prog 8 22 = some [.sl 16 [.str]] := by kernel_rfl
set_option maxRecDepth 100000 in
theorem liftedDiffScripts (os : Os) (started : os.Started) (H : Type) (enc : TypeId × Value → H) :
    ReturnsInHanded {} Try.checked os 5 .any (Rows.diffScriptsSpec.pre6 enc Try.prog Try.f5 Rows.diffScriptsRow.domain false) (Rows.diffScriptsSpec.post enc Try.prog Try.f5 false true false false) := by
  refine returnsInHanded_of_change_sized (C := Try.checked) ownDiffScripts started (by kernel_rfl) Try.func5
    (ChangeSpec.witness6 (enc := enc) (C := Try.checked) false ⟨#[], #[.slice none 0 0, .slice none 0 0], []⟩ 8 (by kernel_rfl) (by kernel_rfl) (by kernel_rfl) (by kernel_rfl)) ?_
  intro W base args ds gs before hval0 hW hcnd hsz _
  have hval : ∀ (j : Nat) t v, Try.f5.params[j]? = some t → args[j]? = some v → Value.okWide Try.prog W .any base t v := hval0
  have hW' := hW
  obtain ⟨p, q, hA0, hV, rfl, hfz, hnd⟩ := hW
  have hA : DataW.TrodAll enc Try.prog W 0 (fun _ => true) true Try.f5.params.toList args.toList ds p := hA0
  rw [Try.params5] at hA hval
  have hsz1 : (DataW.weightsEach Try.prog (Try.f5.params.toList ++ Rows.diffScriptsSpec.plain.varTypes Try.prog) (ds ++ gs)).all (· ≤ reachBytes) = true := hsz
  rw [Try.params5] at hsz1
  have hA1 := hA
  obtain ⟨v0, vs0, d0, ds0, p0, q0, hargs, rfl, rfl, h0, r0⟩ := trodAll_cons hA
  obtain ⟨v1, vs1, d1, ds1, p1, q1, rfl, rfl, rfl, h1, r1⟩ := trodAll_cons r0
  obtain ⟨rfl, rfl, rfl⟩ := trodAll_nil r1
  obtain rfl : args = #[v0, v1] := by cases args; simp_all
  obtain ⟨rfl, rfl⟩ := trodVars_none hV
  obtain ⟨f0, hF0, hfit0⟩ := open_one (n0 := W.heap.size) shapeDiffScripts0 (cell_slice Try.underlying22 (hval 0 22 v0 rfl rfl)) h0 (fun m hm => all_le hsz1 (weightsEach_mem (i := 0) (t := 22) (d := d0) rfl rfl hm))
  obtain ⟨a0, rfl, hs0⟩ := fit_strs hfit0
  have hs0 : _ ≤ 140737488351232 := Nat.le_trans hs0 (by decide)
  obtain ⟨f1, hF1, hfit1⟩ := open_one (n0 := W.heap.size) shapeDiffScripts1 (cell_slice Try.underlying22 (hval 1 22 v1 rfl rfl)) h1 (fun m hm => all_le hsz1 (weightsEach_mem (i := 1) (t := 22) (d := d1) rfl rfl hm))
  obtain ⟨a1, rfl, hs1⟩ := fit_strs hfit1
  have hs1 : _ ≤ 140737488351232 := Nat.le_trans hs1 (by decide)
  refine (ret_calls (law_calls (diffScripts_H a0 a1 hs0 hs1) (reps_cons' (RepF.toH hF0) (reps_cons' (RepF.toH hF1) reps_nil')))).mono fun e W' ⟨_, he, hr, bel⟩ => ?_
  subst he; subst hr
  exact ⟨_, rfl, _, _, _, [], _, [], hW', trodAll_mk1 (shut_bool Try.underlying4 _), trodAll_kept laidOutDiffScripts bel _ _ _ _ (by kernel_rfl) hA1, rfl, bel.frame _, fun h => by cases h⟩
theorem diffScripts_holds : Rows.DiffScriptsSaid :=
  OpenClaim.holds_of_wide 5 Try.f5 rfl rfl rfl rfl rfl rfl rfl ⟨rfl, rfl, rfl, rfl, rfl⟩ rfl rfl rfl rfl rfl (by kernel_rfl) Try.func5 (by kernel_rfl)
    (of_decide_eq_true (by kernel_rfl)) (by unfold Func.isWrapper; first | (rw [if_pos (by decide +kernel)]; kernel_rfl) | (rw [if_neg (by decide +kernel)]; exact ⟨rfl, rfl⟩))
    (fun os started H enc _ => liftedDiffScripts os started H enc)
#print axioms diffScripts_holds
end Go.Proofs.Ytlfenddhppoflaa
