/-
  DiffMakes: for every two lists. No condition.
-/
import Derived.Test.YtlfenddhppoflaaRows
import Derived.Test.YtlfenddhppoflaaMakes
import Derived.Test.YtlfenddhppoflaaOpen
set_option linter.unusedVariables false
namespace Go.Proofs.Ytlfenddhppoflaa
open Go Go.Eng Go.RowKit Go.ChangeShapes Go.WideShapes Go.ChangeAt

theorem own : ownKnob Try.prog.godebug = none := by kernel_rfl
theorem laidOut : laidOutB Try.prog = true := by kernel_rfl
theorem cells9 : Try.prog.cellsOf 9 = 1 := by kernel_rfl
set_option maxRecDepth 100000 in
theorem lifted_makes (os : Os) (started : os.Started) (H : Type) (enc : TypeId × Value → H) :
    ReturnsInHanded {} Try.checked os 3 .any (Rows.diffMakesSpec.pre6 enc Try.prog Try.f3 Rows.diffMakesRow.domain false) (Rows.diffMakesSpec.post enc Try.prog Try.f3 false true false false) := by
  refine returnsInHanded_of_change (C := Try.checked) own started (by kernel_rfl) Try.func3
    (ChangeSpec.witness6 (enc := enc) (C := Try.checked) false ⟨#[], #[.slice none 0 0, .slice none 0 0], []⟩ 8 (by kernel_rfl) (by kernel_rfl) (by kernel_rfl) (by kernel_rfl)) ?_
  intro W base args ds gs before hval0 hW hcnd _
  have hval : ∀ (j : Nat) t v, Try.f3.params[j]? = some t → args[j]? = some v → Value.okWide Try.prog W .any base t v := hval0
  have hW' := hW
  obtain ⟨p, q, hA0, hV, rfl, hfz, hnd⟩ := hW
  have hA : DataW.TrodAll enc Try.prog W 0 (fun _ => true) true Try.f3.params.toList args.toList ds p := hA0
  rw [Try.params3] at hA hval
  have hA1 := hA
  obtain ⟨v0, vs0, d0, ds0, p0, q0, hargs, rfl, rfl, h0, r0⟩ := trodAll_cons hA
  obtain ⟨v1, vs1, d1, ds1, p1, q1, rfl, rfl, rfl, h1, r1⟩ := trodAll_cons r0
  obtain ⟨rfl, rfl, rfl⟩ := trodAll_nil r1
  obtain rfl : args = #[v0, v1] := by cases args; simp_all
  obtain ⟨rfl, rfl⟩ := trodVars_none hV
  obtain ⟨a, ha⟩ := open_sls Try.underlying22 Try.underlying9 cells9 (hval 0 22 v0 rfl rfl) h0
  obtain ⟨b, hb⟩ := open_sls Try.underlying22 Try.underlying9 cells9 (hval 1 22 v1 rfl rfl) h1
  refine (ret_calls (makes_calls W v0 v1 a b ha hb)).mono fun e W' ⟨_, he, hr, bel⟩ => ?_
  subst he; subst hr
  exact ⟨_, rfl, _, _, _, [], _, [], hW', trodAll_mk1 (shut_bool Try.underlying4 _), trodAll_kept laidOut bel _ _ _ _ (by kernel_rfl) hA1, rfl, bel.frame _, fun h => by cases h⟩
theorem makes_holds : Rows.DiffMakesSaid :=
  OpenClaim.holds_of_wide 3 Try.f3 rfl rfl rfl rfl rfl rfl rfl ⟨rfl, rfl, rfl, rfl, rfl⟩ rfl rfl rfl rfl rfl (by kernel_rfl) Try.func3 (by kernel_rfl)
    (of_decide_eq_true (by kernel_rfl)) (by unfold Func.isWrapper; first | (rw [if_pos (by decide +kernel)]; kernel_rfl) | (rw [if_neg (by decide +kernel)]; exact ⟨rfl, rfl⟩))
    (fun os started H enc _ => lifted_makes os started H enc)
#print axioms makes_holds
end Go.Proofs.Ytlfenddhppoflaa
