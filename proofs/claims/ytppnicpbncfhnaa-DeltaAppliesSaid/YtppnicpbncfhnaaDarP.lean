/-
  DeltaApplies: for every input. No condition.
-/
import Derived.Test.YtppnicpbncfhnaaRows
import Derived.Test.YtppnicpbncfhnaaDar
import Derived.Test.YtppnicpbncfhnaaGd
set_option linter.unusedVariables false
namespace Go.Proofs.Ytppnicpbncfhnaa
open Go Go.Eng Go.RowKit Go.ChangeShapes Go.WideShapes Go.ChangeAt

theorem ownDeltaApplies : ownKnob Try.prog.godebug = none := by kernel_rfl
theorem laidOutDeltaApplies : laidOutB Try.prog = true := by kernel_rfl
theorem shapeDeltaApplies0 : shOf Try.prog 8 9 = some [.str] := by kernel_rfl
theorem shapeDeltaApplies1 : shOf Try.prog 8 9 = some [.str] := by kernel_rfl
set_option maxRecDepth 100000 in
theorem liftedDeltaApplies (os : Os) (started : os.Started) (H : Type) (enc : TypeId × Value → H) :
    ReturnsInHanded {} Try.checked os 15 .any (Rows.deltaAppliesSpec.pre6 enc Try.prog Try.f15 Rows.deltaAppliesRow.domain false) (Rows.deltaAppliesSpec.post enc Try.prog Try.f15 false true false false) := by
  refine returnsInHanded_of_change_sized (C := Try.checked) ownDeltaApplies started (by kernel_rfl) Try.func15
    (ChangeSpec.witness6 (enc := enc) (C := Try.checked) false ⟨#[], #[.string ByteArray.empty, .string ByteArray.empty], []⟩ 8 (by kernel_rfl) (by kernel_rfl) (by kernel_rfl) (by kernel_rfl)) ?_
  intro W base args ds gs before hval0 hW hcnd hsz _
  have hval : ∀ (j : Nat) t v, Try.f15.params[j]? = some t → args[j]? = some v → Value.okWide Try.prog W .any base t v := hval0
  have hW' := hW
  obtain ⟨p, q, hA0, hV, rfl, hfz, hnd⟩ := hW
  have hA : DataW.TrodAll enc Try.prog W 0 (fun _ => true) true Try.f15.params.toList args.toList ds p := hA0
  rw [Try.params15] at hA hval
  have hsz1 : (DataW.weightsEach Try.prog (Try.f15.params.toList ++ Rows.deltaAppliesSpec.plain.varTypes Try.prog) (ds ++ gs)).all (· ≤ reachBytes) = true := hsz
  rw [Try.params15] at hsz1
  have hA1 := hA
  obtain ⟨v0, vs0, d0, ds0, p0, q0, hargs, rfl, rfl, h0, r0⟩ := trodAll_cons hA
  obtain ⟨v1, vs1, d1, ds1, p1, q1, rfl, rfl, rfl, h1, r1⟩ := trodAll_cons r0
  obtain ⟨rfl, rfl, rfl⟩ := trodAll_nil r1
  obtain rfl : args = #[v0, v1] := by cases args; simp_all
  obtain ⟨rfl, rfl⟩ := trodVars_none hV
  obtain ⟨f0, hF0, hfit0⟩ := open_one (n0 := W.heap.size) shapeDeltaApplies0 (cell_string Try.underlying9 (hval 0 9 v0 rfl rfl)) h0 (fun m hm => all_le hsz1 (weightsEach_mem (i := 0) (t := 9) (d := d0) rfl rfl hm))
  obtain ⟨a0, rfl, hs0⟩ := fit_str hfit0
  cases hF0
  have hs0 : _ ≤ 140737488351232 := Nat.le_trans hs0 (by decide)
  obtain ⟨f1, hF1, hfit1⟩ := open_one (n0 := W.heap.size) shapeDeltaApplies1 (cell_string Try.underlying9 (hval 1 9 v1 rfl rfl)) h1 (fun m hm => all_le hsz1 (weightsEach_mem (i := 1) (t := 9) (d := d1) rfl rfl hm))
  obtain ⟨a1, rfl, hs1⟩ := fit_str hfit1
  cases hF1
  have hs1 : _ ≤ 140737488351232 := Nat.le_trans hs1 (by decide)
  refine (ret_calls (law_calls (deltaApplies_law a0 a1 hs0 hs1) (reps_cons' (.v _) (reps_cons' (.v _) reps_nil')))).mono fun e W' ⟨_, he, hr, bel⟩ => ?_
  subst he; subst hr
  exact ⟨_, rfl, _, _, _, [], _, [], hW', trodAll_mk1 (shut_bool Try.underlying4 _), trodAll_kept laidOutDeltaApplies bel _ _ _ _ (by kernel_rfl) hA1, rfl, bel.frame _, fun h => by cases h⟩
theorem deltaApplies_holds : Rows.DeltaAppliesSaid :=
  OpenClaim.holds_of_wide 15 Try.f15 rfl rfl rfl rfl rfl rfl rfl ⟨rfl, rfl, rfl, rfl, rfl⟩ rfl rfl rfl rfl rfl (by kernel_rfl) Try.func15 (by kernel_rfl)
    (of_decide_eq_true (by kernel_rfl)) (by unfold Func.isWrapper; first | (rw [if_pos (by decide +kernel)]; kernel_rfl) | (rw [if_neg (by decide +kernel)]; exact ⟨rfl, rfl⟩))
    (fun os started H enc _ => liftedDeltaApplies os started H enc)
#print axioms deltaApplies_holds
end Go.Proofs.Ytppnicpbncfhnaa
