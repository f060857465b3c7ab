/-
  FramePacks: for every input. No condition.
-/
import Derived.Test.YtppnicpbncfhnaaRows
import Derived.Test.YtppnicpbncfhnaaFpk
import Derived.Test.YtppnicpbncfhnaaGd
set_option linter.unusedVariables false
namespace Go.Proofs.Ytppnicpbncfhnaa
open Go Go.Eng Go.RowKit Go.ChangeShapes Go.WideShapes Go.ChangeAt

theorem ownFramePacks : ownKnob Try.prog.godebug = none := by kernel_rfl
theorem laidOutFramePacks : laidOutB Try.prog = true := by kernel_rfl
theorem shapeFramePacks0 : shOf Try.prog 8 9 = some [.str] := by kernel_rfl
theorem shapeFramePacks1 : shOf Try.prog 8 3 = some [.int .i64] := by kernel_rfl
set_option maxRecDepth 100000 in
theorem liftedFramePacks (os : Os) (started : os.Started) (H : Type) (enc : TypeId × Value → H) :
    ReturnsInHanded {} Try.checked os 9 .any (Rows.framePacksSpec.pre6 enc Try.prog Try.f9 Rows.framePacksRow.domain false) (Rows.framePacksSpec.post enc Try.prog Try.f9 false true false false) := by
  refine returnsInHanded_of_change_sized (C := Try.checked) ownFramePacks started (by kernel_rfl) Try.func9
    (ChangeSpec.witness6 (enc := enc) (C := Try.checked) false ⟨#[], #[.string ByteArray.empty, .int .i64 0], []⟩ 8 (by kernel_rfl) (by kernel_rfl) (by kernel_rfl) (by kernel_rfl)) ?_
  intro W base args ds gs before hval0 hW hcnd hsz _
  have hval : ∀ (j : Nat) t v, Try.f9.params[j]? = some t → args[j]? = some v → Value.okWide Try.prog W .any base t v := hval0
  have hW' := hW
  obtain ⟨p, q, hA0, hV, rfl, hfz, hnd⟩ := hW
  have hA : DataW.TrodAll enc Try.prog W 0 (fun _ => true) true Try.f9.params.toList args.toList ds p := hA0
  rw [Try.params9] at hA hval
  have hsz1 : (DataW.weightsEach Try.prog (Try.f9.params.toList ++ Rows.framePacksSpec.plain.varTypes Try.prog) (ds ++ gs)).all (· ≤ reachBytes) = true := hsz
  rw [Try.params9] at hsz1
  have hA1 := hA
  obtain ⟨v0, vs0, d0, ds0, p0, q0, hargs, rfl, rfl, h0, r0⟩ := trodAll_cons hA
  obtain ⟨v1, vs1, d1, ds1, p1, q1, rfl, rfl, rfl, h1, r1⟩ := trodAll_cons r0
  obtain ⟨rfl, rfl, rfl⟩ := trodAll_nil r1
  obtain rfl : args = #[v0, v1] := by cases args; simp_all
  obtain ⟨rfl, rfl⟩ := trodVars_none hV
  obtain ⟨f0, hF0, hfit0⟩ := open_one (n0 := W.heap.size) shapeFramePacks0 (cell_string Try.underlying9 (hval 0 9 v0 rfl rfl)) h0 (fun m hm => all_le hsz1 (weightsEach_mem (i := 0) (t := 9) (d := d0) rfl rfl hm))
  obtain ⟨a0, rfl, hs0⟩ := fit_str hfit0
  cases hF0
  have hs0 : _ ≤ 140737488351232 := Nat.le_trans hs0 (by decide)
  obtain ⟨f1, hF1, hfit1⟩ := open_one (n0 := W.heap.size) shapeFramePacks1 (cell_int Try.underlying3 (hval 1 3 v1 rfl rfl)) h1 (fun m hm => all_le hsz1 (weightsEach_mem (i := 1) (t := 3) (d := d1) rfl rfl hm))
  obtain ⟨a1, rfl, hs1⟩ := fit_int hfit1
  cases hF1
  refine (ret_calls (law_calls (framePacks_law a0 a1 hs0 hs1) (reps_cons' (.v _) (reps_cons' (.v _) reps_nil')))).mono fun e W' ⟨_, he, hr, bel⟩ => ?_
  subst he; subst hr
  exact ⟨_, rfl, _, _, _, [], _, [], hW', trodAll_mk1 (shut_bool Try.underlying4 _), trodAll_kept laidOutFramePacks bel _ _ _ _ (by kernel_rfl) hA1, rfl, bel.frame _, fun h => by cases h⟩
theorem framePacks_holds : Rows.FramePacksSaid :=
  OpenClaim.holds_of_wide 9 Try.f9 rfl rfl rfl rfl rfl rfl rfl ⟨rfl, rfl, rfl, rfl, rfl⟩ rfl rfl rfl rfl rfl (by kernel_rfl) Try.func9 (by kernel_rfl)
    (of_decide_eq_true (by kernel_rfl)) (by unfold Func.isWrapper; first | (rw [if_pos (by decide +kernel)]; kernel_rfl) | (rw [if_neg (by decide +kernel)]; exact ⟨rfl, rfl⟩))
    (fun os started H enc _ => liftedFramePacks os started H enc)
#print axioms framePacks_holds
end Go.Proofs.Ytppnicpbncfhnaa
