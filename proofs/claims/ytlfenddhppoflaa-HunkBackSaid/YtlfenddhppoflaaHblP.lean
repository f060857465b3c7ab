/-
  HunkBack: for every input. No condition.
-/
import Derived.Test.YtlfenddhppoflaaRows
import Derived.Test.YtlfenddhppoflaaHbm
import Derived.Test.YtlfenddhppoflaaGd
set_option linter.unusedVariables false
namespace Go.Proofs.Ytlfenddhppoflaa
open Go Go.Eng Go.RowKit Go.ChangeShapes Go.WideShapes Go.ChangeAt

theorem ownHunkBack : ownKnob Try.prog.godebug = none := by kernel_rfl
theorem laidOutHunkBack : laidOutB Try.prog = true := by kernel_rfl
theorem shapeHunkBack0 : shOf Try.prog 8 22 = some [.sl 16 [.str]] := by kernel_rfl
theorem shapeHunkBack1 : shOf Try.prog 8 22 = some [.sl 16 [.str]] := by kernel_rfl
theorem shapeHunkBack2 : shOf Try.prog 8 3 = some [.int .i64] := by kernel_rfl
theorem shapeHunkBack3 : shOf Try.prog 8 3 = some [.int .i64] := by kernel_rfl
set_option maxRecDepth 100000 in
theorem liftedHunkBack (os : Os) (started : os.Started) (H : Type) (enc : TypeId × Value → H) :
    ReturnsInHanded {} Try.checked os 10 .any (Rows.hunkBackSpec.pre6 enc Try.prog Try.f10 Rows.hunkBackRow.domain false) (Rows.hunkBackSpec.post enc Try.prog Try.f10 false true false false) := by
  refine returnsInHanded_of_change_sized (C := Try.checked) ownHunkBack started (by kernel_rfl) Try.func10
    (ChangeSpec.witness6 (enc := enc) (C := Try.checked) false ⟨#[], #[.slice none 0 0, .slice none 0 0, .int .i64 0, .int .i64 0], []⟩ 8 (by kernel_rfl) (by kernel_rfl) (by kernel_rfl) (by kernel_rfl)) ?_
  intro W base args ds gs before hval0 hW hcnd hsz _
  have hval : ∀ (j : Nat) t v, Try.f10.params[j]? = some t → args[j]? = some v → Value.okWide Try.prog W .any base t v := hval0
  have hW' := hW
  obtain ⟨p, q, hA0, hV, rfl, hfz, hnd⟩ := hW
  have hA : DataW.TrodAll enc Try.prog W 0 (fun _ => true) true Try.f10.params.toList args.toList ds p := hA0
  rw [Try.params10] at hA hval
  have hsz1 : (DataW.weightsEach Try.prog (Try.f10.params.toList ++ Rows.hunkBackSpec.plain.varTypes Try.prog) (ds ++ gs)).all (· ≤ reachBytes) = true := hsz
  rw [Try.params10] at hsz1
  have hA1 := hA
  obtain ⟨v0, vs0, d0, ds0, p0, q0, hargs, rfl, rfl, h0, r0⟩ := trodAll_cons hA
  obtain ⟨v1, vs1, d1, ds1, p1, q1, rfl, rfl, rfl, h1, r1⟩ := trodAll_cons r0
  obtain ⟨v2, vs2, d2, ds2, p2, q2, rfl, rfl, rfl, h2, r2⟩ := trodAll_cons r1
  obtain ⟨v3, vs3, d3, ds3, p3, q3, rfl, rfl, rfl, h3, r3⟩ := trodAll_cons r2
  obtain ⟨rfl, rfl, rfl⟩ := trodAll_nil r3
  obtain rfl : args = #[v0, v1, v2, v3] := by cases args; simp_all
  obtain ⟨rfl, rfl⟩ := trodVars_none hV
  obtain ⟨f0, hF0, hfit0⟩ := open_one (n0 := W.heap.size) shapeHunkBack0 (cell_slice Try.underlying22 (hval 0 22 v0 rfl rfl)) h0 (fun m hm => all_le hsz1 (weightsEach_mem (i := 0) (t := 22) (d := d0) rfl rfl hm))
  obtain ⟨a0, rfl, hs0⟩ := fit_strsB hfit0
  obtain ⟨f1, hF1, hfit1⟩ := open_one (n0 := W.heap.size) shapeHunkBack1 (cell_slice Try.underlying22 (hval 1 22 v1 rfl rfl)) h1 (fun m hm => all_le hsz1 (weightsEach_mem (i := 1) (t := 22) (d := d1) rfl rfl hm))
  obtain ⟨a1, rfl, hs1⟩ := fit_strsB hfit1
  obtain ⟨f2, hF2, hfit2⟩ := open_one (n0 := W.heap.size) shapeHunkBack2 (cell_int Try.underlying3 (hval 2 3 v2 rfl rfl)) h2 (fun m hm => all_le hsz1 (weightsEach_mem (i := 2) (t := 3) (d := d2) rfl rfl hm))
  obtain ⟨a2, rfl, hs2⟩ := fit_int hfit2
  cases hF2
  obtain ⟨f3, hF3, hfit3⟩ := open_one (n0 := W.heap.size) shapeHunkBack3 (cell_int Try.underlying3 (hval 3 3 v3 rfl rfl)) h3 (fun m hm => all_le hsz1 (weightsEach_mem (i := 3) (t := 3) (d := d3) rfl rfl hm))
  obtain ⟨a3, rfl, hs3⟩ := fit_int hfit3
  cases hF3
  refine (ret_calls (law_calls (hunkBack_all a0 a1 a2 a3 hs0 hs1 hs2 hs3) (reps_cons' (RepF.toH hF0) (reps_cons' (RepF.toH hF1) (reps_cons' (.v _) (reps_cons' (.v _) reps_nil')))))).mono fun e W' ⟨_, he, hr, bel⟩ => ?_
  subst he; subst hr
  exact ⟨_, rfl, _, _, _, [], _, [], hW', trodAll_mk1 (shut_bool Try.underlying4 _), trodAll_kept laidOutHunkBack bel _ _ _ _ (by kernel_rfl) hA1, rfl, bel.frame _, fun h => by cases h⟩
theorem hunkBack_holds : Rows.HunkBackSaid :=
  OpenClaim.holds_of_wide 10 Try.f10 rfl rfl rfl rfl rfl rfl rfl ⟨rfl, rfl, rfl, rfl, rfl⟩ rfl rfl rfl rfl rfl (by kernel_rfl) Try.func10 (by kernel_rfl)
    (of_decide_eq_true (by kernel_rfl)) (by unfold Func.isWrapper; first | (rw [if_pos (by decide +kernel)]; kernel_rfl) | (rw [if_neg (by decide +kernel)]; exact ⟨rfl, rfl⟩))
    (fun os started H enc _ => liftedHunkBack os started H enc)
#print axioms hunkBack_holds
end Go.Proofs.Ytlfenddhppoflaa
