/-
  WireNil: for every input. No condition.
-/
import Derived.Test.YtppnicpbncfhnaaRows
import Derived.Test.YtppnicpbncfhnaaNil
import Derived.Test.YtppnicpbncfhnaaOpn
import Derived.Test.YtppnicpbncfhnaaLift
set_option linter.unusedVariables false
namespace Go.Proofs.Ytppnicpbncfhnaa
open Go Go.Eng Go.RowKit Go.ChangeShapes Go.WideShapes Go.ChangeAt

theorem ownWireNil : ownKnob Try.prog.godebug = none := by kernel_rfl
theorem laidOutWireNil : laidOutB Try.prog = true := by kernel_rfl
theorem shapeWireNil0 : shOf Try.prog 8 3 = some [.int .i64] := by kernel_rfl
set_option maxRecDepth 100000 in
theorem liftedWireNil (os : Os) (started : os.Started) (H : Type) (enc : TypeId × Value → H) :
    ReturnsInHanded {} Try.checked os 6 .any (Rows.wireNilSpec.pre6 enc Try.prog Try.f6 Rows.wireNilRow.domain false) (Rows.wireNilSpec.post enc Try.prog Try.f6 false true false false) := by
  refine returnsInHanded_of_change_sized (C := Try.checked) ownWireNil started (by kernel_rfl) Try.func6
    (ChangeSpec.witness6 (enc := enc) (C := Try.checked) false ⟨#[], #[.int .i64 0], []⟩ 8 (by kernel_rfl) (by kernel_rfl) (by kernel_rfl) (by kernel_rfl)) ?_
  intro W base args ds gs before hval0 hW hcnd hsz _
  have hval : ∀ (j : Nat) t v, Try.f6.params[j]? = some t → args[j]? = some v → Value.okWide Try.prog W .any base t v := hval0
  have hW' := hW
  obtain ⟨p, q, hA0, hV, rfl, hfz, hnd⟩ := hW
  have hA : DataW.TrodAll enc Try.prog W 0 (fun _ => true) true Try.f6.params.toList args.toList ds p := hA0
  rw [Try.params6] at hA hval
  have hsz1 : (DataW.weightsEach Try.prog (Try.f6.params.toList ++ Rows.wireNilSpec.plain.varTypes Try.prog) (ds ++ gs)).all (· ≤ reachBytes) = true := hsz
  rw [Try.params6] at hsz1
  have hA1 := hA
  obtain ⟨v0, vs0, d0, ds0, p0, q0, hargs, rfl, rfl, h0, r0⟩ := trodAll_cons hA
  obtain ⟨rfl, rfl, rfl⟩ := trodAll_nil r0
  obtain rfl : args = #[v0] := by cases args; simp_all
  obtain ⟨rfl, rfl⟩ := trodVars_none hV
  obtain ⟨f0, hF0, hfit0⟩ := open_one (n0 := W.heap.size) shapeWireNil0 (cell_int Try.underlying3 (hval 0 3 v0 rfl rfl)) h0 (fun m hm => all_le hsz1 (weightsEach_mem (i := 0) (t := 3) (d := d0) rfl rfl hm))
  obtain ⟨a0, rfl, hs0⟩ := fit_int hfit0
  cases hF0
  refine (ret_calls (law_calls (wireNil_law a0 hs0) (reps_cons' (.v _) reps_nil'))).mono fun e W' ⟨_, he, hr, bel⟩ => ?_
  subst he; subst hr
  exact ⟨_, rfl, _, _, _, [], _, [], hW', trodAll_mk1 (shut_bool Try.underlying4 _), trodAll_kept laidOutWireNil bel _ _ _ _ (by kernel_rfl) hA1, rfl, bel.frame _, fun h => by cases h⟩
theorem wireNil_holds : Rows.WireNilSaid :=
  OpenClaim.holds_of_wide 6 Try.f6 rfl rfl rfl rfl rfl rfl rfl ⟨rfl, rfl, rfl, rfl, rfl⟩ rfl rfl rfl rfl rfl (by kernel_rfl) Try.func6 (by kernel_rfl)
    (of_decide_eq_true (by kernel_rfl)) (by unfold Func.isWrapper; first | (rw [if_pos (by decide +kernel)]; kernel_rfl) | (rw [if_neg (by decide +kernel)]; exact ⟨rfl, rfl⟩))
    (fun os started H enc _ => liftedWireNil os started H enc)
#print axioms wireNil_holds
end Go.Proofs.Ytppnicpbncfhnaa
