/-
  WirePuts: for every input. No condition.
-/
import Derived.Test.YtppnicpbncfhnaaRows
import Derived.Test.YtppnicpbncfhnaaAwW
import Derived.Test.YtppnicpbncfhnaaOpn
import Derived.Test.YtppnicpbncfhnaaLift
set_option linter.unusedVariables false
namespace Go.Proofs.Ytppnicpbncfhnaa
open Go Go.Eng Go.RowKit Go.ChangeShapes Go.WideShapes Go.ChangeAt

theorem ownWirePuts : ownKnob Try.prog.godebug = none := by kernel_rfl
theorem laidOutWirePuts : laidOutB Try.prog = true := by kernel_rfl
theorem shapeWirePuts0 : shOf Try.prog 8 3 = some [.int .i64] := by kernel_rfl
theorem shapeWirePuts1 : shOf Try.prog 8 9 = some [.str] := by kernel_rfl
set_option maxRecDepth 100000 in
theorem liftedWirePuts (os : Os) (started : os.Started) (H : Type) (enc : TypeId × Value → H) :
    ReturnsInHanded {} Try.checked os 3 .any (Rows.wirePutsSpec.pre6 enc Try.prog Try.f3 Rows.wirePutsRow.domain false) (Rows.wirePutsSpec.post enc Try.prog Try.f3 false true false false) := by
  refine returnsInHanded_of_change_sized (C := Try.checked) ownWirePuts started (by kernel_rfl) Try.func3
    (ChangeSpec.witness6 (enc := enc) (C := Try.checked) false ⟨#[], #[.int .i64 0, .string ByteArray.empty], []⟩ 8 (by kernel_rfl) (by kernel_rfl) (by kernel_rfl) (by kernel_rfl)) ?_
  intro W base args ds gs before hval0 hW hcnd hsz _
  have hval : ∀ (j : Nat) t v, Try.f3.params[j]? = some t → args[j]? = some v → Value.okWide Try.prog W .any base t v := hval0
  have hW' := hW
  obtain ⟨p, q, hA0, hV, rfl, hfz, hnd⟩ := hW
  have hA : DataW.TrodAll enc Try.prog W 0 (fun _ => true) true Try.f3.params.toList args.toList ds p := hA0
  rw [Try.params3] at hA hval
  have hsz1 : (DataW.weightsEach Try.prog (Try.f3.params.toList ++ Rows.wirePutsSpec.plain.varTypes Try.prog) (ds ++ gs)).all (· ≤ reachBytes) = true := hsz
  rw [Try.params3] at hsz1
  have hA1 := hA
  obtain ⟨v0, vs0, d0, ds0, p0, q0, hargs, rfl, rfl, h0, r0⟩ := trodAll_cons hA
  obtain ⟨v1, vs1, d1, ds1, p1, q1, rfl, rfl, rfl, h1, r1⟩ := trodAll_cons r0
  obtain ⟨rfl, rfl, rfl⟩ := trodAll_nil r1
  obtain rfl : args = #[v0, v1] := by cases args; simp_all
  obtain ⟨rfl, rfl⟩ := trodVars_none hV
  obtain ⟨f0, hF0, hfit0⟩ := open_one (n0 := W.heap.size) shapeWirePuts0 (cell_int Try.underlying3 (hval 0 3 v0 rfl rfl)) h0 (fun m hm => all_le hsz1 (weightsEach_mem (i := 0) (t := 3) (d := d0) rfl rfl hm))
  obtain ⟨a0, rfl, hs0⟩ := fit_int hfit0
  cases hF0
  obtain ⟨f1, hF1, hfit1⟩ := open_one (n0 := W.heap.size) shapeWirePuts1 (cell_string Try.underlying9 (hval 1 9 v1 rfl rfl)) h1 (fun m hm => all_le hsz1 (weightsEach_mem (i := 1) (t := 9) (d := d1) rfl rfl hm))
  obtain ⟨a1, rfl, hs1⟩ := fit_str hfit1
  cases hF1
  have hs1 : _ ≤ 140737488351232 := Nat.le_trans hs1 (by decide)
  refine (ret_calls (law_calls (wirePuts_law a0 a1 hs0 hs1) (reps_cons' (.v _) (reps_cons' (.v _) reps_nil')))).mono fun e W' ⟨_, he, hr, bel⟩ => ?_
  subst he; subst hr
  exact ⟨_, rfl, _, _, _, [], _, [], hW', trodAll_mk1 (shut_bool Try.underlying4 _), trodAll_kept laidOutWirePuts bel _ _ _ _ (by kernel_rfl) hA1, rfl, bel.frame _, fun h => by cases h⟩
theorem wirePuts_holds : Rows.WirePutsSaid :=
  OpenClaim.holds_of_wide 3 Try.f3 rfl rfl rfl rfl rfl rfl rfl ⟨rfl, rfl, rfl, rfl, rfl⟩ rfl rfl rfl rfl rfl (by kernel_rfl) Try.func3 (by kernel_rfl)
    (of_decide_eq_true (by kernel_rfl)) (by unfold Func.isWrapper; first | (rw [if_pos (by decide +kernel)]; kernel_rfl) | (rw [if_neg (by decide +kernel)]; exact ⟨rfl, rfl⟩))
    (fun os started H enc _ => liftedWirePuts os started H enc)
#print axioms wirePuts_holds
end Go.Proofs.Ytppnicpbncfhnaa
