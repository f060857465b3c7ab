/-
  ConfigBytes, where what comes in holds no more than a million values and letters.
-/
import Derived.Test.YtppnicpbncfhnaaRows
import Derived.Test.YtppnicpbncfhnaaUpt
import Derived.Test.YtppnicpbncfhnaaGd
import Derived.Test.YtppnicpbncfhnaaCbG
set_option linter.unusedVariables false
namespace Go.Proofs.Ytppnicpbncfhnaa
open Go Go.Eng Go.RowKit Go.ChangeShapes Go.WideShapes Go.ChangeAt Go.Cb

theorem ownConfigBytes : ownKnob Try.prog.godebug = none := by kernel_rfl
theorem laidOutConfigBytes : laidOutB Try.prog = true := by kernel_rfl
theorem shapeConfigBytes0 : shOf Try.prog 8 66 = some (List.replicate 17 (.int .i64)) := by kernel_rfl
theorem shapeConfigBytes1 : shOf Try.prog 8 9 = some [.str] := by kernel_rfl
set_option maxRecDepth 100000 in
theorem liftedConfigBytes (os : Os) (started : os.Started) (H : Type) (enc : TypeId × Value → H) (F : Stop.Interp) :
    ReturnsInHanded {} Try.checked os 13 .any ((Rows.OpenSpec.upto Rows.configBytesSpec).pre6 enc Try.prog Try.f13 Rows.configBytesUptoRow.domain false) (((Rows.OpenSpec.upto Rows.configBytesSpec).at F).post enc Try.prog Try.f13 false true false false) := by
  refine returnsInHanded_of_cond_sized (C := Try.checked) (s := Rows.OpenSpec.upto Rows.configBytesSpec) (k := Rows.uptoSmall) rfl ownConfigBytes started (by kernel_rfl) Try.func13
    (OpenSpec.witness (enc := enc) (C := Try.checked) (s := Rows.OpenSpec.upto Rows.configBytesSpec) (k := Rows.uptoSmall) rfl false ⟨#[], #[.agg #[.int .i64 0, .int .i64 0, .int .i64 0, .int .i64 0, .int .i64 0, .int .i64 0, .int .i64 0, .int .i64 0, .int .i64 0, .int .i64 0, .int .i64 0, .int .i64 0, .int .i64 0, .int .i64 0, .int .i64 0, .int .i64 0, .int .i64 0], .string ByteArray.empty], []⟩ 8 (by kernel_rfl) (by kernel_rfl) (by kernel_rfl)
      (x := ([.agg [.lit (.int .i64 0), .lit (.int .i64 0), .lit (.int .i64 0), .agg [.lit (.int .i64 0), .lit (.int .i64 0), .lit (.int .i64 0), .lit (.int .i64 0), .lit (.int .i64 0), .lit (.int .i64 0), .lit (.int .i64 0)], .agg [.lit (.int .i64 0), .lit (.int .i64 0), .lit (.int .i64 0), .lit (.int .i64 0), .lit (.int .i64 0), .lit (.int .i64 0), .lit (.int .i64 0)]], .lit (.string [])], [], [])) (by kernel_rfl) rfl (by kernel_rfl)) ?_
  intro W base args ds gs before hval0 hW hcnd hk hsz _
  have hval : ∀ (j : Nat) t v, Try.f13.params[j]? = some t → args[j]? = some v → Value.okWide Try.prog W .any base t v := hval0
  have hW' := hW
  obtain ⟨p, q, hA0, hV, rfl, hfz, hnd⟩ := hW
  have hA : DataW.TrodAll enc Try.prog W 0 (fun _ => true) true Try.f13.params.toList args.toList ds p := hA0
  rw [Try.params13] at hA hval
  have hsz1 : (DataW.weightsEach Try.prog (Try.f13.params.toList ++ Rows.configBytesSpec.plain.varTypes Try.prog) (ds ++ gs)).all (· ≤ reachBytes) = true := hsz
  rw [Try.params13] at hsz1
  have hA1 := hA
  have hup := upMem hk
  obtain ⟨v0, vs0, d0, ds0, p0, q0, hargs, rfl, rfl, h0, r0⟩ := trodAll_cons hA
  obtain ⟨v1, vs1, d1, ds1, p1, q1, rfl, rfl, rfl, h1, r1⟩ := trodAll_cons r0
  obtain ⟨rfl, rfl, rfl⟩ := trodAll_nil r1
  obtain rfl : args = #[v0, v1] := by cases args; simp_all
  obtain ⟨rfl, rfl⟩ := trodVars_none hV
  simp only [List.map_cons, List.map_nil, List.sum_cons, List.sum_nil] at hup
  obtain ⟨a0, hF0, hs0, hx0⟩ := open_set (n0 := W.heap.size) upBulk shapeConfigBytes0 Try.underlying66 (hval 0 66 v0 rfl rfl) h0 (fun m hm => all_le hsz1 (weightsEach_mem (i := 0) (t := 66) (d := d0) rfl rfl hm))
  obtain ⟨f1, hF1, hfit1, hw1⟩ := open_oneU (n0 := W.heap.size) upBulk shapeConfigBytes1 (cell_string Try.underlying9 (hval 1 9 v1 rfl rfl)) h1 (fun m hm => all_le hsz1 (weightsEach_mem (i := 1) (t := 9) (d := d1) rfl rfl hm))
  obtain ⟨a1, rfl, hs1⟩ := fit_str hfit1
  cases hF1
  refine (ret_calls (law_calls (configBytes_U a0 a1 hs0 hx0 (by omega)) (reps_cons' hF0 (reps_cons' (.v _) reps_nil')))).mono fun e W' ⟨_, he, hr, bel⟩ => ?_
  subst he; subst hr
  exact ⟨_, rfl, _, _, _, [], _, [], hW', trodAll_mk1 (shut_bool Try.underlying4 _), trodAll_kept laidOutConfigBytes bel _ _ _ _ (by kernel_rfl) hA1, rfl, bel.frame _, fun h => by cases h⟩
theorem configBytes_holds : Rows.ConfigBytesUptoSaid :=
  OpenClaim.holds_of_cond 13 Try.f13 rfl rfl rfl rfl rfl rfl rfl ⟨rfl, rfl, rfl, rfl, rfl⟩ rfl rfl rfl rfl rfl (by kernel_rfl) Try.func13 (by kernel_rfl)
    (of_decide_eq_true (by kernel_rfl)) (by unfold Func.isWrapper; first | (rw [if_pos (by decide +kernel)]; kernel_rfl) | (rw [if_neg (by decide +kernel)]; exact ⟨rfl, rfl⟩))
    (fun os started H enc _ F => liftedConfigBytes os started H enc F)
#print axioms configBytes_holds
end Go.Proofs.Ytppnicpbncfhnaa
