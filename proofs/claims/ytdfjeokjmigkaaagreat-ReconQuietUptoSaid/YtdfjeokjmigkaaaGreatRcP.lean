/-
  ReconQuiet, where what comes in holds no more than a million values and letters.
-/
import Derived.Test.YtdfjeokjmigkaaaGreatRows
import Derived.Test.YtdfjeokjmigkaaaGreatUpt
import Derived.Test.YtdfjeokjmigkaaaGreatGd
import Derived.Test.YtdfjeokjmigkaaaGreatApd
import Derived.Test.YtdfjeokjmigkaaaGreatRcI
set_option linter.unusedVariables false
namespace Go.Proofs.YtdfjeokjmigkaaaGreat
open Go Go.Eng Go.RowKit Go.ChangeShapes Go.WideShapes Go.ChangeAt Go.Tr

theorem ownReconQuiet : ownKnob Tryz.prog.godebug = none := by kernel_rfl
theorem laidOutReconQuiet : laidOutB Tryz.prog = true := by kernel_rfl
theorem shapeReconQuiet0 : shOf Tryz.prog 8 22 = some [.sl 40 [.str, .int .i64, .str]] := by kernel_rfl
theorem shapeReconQuiet1 : shOf Tryz.prog 8 22 = some [.sl 40 [.str, .int .i64, .str]] := by kernel_rfl
set_option maxRecDepth 100000 in
theorem liftedReconQuiet (os : Os) (started : os.Started) (H : Type) (enc : TypeId × Value → H) (F : Stop.Interp) :
  ReturnsInHanded {} Tryz.checked os 5 .any ((Rows.OpenSpec.upto Rows.reconQuietSpec).pre6 enc Tryz.prog Tryz.f5 Rows.reconQuietUptoRow.domain false) (((Rows.OpenSpec.upto Rows.reconQuietSpec).at F).post enc Tryz.prog Tryz.f5 false true false false) := by
 refine returnsInHanded_of_cond_sized (C := Tryz.checked) (s := Rows.OpenSpec.upto Rows.reconQuietSpec) (k := Rows.uptoSmall) rfl ownReconQuiet started (by kernel_rfl) Tryz.func5
  (OpenSpec.witness (enc := enc) (C := Tryz.checked) (s := Rows.OpenSpec.upto Rows.reconQuietSpec) (k := Rows.uptoSmall) rfl false ⟨#[], #[.slice none 0 0, .slice none 0 0], []⟩ 8 (by kernel_rfl) (by kernel_rfl) (by kernel_rfl)
   (x := ([.nil, .nil], [], [])) (by kernel_rfl) rfl (by kernel_rfl)) ?_
 intro W base args ds gs before hval0 hW hcnd hk hsz _
 have hval : ∀ (j : Nat) t v, Tryz.f5.params[j]? = some t → args[j]? = some v → Value.okWide Tryz.prog W .any base t v := hval0
 have hW' := hW
 obtain ⟨p, q, hA0, hV, rfl, hfz, hnd⟩ := hW
 have hA : DataW.TrodAll enc Tryz.prog W 0 (fun _ => true) true Tryz.f5.params.toList args.toList ds p := hA0
 rw [Tryz.params5] at hA hval
 have hsz1 : (DataW.weightsEach Tryz.prog (Tryz.f5.params.toList ++ Rows.reconQuietSpec.plain.varTypes Tryz.prog) (ds ++ gs)).all (· ≤ reachBytes) = true := hsz
 rw [Tryz.params5] at hsz1
 have hA1 := hA
 have hup := upMem hk
 obtain ⟨v0, vs0, d0, ds0, p0, q0, hargs, rfl, rfl, h0, r0⟩ := trodAll_cons hA
 obtain ⟨v1, vs1, d1, ds1, p1, q1, rfl, rfl, rfl, h1, r1⟩ := trodAll_cons r0
 obtain ⟨rfl, rfl, rfl⟩ := trodAll_nil r1
 obtain rfl : args = #[v0, v1] := by cases args; simp_all
 obtain ⟨rfl, rfl⟩ := trodVars_none hV
 simp only [List.map_cons, List.map_nil, List.sum_cons, List.sum_nil] at hup
 obtain ⟨f0, hF0, hfit0, hw0⟩ := open_oneU (n0 := W.heap.size) upBulk shapeReconQuiet0 (cell_slice Tryz.underlying22 (hval 0 22 v0 rfl rfl)) h0 (fun m hm => all_le hsz1 (weightsEach_mem (i := 0) (t := 22) (d := d0) rfl rfl hm))
 obtain ⟨a0, rfl, hs0⟩ := fit_ents hfit0
 obtain ⟨f1, hF1, hfit1, hw1⟩ := open_oneU (n0 := W.heap.size) upBulk shapeReconQuiet1 (cell_slice Tryz.underlying22 (hval 1 22 v1 rfl rfl)) h1 (fun m hm => all_le hsz1 (weightsEach_mem (i := 1) (t := 22) (d := d1) rfl rfl hm))
 obtain ⟨a1, rfl, hs1⟩ := fit_ents hfit1
 refine (ret_calls (law_calls (reconQuiet_U a0 a1 (by omega)) (reps_cons' (RepF.toH hF0) (reps_cons' (RepF.toH hF1) reps_nil')))).mono fun e W' ⟨_, he, hr, bel⟩ => ?_
 subst he; subst hr
 exact ⟨_, rfl, _, _, _, [], _, [], hW', trodAll_mk1 (shut_bool Tryz.underlying4 _), trodAll_kept laidOutReconQuiet bel _ _ _ _ (by kernel_rfl) hA1, rfl, bel.frame _, fun h => by cases h⟩
theorem reconQuiet_holds : Rows.ReconQuietUptoSaid :=
 OpenClaim.holds_of_cond 5 Tryz.f5 rfl rfl rfl rfl rfl rfl rfl ⟨rfl, rfl, rfl, rfl, rfl⟩ rfl rfl rfl rfl rfl (by kernel_rfl) Tryz.func5 (by kernel_rfl)
  (of_decide_eq_true (by kernel_rfl)) (by unfold Func.isWrapper; first | (rw [if_pos (by decide +kernel)]; kernel_rfl) | (rw [if_neg (by decide +kernel)]; exact ⟨rfl, rfl⟩))
  (fun os started H enc _ F => liftedReconQuiet os started H enc F)
#print axioms reconQuiet_holds
end Go.Proofs.YtdfjeokjmigkaaaGreat
