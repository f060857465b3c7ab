/-
  MergeApart, where what comes in holds no more than a million values and letters.
-/
import Derived.Test.YtlfenddhppoflaaRows
import Derived.Test.YtlfenddhppoflaaUpt
import Derived.Test.YtlfenddhppoflaaGd
import Derived.Test.YtlfenddhppoflaaMgT
set_option linter.unusedVariables false
namespace Go.Proofs.Ytlfenddhppoflaa
open Go Go.Eng Go.RowKit Go.ChangeShapes Go.WideShapes Go.ChangeAt

theorem ownMergeApart : ownKnob Try.prog.godebug = none := by kernel_rfl
theorem laidOutMergeApart : laidOutB Try.prog = true := by kernel_rfl
theorem shapeMergeApart0 : shOf Try.prog 8 22 = some [.sl 16 [.str]] := by kernel_rfl
theorem shapeMergeApart1 : shOf Try.prog 8 22 = some [.sl 16 [.str]] := by kernel_rfl
theorem shapeMergeApart2 : shOf Try.prog 8 22 = some [.sl 16 [.str]] := by kernel_rfl
theorem shapeMergeApart3 : shOf Try.prog 8 22 = some [.sl 16 [.str]] := by kernel_rfl
set_option maxRecDepth 100000 in
theorem liftedMergeApart (os : Os) (started : os.Started) (H : Type) (enc : TypeId × Value → H) (F : Stop.Interp) :
    ReturnsInHanded {} Try.checked os 18 .any ((Rows.OpenSpec.upto Rows.mergeApartSpec).pre6 enc Try.prog Try.f18 Rows.mergeApartUptoRow.domain false) (((Rows.OpenSpec.upto Rows.mergeApartSpec).at F).post enc Try.prog Try.f18 false true false false) := by
  refine returnsInHanded_of_cond_sized (C := Try.checked) (s := Rows.OpenSpec.upto Rows.mergeApartSpec) (k := Rows.uptoSmall) rfl ownMergeApart started (by kernel_rfl) Try.func18
    (OpenSpec.witness (enc := enc) (C := Try.checked) (s := Rows.OpenSpec.upto Rows.mergeApartSpec) (k := Rows.uptoSmall) rfl false ⟨#[], #[.slice none 0 0, .slice none 0 0, .slice none 0 0, .slice none 0 0], []⟩ 8 (by kernel_rfl) (by kernel_rfl) (by kernel_rfl)
      (x := ([.nil, .nil, .nil, .nil], [], [])) (by kernel_rfl) rfl (by kernel_rfl)) ?_
  intro W base args ds gs before hval0 hW hcnd hk hsz _
  have hval : ∀ (j : Nat) t v, Try.f18.params[j]? = some t → args[j]? = some v → Value.okWide Try.prog W .any base t v := hval0
  have hW' := hW
  obtain ⟨p, q, hA0, hV, rfl, hfz, hnd⟩ := hW
  have hA : DataW.TrodAll enc Try.prog W 0 (fun _ => true) true Try.f18.params.toList args.toList ds p := hA0
  rw [Try.params18] at hA hval
  have hsz1 : (DataW.weightsEach Try.prog (Try.f18.params.toList ++ Rows.mergeApartSpec.plain.varTypes Try.prog) (ds ++ gs)).all (· ≤ reachBytes) = true := hsz
  rw [Try.params18] at hsz1
  have hA1 := hA
  have hup := upMem hk
  obtain ⟨v0, vs0, d0, ds0, p0, q0, hargs, rfl, rfl, h0, r0⟩ := trodAll_cons hA
  obtain ⟨v1, vs1, d1, ds1, p1, q1, rfl, rfl, rfl, h1, r1⟩ := trodAll_cons r0
  obtain ⟨v2, vs2, d2, ds2, p2, q2, rfl, rfl, rfl, h2, r2⟩ := trodAll_cons r1
  obtain ⟨v3, vs3, d3, ds3, p3, q3, rfl, rfl, rfl, h3, r3⟩ := trodAll_cons r2
  obtain ⟨rfl, rfl, rfl⟩ := trodAll_nil r3
  obtain rfl : args = #[v0, v1, v2, v3] := by cases args; simp_all
  obtain ⟨rfl, rfl⟩ := trodVars_none hV
  simp only [List.map_cons, List.map_nil, List.sum_cons, List.sum_nil] at hup
  obtain ⟨f0, hF0, hfit0, hw0⟩ := open_oneU (n0 := W.heap.size) upBulk shapeMergeApart0 (cell_slice Try.underlying22 (hval 0 22 v0 rfl rfl)) h0 (fun m hm => all_le hsz1 (weightsEach_mem (i := 0) (t := 22) (d := d0) rfl rfl hm))
  obtain ⟨a0, rfl, hs0⟩ := fit_strs hfit0
  obtain ⟨f1, hF1, hfit1, hw1⟩ := open_oneU (n0 := W.heap.size) upBulk shapeMergeApart1 (cell_slice Try.underlying22 (hval 1 22 v1 rfl rfl)) h1 (fun m hm => all_le hsz1 (weightsEach_mem (i := 1) (t := 22) (d := d1) rfl rfl hm))
  obtain ⟨a1, rfl, hs1⟩ := fit_strs hfit1
  obtain ⟨f2, hF2, hfit2, hw2⟩ := open_oneU (n0 := W.heap.size) upBulk shapeMergeApart2 (cell_slice Try.underlying22 (hval 2 22 v2 rfl rfl)) h2 (fun m hm => all_le hsz1 (weightsEach_mem (i := 2) (t := 22) (d := d2) rfl rfl hm))
  obtain ⟨a2, rfl, hs2⟩ := fit_strs hfit2
  obtain ⟨f3, hF3, hfit3, hw3⟩ := open_oneU (n0 := W.heap.size) upBulk shapeMergeApart3 (cell_slice Try.underlying22 (hval 3 22 v3 rfl rfl)) h3 (fun m hm => all_le hsz1 (weightsEach_mem (i := 3) (t := 22) (d := d3) rfl rfl hm))
  obtain ⟨a3, rfl, hs3⟩ := fit_strs hfit3
  refine (ret_calls (law_calls (mergeApart_law a0 a1 a2 a3 hs0 hs1 hs2 hs3 (by omega)) (reps_cons' (RepF.toH hF0) (reps_cons' (RepF.toH hF1) (reps_cons' (RepF.toH hF2) (reps_cons' (RepF.toH hF3) reps_nil')))))).mono fun e W' ⟨_, he, hr, bel⟩ => ?_
  subst he; subst hr
  exact ⟨_, rfl, _, _, _, [], _, [], hW', trodAll_mk1 (shut_bool Try.underlying4 _), trodAll_kept laidOutMergeApart bel _ _ _ _ (by kernel_rfl) hA1, rfl, bel.frame _, fun h => by cases h⟩
theorem mergeApart_holds : Rows.MergeApartUptoSaid :=
  OpenClaim.holds_of_cond 18 Try.f18 rfl rfl rfl rfl rfl rfl rfl ⟨rfl, rfl, rfl, rfl, rfl⟩ rfl rfl rfl rfl rfl (by kernel_rfl) Try.func18 (by kernel_rfl)
    (of_decide_eq_true (by kernel_rfl)) (by unfold Func.isWrapper; first | (rw [if_pos (by decide +kernel)]; kernel_rfl) | (rw [if_neg (by decide +kernel)]; exact ⟨rfl, rfl⟩))
    (fun os started H enc _ F => liftedMergeApart os started H enc F)
#print axioms mergeApart_holds
end Go.Proofs.Ytlfenddhppoflaa
