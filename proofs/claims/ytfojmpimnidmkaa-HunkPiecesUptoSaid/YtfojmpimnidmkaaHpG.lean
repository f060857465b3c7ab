/-
  HunkPieces, where what comes in holds no more than a million values and letters.
-/
import Derived.Test.YtfojmpimnidmkaaRows
import Derived.Test.YtfojmpimnidmkaaUpt
import Derived.Test.YtfojmpimnidmkaaGd
import Derived.Test.YtfojmpimnidmkaaHpF
set_option linter.unusedVariables false
namespace Go.Proofs.Ytfojmpimnidmkaa
open Go Go.Eng Go.RowKit Go.ChangeShapes Go.WideShapes Go.ChangeAt

theorem ownHunkPieces : ownKnob Try.prog.godebug = none := by kernel_rfl
theorem laidOutHunkPieces : laidOutB Try.prog = true := by kernel_rfl
theorem shapeHunkPieces0 : shOf Try.prog 8 22 = some [.sl 16 [.str]] := by kernel_rfl
theorem shapeHunkPieces1 : shOf Try.prog 8 22 = some [.sl 16 [.str]] := by kernel_rfl
theorem shapeHunkPieces2 : shOf Try.prog 8 3 = some [.int .i64] := by kernel_rfl
set_option maxRecDepth 100000 in
theorem liftedHunkPieces (os : Os) (started : os.Started) (H : Type) (enc : TypeId × Value → H) (F : Stop.Interp) :
  ReturnsInHanded {} Try.checked os 3 .any ((Rows.OpenSpec.upto Rows.hunkPiecesSpec).pre6 enc Try.prog Try.f3 Rows.hunkPiecesUptoRow.domain false) (((Rows.OpenSpec.upto Rows.hunkPiecesSpec).at F).post enc Try.prog Try.f3 false true false false) := by
 refine returnsInHanded_of_cond_sized (C := Try.checked) (s := Rows.OpenSpec.upto Rows.hunkPiecesSpec) (k := Rows.uptoSmall) rfl ownHunkPieces started (by kernel_rfl) Try.func3
  (OpenSpec.witness (enc := enc) (C := Try.checked) (s := Rows.OpenSpec.upto Rows.hunkPiecesSpec) (k := Rows.uptoSmall) rfl false ⟨#[], #[.slice none 0 0, .slice none 0 0, .int .i64 0], []⟩ 8 (by kernel_rfl) (by kernel_rfl) (by kernel_rfl)
   (x := ([.nil, .nil, .lit (.int .i64 0)], [], [])) (by kernel_rfl) rfl (by kernel_rfl)) ?_
 intro W base args ds gs before hval0 hW hcnd hk hsz _
 have hval : ∀ (j : Nat) t v, Try.f3.params[j]? = some t → args[j]? = some v → Value.okWide Try.prog W .any base t v := hval0
 have hW' := hW
 obtain ⟨p, q, hA0, hV, rfl, hfz, hnd⟩ := hW
 have hA : DataW.TrodAll enc Try.prog W 0 (fun _ => true) true Try.f3.params.toList args.toList ds p := hA0
 rw [Try.params3] at hA hval
 have hsz1 : (DataW.weightsEach Try.prog (Try.f3.params.toList ++ Rows.hunkPiecesSpec.plain.varTypes Try.prog) (ds ++ gs)).all (· ≤ reachBytes) = true := hsz
 rw [Try.params3] at hsz1
 have hA1 := hA
 have hup := upMem hk
 obtain ⟨v0, vs0, d0, ds0, p0, q0, hargs, rfl, rfl, h0, r0⟩ := trodAll_cons hA
 obtain ⟨v1, vs1, d1, ds1, p1, q1, rfl, rfl, rfl, h1, r1⟩ := trodAll_cons r0
 obtain ⟨v2, vs2, d2, ds2, p2, q2, rfl, rfl, rfl, h2, r2⟩ := trodAll_cons r1
 obtain ⟨rfl, rfl, rfl⟩ := trodAll_nil r2
 obtain rfl : args = #[v0, v1, v2] := by cases args; simp_all
 obtain ⟨rfl, rfl⟩ := trodVars_none hV
 simp only [List.map_cons, List.map_nil, List.sum_cons, List.sum_nil] at hup
 obtain ⟨f0, hF0, hfit0, hw0⟩ := open_oneU (n0 := W.heap.size) upBulk shapeHunkPieces0 (cell_slice Try.underlying22 (hval 0 22 v0 rfl rfl)) h0 (fun m hm => all_le hsz1 (weightsEach_mem (i := 0) (t := 22) (d := d0) rfl rfl hm))
 obtain ⟨a0, rfl, hs0⟩ := fit_strs hfit0
 obtain ⟨f1, hF1, hfit1, hw1⟩ := open_oneU (n0 := W.heap.size) upBulk shapeHunkPieces1 (cell_slice Try.underlying22 (hval 1 22 v1 rfl rfl)) h1 (fun m hm => all_le hsz1 (weightsEach_mem (i := 1) (t := 22) (d := d1) rfl rfl hm))
 obtain ⟨a1, rfl, hs1⟩ := fit_strs hfit1
 obtain ⟨f2, hF2, hfit2, hw2⟩ := open_oneU (n0 := W.heap.size) upBulk shapeHunkPieces2 (cell_int Try.underlying3 (hval 2 3 v2 rfl rfl)) h2 (fun m hm => all_le hsz1 (weightsEach_mem (i := 2) (t := 3) (d := d2) rfl rfl hm))
 obtain ⟨a2, rfl, hs2⟩ := fit_int hfit2
 cases hF2
 refine (ret_calls (law_calls (hunkPieces_U a0 a1 a2 hs0 hs1 hs2 (by omega)) (reps_cons' (RepF.toH hF0) (reps_cons' (RepF.toH hF1) (reps_cons' (.v _) reps_nil'))))).mono fun e W' ⟨_, he, hr, bel⟩ => ?_
 subst he; subst hr
 exact ⟨_, rfl, _, _, _, [], _, [], hW', trodAll_mk1 (shut_bool Try.underlying4 _), trodAll_kept laidOutHunkPieces bel _ _ _ _ (by kernel_rfl) hA1, rfl, bel.frame _, fun h => by cases h⟩
theorem hunkPieces_holds : Rows.HunkPiecesUptoSaid :=
 OpenClaim.holds_of_cond 3 Try.f3 rfl rfl rfl rfl rfl rfl rfl ⟨rfl, rfl, rfl, rfl, rfl⟩ rfl rfl rfl rfl rfl (by kernel_rfl) Try.func3 (by kernel_rfl)
  (of_decide_eq_true (by kernel_rfl)) (by unfold Func.isWrapper; first | (rw [if_pos (by decide +kernel)]; kernel_rfl) | (rw [if_neg (by decide +kernel)]; exact ⟨rfl, rfl⟩))
  (fun os started H enc _ F => liftedHunkPieces os started H enc F)
#print axioms hunkPieces_holds
end Go.Proofs.Ytfojmpimnidmkaa
