/- MergeTexts, where what comes in holds no more than a million values and letters. -/
import Derived.Test.YtlfenddhppoflaaRows
import Derived.Test.YtlfenddhppoflaaUpt
import Derived.Test.YtlfenddhppoflaaGd
import Derived.Test.YtlfenddhppoflaaMrE
set_option linter.unusedVariables false
namespace Go.Proofs.Ytlfenddhppoflaa
open Go Go.Eng Go.RowKit Go.ChangeShapes Go.WideShapes Go.ChangeAt

theorem ownMergeTexts : ownKnob Try.prog.godebug = none := by kernel_rfl
theorem laidOutMergeTexts : laidOutB Try.prog = true := by kernel_rfl
theorem shapeMergeTexts0 : shOf Try.prog 8 9 = some [.str] := by kernel_rfl
theorem shapeMergeTexts1 : shOf Try.prog 8 9 = some [.str] := by kernel_rfl
theorem shapeMergeTexts2 : shOf Try.prog 8 9 = some [.str] := by kernel_rfl
set_option maxRecDepth 100000 in
theorem liftedMergeTexts (os : Os) (started : os.Started) (H : Type) (enc : TypeId × Value → H) (F : Stop.Interp) :
  ReturnsInHanded {} Try.checked os 15 .any ((Rows.OpenSpec.upto Rows.mergeTextsSpec).pre6 enc Try.prog Try.f15 Rows.mergeTextsUptoRow.domain false) (((Rows.OpenSpec.upto Rows.mergeTextsSpec).at F).post enc Try.prog Try.f15 false true false false) := by
 refine returnsInHanded_of_cond_sized (C := Try.checked) (s := Rows.OpenSpec.upto Rows.mergeTextsSpec) (k := Rows.uptoSmall) rfl ownMergeTexts started (by kernel_rfl) Try.func15
  (OpenSpec.witness (enc := enc) (C := Try.checked) (s := Rows.OpenSpec.upto Rows.mergeTextsSpec) (k := Rows.uptoSmall) rfl false ⟨#[], #[.string ByteArray.empty, .string ByteArray.empty, .string ByteArray.empty], []⟩ 8 (by kernel_rfl) (by kernel_rfl) (by kernel_rfl)
   (x := ([.lit (.string []), .lit (.string []), .lit (.string [])], [], [])) (by kernel_rfl) rfl (by kernel_rfl)) ?_
 intro W base args ds gs before hval0 hW hcnd hk hsz _
 have hval : ∀ (j : Nat) t v, Try.f15.params[j]? = some t → args[j]? = some v → Value.okWide Try.prog W .any base t v := hval0
 have hW' := hW
 obtain ⟨p, q, hA0, hV, rfl, hfz, hnd⟩ := hW
 have hA : DataW.TrodAll enc Try.prog W 0 (fun _ => true) true Try.f15.params.toList args.toList ds p := hA0
 rw [Try.params15] at hA hval
 have hsz1 : (DataW.weightsEach Try.prog (Try.f15.params.toList ++ Rows.mergeTextsSpec.plain.varTypes Try.prog) (ds ++ gs)).all (· ≤ reachBytes) = true := hsz
 rw [Try.params15] at hsz1
 have hA1 := hA
 have hup := upMem hk
 obtain ⟨v0, vs0, d0, ds0, p0, q0, hargs, rfl, rfl, h0, r0⟩ := trodAll_cons hA
 obtain ⟨v1, vs1, d1, ds1, p1, q1, rfl, rfl, rfl, h1, r1⟩ := trodAll_cons r0
 obtain ⟨v2, vs2, d2, ds2, p2, q2, rfl, rfl, rfl, h2, r2⟩ := trodAll_cons r1
 obtain ⟨rfl, rfl, rfl⟩ := trodAll_nil r2
 obtain rfl : args = #[v0, v1, v2] := by cases args; simp_all
 obtain ⟨rfl, rfl⟩ := trodVars_none hV
 simp only [List.map_cons, List.map_nil, List.sum_cons, List.sum_nil] at hup
 obtain ⟨f0, hF0, hfit0, hw0⟩ := open_oneU (n0 := W.heap.size) upBulk shapeMergeTexts0 (cell_string Try.underlying9 (hval 0 9 v0 rfl rfl)) h0 (fun m hm => all_le hsz1 (weightsEach_mem (i := 0) (t := 9) (d := d0) rfl rfl hm))
 obtain ⟨a0, rfl, hs0⟩ := fit_str hfit0
 cases hF0
 obtain ⟨f1, hF1, hfit1, hw1⟩ := open_oneU (n0 := W.heap.size) upBulk shapeMergeTexts1 (cell_string Try.underlying9 (hval 1 9 v1 rfl rfl)) h1 (fun m hm => all_le hsz1 (weightsEach_mem (i := 1) (t := 9) (d := d1) rfl rfl hm))
 obtain ⟨a1, rfl, hs1⟩ := fit_str hfit1
 cases hF1
 obtain ⟨f2, hF2, hfit2, hw2⟩ := open_oneU (n0 := W.heap.size) upBulk shapeMergeTexts2 (cell_string Try.underlying9 (hval 2 9 v2 rfl rfl)) h2 (fun m hm => all_le hsz1 (weightsEach_mem (i := 2) (t := 9) (d := d2) rfl rfl hm))
 obtain ⟨a2, rfl, hs2⟩ := fit_str hfit2
 cases hF2
 refine (ret_calls (law_calls (mergeTexts_law a0 a1 a2 hs0 hs1 hs2 (by omega)) (reps_cons' (.v _) (reps_cons' (.v _) (reps_cons' (.v _) reps_nil'))))).mono fun e W' ⟨_, he, hr, bel⟩ => ?_
 subst he; subst hr
 exact ⟨_, rfl, _, _, _, [], _, [], hW', trodAll_mk1 (shut_bool Try.underlying4 _), trodAll_kept laidOutMergeTexts bel _ _ _ _ (by kernel_rfl) hA1, rfl, bel.frame _, fun h => by cases h⟩
theorem mergeTexts_holds : Rows.MergeTextsUptoSaid :=
 OpenClaim.holds_of_cond 15 Try.f15 rfl rfl rfl rfl rfl rfl rfl ⟨rfl, rfl, rfl, rfl, rfl⟩ rfl rfl rfl rfl rfl (by kernel_rfl) Try.func15 (by kernel_rfl)
  (of_decide_eq_true (by kernel_rfl)) (by unfold Func.isWrapper; first | (rw [if_pos (by decide +kernel)]; kernel_rfl) | (rw [if_neg (by decide +kernel)]; exact ⟨rfl, rfl⟩))
  (fun os started H enc _ F => liftedMergeTexts os started H enc F)
#print axioms mergeTexts_holds
end Go.Proofs.Ytlfenddhppoflaa
