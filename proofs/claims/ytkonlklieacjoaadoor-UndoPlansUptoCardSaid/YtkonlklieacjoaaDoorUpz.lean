/-
  UndoPlans, where what comes in holds no more than a million values and letters; the listed variables tied to the program's text.
-/
import Derived.Test.YtkonlklieacjoaaDoorRows
import Derived.Test.YtkonlklieacjoaaDoorCards
import Derived.Test.YtkonlklieacjoaaDoorTie
import Derived.Test.YtkonlklieacjoaaDoorRcv
import Derived.Deep.DeepHandedRow
import Derived.Lay
import Derived.Test.YtkonlklieacjoaaDoorUp9
set_option linter.unusedVariables false
namespace Go.Proofs.YtkonlklieacjoaaDoor
open Go Go.Eng Go.RowKit Go.ChangeShapes Go.WideShapes Go.ChangeAt Go.Tr

theorem ownUndoPlans : ownKnob Tryd.prog.godebug = none := by kernel_rfl
theorem laidOutUndoPlans : laidOutB Tryd.prog = true := by kernel_rfl
theorem shapeUndoPlans0 : qNa Tryd.prog 8 52 = some [.int .i64, .int .i64, .int .i64, .sl 168 zPd] := by kernel_rfl
theorem shapeUndoPlans1 : qNa Tryd.prog 8 53 = some [.sl 40 [.str, .int .i64, .str], .sl 40 [.str, .int .i64, .str], .sl 40 [.str, .int .i64, .str]] := by kernel_rfl
theorem laidmetUndoPlans (os : Os) : laidMet Tryd.prog Rows.undoPlansUptoRow.laid ((World.laidAll Tryd.prog os Rows.undoPlansUptoRow.laid).forCall (fun _ _ => 0) ⟨#[], #[.agg #[.int .i64 0, .int .i64 0, .int .i64 0, .slice none 0 0], .agg #[.slice none 0 0, .slice none 0 0, .slice none 0 0]], []⟩).memory := laidMet_laidAll _ (by kernel_rfl) (by kernel_rfl)
theorem readsUndoPlans (os : Os) {H : Type} (enc : TypeId × Value → H) : ∃ places, DataW.whole enc Tryd.prog ((World.laidAll Tryd.prog os Rows.undoPlansUptoRow.laid).forCall (fun _ _ => 0) ⟨#[], #[.agg #[.int .i64 0, .int .i64 0, .int .i64 0, .slice none 0 0], .agg #[.slice none 0 0, .slice none 0 0, .slice none 0 0]], []⟩).memory Tryd.f9.params.toList Rows.undoPlansSpec.vars false (#[.agg #[.int .i64 0, .int .i64 0, .int .i64 0, .slice none 0 0], .agg #[.slice none 0 0, .slice none 0 0, .slice none 0 0]] : Array Value).toList 8 = some ([.agg [.lit (.int .i64 0), .lit (.int .i64 0), .lit (.int .i64 0), .nil], .agg [.nil, .nil, .nil]], [], places) := ⟨[], by kernel_rfl⟩
set_option maxRecDepth 100000 in
theorem liftedUndoPlans (os : Os) (started : os.Started) (H : Type) (enc : TypeId × Value → H) (F : Stop.Interp) :
  ReturnsInHanded {} Tryd.checked os 9 .any ((Rows.OpenSpec.upto Rows.undoPlansSpec).preRow enc Tryd.prog Tryd.f9 Rows.undoPlansUptoRow.domain false Rows.undoPlansUptoRow.laid) (((Rows.OpenSpec.upto Rows.undoPlansSpec).at F).post enc Tryd.prog Tryd.f9 false true false false) := by
 obtain ⟨places, hx⟩ := readsUndoPlans os enc
 refine returnsInHanded_of_row (C := Tryd.checked) (s := Rows.OpenSpec.upto Rows.undoPlansSpec) ownUndoPlans started (by kernel_rfl) Tryd.func9
  (witness_row_at (enc := enc) (C := Tryd.checked) false (World.laidAll Tryd.prog os Rows.undoPlansUptoRow.laid) #[.agg #[.int .i64 0, .int .i64 0, .int .i64 0, .slice none 0 0], .agg #[.slice none 0 0, .slice none 0 0, .slice none 0 0]] (World.laidAll_os _ _ _) (by kernel_rfl) (by kernel_rfl) (by kernel_rfl)
   (OpenSpec.preRow_of_cond 8 hx (by kernel_rfl) (fun k hk => by cases hk; kernel_rfl) (by kernel_rfl) (laidmetUndoPlans os))) ?_
 intro W base args ds gs before hval0 hW _ hcond hsz hL _ _
 have hval : ∀ (j : Nat) t v, Tryd.f9.params[j]? = some t → args[j]? = some v → Value.okWide Tryd.prog W .any base t v := hval0
 have hk := hcond _ rfl
 have hW' := hW
 obtain ⟨p, q, hA0, hV, rfl, hfz, hnd⟩ := hW
 have hA : DataW.TrodAll enc Tryd.prog W 0 (fun _ => true) true Tryd.f9.params.toList args.toList ds p := hA0
 rw [Tryd.params9] at hA hval
 have hsz1 : (DataW.weightsEach Tryd.prog (Tryd.f9.params.toList ++ Rows.undoPlansSpec.plain.varTypes Tryd.prog) (ds ++ gs)).all (· ≤ reachBytes) = true := hsz
 rw [Tryd.params9] at hsz1
 have hA1 := hA
 have hup := zP1 hk
 obtain ⟨v0, vs0, d0, ds0, p0, q0, hargs, rfl, rfl, h0, r0⟩ := trodAll_cons hA
 obtain ⟨v1, vs1, d1, ds1, p1, q1, rfl, rfl, rfl, h1, r1⟩ := trodAll_cons r0
 obtain ⟨rfl, rfl, rfl⟩ := trodAll_nil r1
 obtain rfl : args = #[v0, v1] := by cases args; simp_all
 obtain ⟨rfl, rfl⟩ := trodVars_none hV
 simp only [List.map_cons, List.map_nil, List.sum_cons, List.sum_nil] at hup
 obtain ⟨a0, hF0, hw0⟩ := zGy (n0 := W.heap.size) zFo shapeUndoPlans0 Tryd.underlying52 (hval 0 52 v0 rfl rfl) h0 (fun m hm => zJz hsz1 (nE (i := 0) (t := 52) (d := d0) rfl rfl hm))
 obtain ⟨a1, hF1, hw1⟩ := zGx (n0 := W.heap.size) zFo shapeUndoPlans1 Tryd.underlying53 (hval 1 53 v1 rfl rfl) h1 (fun m hm => zJz hsz1 (nE (i := 1) (t := 53) (d := d1) rfl rfl hm))
 refine (zDu (zD8 (qTo a0 a1 (by omega)) (qHs hF0 (qHs hF1 zDw)))).mono fun e W' ⟨_, he, hr, bel⟩ => ?_
 subst he; subst hr
 exact ⟨_, rfl, _, _, _, [], _, [], hW', trodAll_mk1 (shut_bool Tryd.underlying4 _), qBz laidOutUndoPlans bel _ _ _ _ (by kernel_rfl) hA1, rfl, bel.frame _, fun h => by cases h⟩
theorem undoPlans_said : Rows.UndoPlansUptoSaid :=
 OpenClaim.holds_of_cond 9 Tryd.f9 rfl rfl rfl rfl rfl rfl rfl ⟨rfl, rfl, rfl, rfl, rfl⟩ rfl rfl rfl rfl rfl (by kernel_rfl) Tryd.func9 (by kernel_rfl)
  (of_decide_eq_true (by kernel_rfl)) (by unfold Func.isWrapper; first | (rw [if_pos (by decide +kernel)]; kernel_rfl) | (rw [if_neg (by decide +kernel)]; exact ⟨rfl, rfl⟩))
  (fun os started H enc _ F => by rw [OpenClaim.pre_eq_preRow]; exact liftedUndoPlans os started H enc F)
set_option maxRecDepth 100000 in
theorem plainUndoPlans (f : FuncId) (fn : Func) (hf : Tryd.pinned.checked.prog.funcNamed "tether/tetherlaw22.UndoPlans" = some f) (hfn : Tryd.pinned.checked.prog.funcs[f]? = some fn) :
  false = Tryd.pinned.checked.prog.looks [] ∧ ∀ (j : Nat) t, fn.params[j]? = some t → Tryd.pinned.checked.prog.wantsStandIn t = false := by
 obtain rfl : f = 9 := Option.some.inj ((show Tryd.prog.funcNamed "tether/tetherlaw22.UndoPlans" = some 9 by kernel_rfl).symm.trans hf) |>.symm
 obtain rfl : fn = Tryd.f9 := (Option.some.inj (Tryd.func9.symm.trans hfn)).symm
 refine ⟨by kernel_rfl, fun j t ht => ?_⟩
 rw [Tryd.params9] at ht
 have hm := Array.mem_of_getElem? ht
 simp only [Array.mem_def, List.mem_cons, List.mem_nil_iff, or_false] at hm
 rcases hm with rfl | rfl
 all_goals first | exact (show Tryd.prog.wantsStandIn 52 = false by kernel_rfl) | exact (show Tryd.prog.wantsStandIn 53 = false by kernel_rfl)
theorem undoPlans_holds : Rows.UndoPlansUptoCardSaid :=
 Claim7.holds_tied_plain_at .later [] _ _ _ _ undoPlans_said (fun _ h => by cases h) (by kernel_rfl) (fun _ h => by cases h) undoPlansUpto_row_tie rfl ⟨rfl, rfl⟩ (by kernel_rfl) rfl plainUndoPlans (by kernel_rfl)
#print axioms undoPlans_holds
end Go.Proofs.YtkonlklieacjoaaDoor
