/-
  UndoLeaves, where what comes in holds no more than a million values and letters; the listed variables tied to the program's text.
-/
import Derived.Test.YtkonlklieacjoaaDoorRows
import Derived.Test.YtkonlklieacjoaaDoorCards
import Derived.Test.YtkonlklieacjoaaDoorTie
import Derived.Test.YtkonlklieacjoaaDoorRcc
import Derived.Deep.DeepHandedRow
import Derived.Lay
import Derived.Test.YtkonlklieacjoaaDoorUv7
set_option linter.unusedVariables false
namespace Go.Proofs.YtkonlklieacjoaaDoor
open Go Go.Eng Go.RowKit Go.ChangeShapes Go.WideShapes Go.ChangeAt Go.Tr

theorem ownUndoLeaves : ownKnob Tryd.prog.godebug = none := by kernel_rfl
theorem laidOutUndoLeaves : laidOutB Tryd.prog = true := by kernel_rfl
theorem shapeUndoLeaves0 : shOf Tryd.prog 8 53 = some [.sl 40 [.str, .int .i64, .str], .sl 40 [.str, .int .i64, .str], .sl 40 [.str, .int .i64, .str]] := by kernel_rfl
theorem shapeUndoLeaves1 : shOf Tryd.prog 8 53 = some [.sl 40 [.str, .int .i64, .str], .sl 40 [.str, .int .i64, .str], .sl 40 [.str, .int .i64, .str]] := by kernel_rfl
theorem shapeUndoLeaves2 : shOf Tryd.prog 8 53 = some [.sl 40 [.str, .int .i64, .str], .sl 40 [.str, .int .i64, .str], .sl 40 [.str, .int .i64, .str]] := by kernel_rfl
theorem shapeUndoLeaves3 : shOf Tryd.prog 8 9 = some [.str] := by kernel_rfl
theorem laidmetUndoLeaves (os : Os) : laidMet Tryd.prog Rows.undoLeavesUptoRow.laid ((World.laidAll Tryd.prog os Rows.undoLeavesUptoRow.laid).forCall (fun _ _ => 0) ⟨#[], #[.agg #[.slice none 0 0, .slice none 0 0, .slice none 0 0], .agg #[.slice none 0 0, .slice none 0 0, .slice none 0 0], .agg #[.slice none 0 0, .slice none 0 0, .slice none 0 0], .string ByteArray.empty], []⟩).memory := laidMet_laidAll _ (by kernel_rfl) (by kernel_rfl)
theorem readsUndoLeaves (os : Os) {H : Type} (enc : TypeId × Value → H) : ∃ places, DataW.whole enc Tryd.prog ((World.laidAll Tryd.prog os Rows.undoLeavesUptoRow.laid).forCall (fun _ _ => 0) ⟨#[], #[.agg #[.slice none 0 0, .slice none 0 0, .slice none 0 0], .agg #[.slice none 0 0, .slice none 0 0, .slice none 0 0], .agg #[.slice none 0 0, .slice none 0 0, .slice none 0 0], .string ByteArray.empty], []⟩).memory Tryd.f11.params.toList Rows.undoLeavesSpec.vars false (#[.agg #[.slice none 0 0, .slice none 0 0, .slice none 0 0], .agg #[.slice none 0 0, .slice none 0 0, .slice none 0 0], .agg #[.slice none 0 0, .slice none 0 0, .slice none 0 0], .string ByteArray.empty] : Array Value).toList 8 = some ([.agg [.nil, .nil, .nil], .agg [.nil, .nil, .nil], .agg [.nil, .nil, .nil], .lit (.string [])], [], places) := ⟨[], by kernel_rfl⟩
set_option maxRecDepth 100000 in
theorem liftedUndoLeaves (os : Os) (started : os.Started) (H : Type) (enc : TypeId × Value → H) (F : Stop.Interp) :
  ReturnsInHanded {} Tryd.checked os 11 .any ((Rows.OpenSpec.upto Rows.undoLeavesSpec).preRow enc Tryd.prog Tryd.f11 Rows.undoLeavesUptoRow.domain false Rows.undoLeavesUptoRow.laid) (((Rows.OpenSpec.upto Rows.undoLeavesSpec).at F).post enc Tryd.prog Tryd.f11 false true false false) := by
 obtain ⟨places, hx⟩ := readsUndoLeaves os enc
 refine returnsInHanded_of_row (C := Tryd.checked) (s := Rows.OpenSpec.upto Rows.undoLeavesSpec) ownUndoLeaves started (by kernel_rfl) Tryd.func11
  (witness_row_at (enc := enc) (C := Tryd.checked) false (World.laidAll Tryd.prog os Rows.undoLeavesUptoRow.laid) #[.agg #[.slice none 0 0, .slice none 0 0, .slice none 0 0], .agg #[.slice none 0 0, .slice none 0 0, .slice none 0 0], .agg #[.slice none 0 0, .slice none 0 0, .slice none 0 0], .string ByteArray.empty] (World.laidAll_os _ _ _) (by kernel_rfl) (by kernel_rfl) (by kernel_rfl)
   (OpenSpec.preRow_of_cond 8 hx (by kernel_rfl) (fun k hk => by cases hk; kernel_rfl) (by kernel_rfl) (laidmetUndoLeaves os))) ?_
 intro W base args ds gs before hval0 hW _ hcond hsz hL _ _
 have hval : ∀ (j : Nat) t v, Tryd.f11.params[j]? = some t → args[j]? = some v → Value.okWide Tryd.prog W .any base t v := hval0
 have hk := hcond _ rfl
 have hW' := hW
 obtain ⟨p, q, hA0, hV, rfl, hfz, hnd⟩ := hW
 have hA : DataW.TrodAll enc Tryd.prog W 0 (fun _ => true) true Tryd.f11.params.toList args.toList ds p := hA0
 rw [Tryd.params11] at hA hval
 have hsz1 : (DataW.weightsEach Tryd.prog (Tryd.f11.params.toList ++ Rows.undoLeavesSpec.plain.varTypes Tryd.prog) (ds ++ gs)).all (· ≤ reachBytes) = true := hsz
 rw [Tryd.params11] at hsz1
 have hA1 := hA
 have hup := upMem hk
 obtain ⟨v0, vs0, d0, ds0, p0, q0, hargs, rfl, rfl, h0, r0⟩ := trodAll_cons hA
 obtain ⟨v1, vs1, d1, ds1, p1, q1, rfl, rfl, rfl, h1, r1⟩ := trodAll_cons r0
 obtain ⟨v2, vs2, d2, ds2, p2, q2, rfl, rfl, rfl, h2, r2⟩ := trodAll_cons r1
 obtain ⟨v3, vs3, d3, ds3, p3, q3, rfl, rfl, rfl, h3, r3⟩ := trodAll_cons r2
 obtain ⟨rfl, rfl, rfl⟩ := trodAll_nil r3
 obtain rfl : args = #[v0, v1, v2, v3] := by cases args; simp_all
 obtain ⟨rfl, rfl⟩ := trodVars_none hV
 simp only [List.map_cons, List.map_nil, List.sum_cons, List.sum_nil] at hup
 obtain ⟨a0, hF0, hw0⟩ := open_tri (n0 := W.heap.size) upBulk shapeUndoLeaves0 Tryd.underlying53 (hval 0 53 v0 rfl rfl) h0 (fun m hm => all_le hsz1 (weightsEach_mem (i := 0) (t := 53) (d := d0) rfl rfl hm))
 obtain ⟨a1, hF1, hw1⟩ := open_tri (n0 := W.heap.size) upBulk shapeUndoLeaves1 Tryd.underlying53 (hval 1 53 v1 rfl rfl) h1 (fun m hm => all_le hsz1 (weightsEach_mem (i := 1) (t := 53) (d := d1) rfl rfl hm))
 obtain ⟨a2, hF2, hw2⟩ := open_tri (n0 := W.heap.size) upBulk shapeUndoLeaves2 Tryd.underlying53 (hval 2 53 v2 rfl rfl) h2 (fun m hm => all_le hsz1 (weightsEach_mem (i := 2) (t := 53) (d := d2) rfl rfl hm))
 obtain ⟨f3, hF3, hfit3, hw3⟩ := open_oneU (n0 := W.heap.size) upBulk shapeUndoLeaves3 (cell_string Tryd.underlying9 (hval 3 9 v3 rfl rfl)) h3 (fun m hm => all_le hsz1 (weightsEach_mem (i := 3) (t := 9) (d := d3) rfl rfl hm))
 obtain ⟨a3, rfl, hs3⟩ := fit_str hfit3
 cases hF3
 refine (ret_calls (law_calls (undoLeaves_U a0 a1 a2 a3 (by omega)) (reps_cons' hF0 (reps_cons' hF1 (reps_cons' hF2 (reps_cons' (.v _) reps_nil')))))).mono fun e W' ⟨_, he, hr, bel⟩ => ?_
 subst he; subst hr
 exact ⟨_, rfl, _, _, _, [], _, [], hW', trodAll_mk1 (shut_bool Tryd.underlying4 _), trodAll_kept laidOutUndoLeaves bel _ _ _ _ (by kernel_rfl) hA1, rfl, bel.frame _, fun h => by cases h⟩
theorem undoLeaves_said : Rows.UndoLeavesUptoSaid :=
 OpenClaim.holds_of_cond 11 Tryd.f11 rfl rfl rfl rfl rfl rfl rfl ⟨rfl, rfl, rfl, rfl, rfl⟩ rfl rfl rfl rfl rfl (by kernel_rfl) Tryd.func11 (by kernel_rfl)
  (of_decide_eq_true (by kernel_rfl)) (by unfold Func.isWrapper; first | (rw [if_pos (by decide +kernel)]; kernel_rfl) | (rw [if_neg (by decide +kernel)]; exact ⟨rfl, rfl⟩))
  (fun os started H enc _ F => by rw [OpenClaim.pre_eq_preRow]; exact liftedUndoLeaves os started H enc F)
set_option maxRecDepth 100000 in
theorem plainUndoLeaves (f : FuncId) (fn : Func) (hf : Tryd.pinned.checked.prog.funcNamed "tether/tetherlaw22.UndoLeaves" = some f) (hfn : Tryd.pinned.checked.prog.funcs[f]? = some fn) :
  false = Tryd.pinned.checked.prog.looks [] ∧ ∀ (j : Nat) t, fn.params[j]? = some t → Tryd.pinned.checked.prog.wantsStandIn t = false := by
 obtain rfl : f = 11 := Option.some.inj ((show Tryd.prog.funcNamed "tether/tetherlaw22.UndoLeaves" = some 11 by kernel_rfl).symm.trans hf) |>.symm
 obtain rfl : fn = Tryd.f11 := (Option.some.inj (Tryd.func11.symm.trans hfn)).symm
 refine ⟨by kernel_rfl, fun j t ht => ?_⟩
 rw [Tryd.params11] at ht
 have hm := Array.mem_of_getElem? ht
 simp only [Array.mem_def, List.mem_cons, List.mem_nil_iff, or_false] at hm
 rcases hm with rfl | rfl | rfl | rfl
 all_goals first | exact (show Tryd.prog.wantsStandIn 53 = false by kernel_rfl) | exact (show Tryd.prog.wantsStandIn 9 = false by kernel_rfl)
theorem undoLeaves_holds : Rows.UndoLeavesUptoCardSaid :=
 Claim7.holds_tied_plain_at .later [] _ _ _ _ undoLeaves_said (fun _ h => by cases h) (by kernel_rfl) (fun _ h => by cases h) undoLeavesUpto_row_tie rfl ⟨rfl, rfl⟩ (by kernel_rfl) rfl plainUndoLeaves (by kernel_rfl)
#print axioms undoLeaves_holds
end Go.Proofs.YtkonlklieacjoaaDoor
