/-
  DiskPlays, where what comes in holds no more than a million values and letters; the listed variables tied to the program's text.
-/
import Derived.Test.YtojolcpblacjjaaGreatDoorRows
import Derived.Test.YtojolcpblacjjaaGreatDoorCards
import Derived.Test.YtojolcpblacjjaaGreatDoorTie
import Derived.Test.YtojolcpblacjjaaGreatDoorDrj
import Derived.Deep.DeepHandedRow
import Derived.Lay
import Derived.Test.YtojolcpblacjjaaGreatDoorLkP
set_option linter.unusedVariables false
namespace Go.Proofs.YtojolcpblacjjaaGreatDoor
open Go Go.Eng Go.RowKit Go.ChangeShapes Go.WideShapes Go.ChangeAt Go.Tr

theorem ownDiskPlays : ownKnob Tryz.prog.godebug = none := by kernel_rfl
theorem laidOutDiskPlays : laidOutB Tryz.prog = true := by kernel_rfl
theorem shapeDiskPlays0 : qRw Tryz.prog 8 22 = some [.sl 48 [.int .i64, .str, .str, .int .i64]] := by kernel_rfl
theorem laidmetDiskPlays (os : Os) : laidMet Tryz.prog Rows.diskPlaysUptoRow.laid ((World.laidAll Tryz.prog os Rows.diskPlaysUptoRow.laid).forCall (fun _ _ => 0) ⟨#[], #[.slice none 0 0], []⟩).memory := laidMet_laidAll _ (by kernel_rfl) (by kernel_rfl)
theorem readsDiskPlays (os : Os) {H : Type} (enc : TypeId × Value → H) : ∃ places, DataW.whole enc Tryz.prog ((World.laidAll Tryz.prog os Rows.diskPlaysUptoRow.laid).forCall (fun _ _ => 0) ⟨#[], #[.slice none 0 0], []⟩).memory Tryz.f3.params.toList Rows.diskPlaysSpec.vars false (#[.slice none 0 0] : Array Value).toList 8 = some ([.nil], [], places) := ⟨[], by kernel_rfl⟩
set_option maxRecDepth 100000 in
theorem liftedDiskPlays (os : Os) (started : os.Started) (H : Type) (enc : TypeId × Value → H) (F : Stop.Interp) :
  ReturnsInHanded {} Tryz.checked os 3 .any ((Rows.OpenSpec.upto Rows.diskPlaysSpec).preRow enc Tryz.prog Tryz.f3 Rows.diskPlaysUptoRow.domain false Rows.diskPlaysUptoRow.laid) (((Rows.OpenSpec.upto Rows.diskPlaysSpec).at F).post enc Tryz.prog Tryz.f3 false true false false) := by
 obtain ⟨places, hx⟩ := readsDiskPlays os enc
 refine returnsInHanded_of_row (C := Tryz.checked) (s := Rows.OpenSpec.upto Rows.diskPlaysSpec) ownDiskPlays started (by kernel_rfl) Tryz.func3
  (witness_row_at (enc := enc) (C := Tryz.checked) false (World.laidAll Tryz.prog os Rows.diskPlaysUptoRow.laid) #[.slice none 0 0] (World.laidAll_os _ _ _) (by kernel_rfl) (by kernel_rfl) (by kernel_rfl)
   (OpenSpec.preRow_of_cond 8 hx (by kernel_rfl) (fun k hk => by cases hk; kernel_rfl) (by kernel_rfl) (laidmetDiskPlays os))) ?_
 intro W base args ds gs before hval0 hW _ hcond hsz hL _ _
 have hval : ∀ (j : Nat) t v, Tryz.f3.params[j]? = some t → args[j]? = some v → Value.okWide Tryz.prog W .any base t v := hval0
 have hk := hcond _ rfl
 have hW' := hW
 obtain ⟨p, q, hA0, hV, rfl, hfz, hnd⟩ := hW
 have hA : DataW.TrodAll enc Tryz.prog W 0 (fun _ => true) true Tryz.f3.params.toList args.toList ds p := hA0
 rw [Tryz.params3] at hA hval
 have hsz1 : (DataW.weightsEach Tryz.prog (Tryz.f3.params.toList ++ Rows.diskPlaysSpec.plain.varTypes Tryz.prog) (ds ++ gs)).all (· ≤ reachBytes) = true := hsz
 rw [Tryz.params3] at hsz1
 have hA1 := hA
 have hup := zKa hk
 obtain ⟨v0, vs0, d0, ds0, p0, q0, hargs, rfl, rfl, h0, r0⟩ := trodAll_cons hA
 obtain ⟨rfl, rfl, rfl⟩ := trodAll_nil r0
 obtain rfl : args = #[v0] := by cases args; simp_all
 obtain ⟨rfl, rfl⟩ := trodVars_none hV
 simp only [List.map_cons, List.map_nil, List.sum_cons, List.sum_nil] at hup
 obtain ⟨f0, hF0, hfit0, hw0⟩ := zAn (n0 := W.heap.size) zHs shapeDiskPlays0 (qWr Tryz.underlying22 (hval 0 22 v0 rfl rfl)) h0 (fun m hm => zJs hsz1 (uT (i := 0) (t := 22) (d := d0) rfl rfl hm))
 obtain ⟨a0, rfl, hs0⟩ := zEz hfit0
 refine (zAd (zAu (qUs a0 hs0 (by omega)) (qVs (RepF.toH hF0) zAf))).mono fun e W' ⟨_, he, hr, bel⟩ => ?_
 subst he; subst hr
 exact ⟨_, rfl, _, _, _, [], _, [], hW', trodAll_mk1 (shut_bool Tryz.underlying4 _), qBf laidOutDiskPlays bel _ _ _ _ (by kernel_rfl) hA1, rfl, bel.frame _, fun h => by cases h⟩
theorem diskPlays_said : Rows.DiskPlaysUptoSaid :=
 OpenClaim.holds_of_cond 3 Tryz.f3 rfl rfl rfl rfl rfl rfl rfl ⟨rfl, rfl, rfl, rfl, rfl⟩ rfl rfl rfl rfl rfl (by kernel_rfl) Tryz.func3 (by kernel_rfl)
  (of_decide_eq_true (by kernel_rfl)) (by unfold Func.isWrapper; first | (rw [if_pos (by decide +kernel)]; kernel_rfl) | (rw [if_neg (by decide +kernel)]; exact ⟨rfl, rfl⟩))
  (fun os started H enc _ F => by rw [OpenClaim.pre_eq_preRow]; exact liftedDiskPlays os started H enc F)
set_option maxRecDepth 100000 in
theorem plainDiskPlays (f : FuncId) (fn : Func) (hf : Tryz.pinned.checked.prog.funcNamed "tether/tetherlaw05.DiskPlays" = some f) (hfn : Tryz.pinned.checked.prog.funcs[f]? = some fn) :
  false = Tryz.pinned.checked.prog.looks [] ∧ ∀ (j : Nat) t, fn.params[j]? = some t → Tryz.pinned.checked.prog.wantsStandIn t = false := by
 obtain rfl : f = 3 := Option.some.inj ((show Tryz.prog.funcNamed "tether/tetherlaw05.DiskPlays" = some 3 by kernel_rfl).symm.trans hf) |>.symm
 obtain rfl : fn = Tryz.f3 := (Option.some.inj (Tryz.func3.symm.trans hfn)).symm
 refine ⟨by kernel_rfl, fun j t ht => ?_⟩
 rw [Tryz.params3] at ht
 have hm := Array.mem_of_getElem? ht
 simp only [Array.mem_def, List.mem_cons, List.mem_nil_iff, or_false] at hm
 rcases hm with rfl
 all_goals first | exact (show Tryz.prog.wantsStandIn 22 = false by kernel_rfl)
theorem diskPlays_holds : Rows.DiskPlaysUptoCardSaid :=
 Claim7.holds_tied_plain_at .later [] _ _ _ _ diskPlays_said (fun _ h => by cases h) (by kernel_rfl) (fun _ h => by cases h) diskPlaysUpto_row_tie rfl ⟨rfl, rfl⟩ (by kernel_rfl) rfl plainDiskPlays (by kernel_rfl)
#print axioms diskPlays_holds
end Go.Proofs.YtojolcpblacjjaaGreatDoor
