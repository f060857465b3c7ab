/-
  DiskStops, where what comes in holds no more than a million values and letters; the listed variables tied to the program's text.
-/
import Derived.Test.YtojolcpblacjjaaDoorRows
import Derived.Test.YtojolcpblacjjaaDoorCards
import Derived.Test.YtojolcpblacjjaaDoorTie
import Derived.Test.YtojolcpblacjjaaDoorUpe
import Derived.Deep.DeepHandedRow
import Derived.Lay
import Derived.Test.YtojolcpblacjjaaDoorDkX
set_option linter.unusedVariables false
namespace Go.Proofs.YtojolcpblacjjaaDoor
open Go Go.Eng Go.RowKit Go.ChangeShapes Go.WideShapes Go.ChangeAt Go.Tr

theorem ownDiskStops : ownKnob Tryd.prog.godebug = none := by kernel_rfl
theorem laidOutDiskStops : laidOutB Tryd.prog = true := by kernel_rfl
theorem shapeDiskStops0 : shOf Tryd.prog 8 22 = some [.sl 16 [.str]] := by kernel_rfl
theorem shapeDiskStops1 : shOf Tryd.prog 8 3 = some [.int .i64] := by kernel_rfl
theorem laidmetDiskStops (os : Os) : laidMet Tryd.prog Rows.diskStopsUptoRow.laid ((World.laidAll Tryd.prog os Rows.diskStopsUptoRow.laid).forCall (fun _ _ => 0) ⟨#[], #[.slice none 0 0, .int .i64 0], []⟩).memory := laidMet_laidAll _ (by kernel_rfl) (by kernel_rfl)
theorem readsDiskStops (os : Os) {H : Type} (enc : TypeId × Value → H) : ∃ places, DataW.whole enc Tryd.prog ((World.laidAll Tryd.prog os Rows.diskStopsUptoRow.laid).forCall (fun _ _ => 0) ⟨#[], #[.slice none 0 0, .int .i64 0], []⟩).memory Tryd.f6.params.toList Rows.diskStopsSpec.vars false (#[.slice none 0 0, .int .i64 0] : Array Value).toList 8 = some ([.nil, .lit (.int .i64 0)], [], places) := ⟨[], by kernel_rfl⟩
set_option maxRecDepth 100000 in
theorem liftedDiskStops (os : Os) (started : os.Started) (H : Type) (enc : TypeId × Value → H) (F : Stop.Interp) :
  ReturnsInHanded {} Tryd.checked os 6 .any ((Rows.OpenSpec.upto Rows.diskStopsSpec).preRow enc Tryd.prog Tryd.f6 Rows.diskStopsUptoRow.domain false Rows.diskStopsUptoRow.laid) (((Rows.OpenSpec.upto Rows.diskStopsSpec).at F).post enc Tryd.prog Tryd.f6 false true false false) := by
 obtain ⟨places, hx⟩ := readsDiskStops os enc
 refine returnsInHanded_of_row (C := Tryd.checked) (s := Rows.OpenSpec.upto Rows.diskStopsSpec) ownDiskStops started (by kernel_rfl) Tryd.func6
  (witness_row_at (enc := enc) (C := Tryd.checked) false (World.laidAll Tryd.prog os Rows.diskStopsUptoRow.laid) #[.slice none 0 0, .int .i64 0] (World.laidAll_os _ _ _) (by kernel_rfl) (by kernel_rfl) (by kernel_rfl)
   (OpenSpec.preRow_of_cond 8 hx (by kernel_rfl) (fun k hk => by cases hk; kernel_rfl) (by kernel_rfl) (laidmetDiskStops os))) ?_
 intro W base args ds gs before hval0 hW _ hcond hsz hL _ _
 have hval : ∀ (j : Nat) t v, Tryd.f6.params[j]? = some t → args[j]? = some v → Value.okWide Tryd.prog W .any base t v := hval0
 have hk := hcond _ rfl
 have hW' := hW
 obtain ⟨p, q, hA0, hV, rfl, hfz, hnd⟩ := hW
 have hA : DataW.TrodAll enc Tryd.prog W 0 (fun _ => true) true Tryd.f6.params.toList args.toList ds p := hA0
 rw [Tryd.params6] at hA hval
 have hsz1 : (DataW.weightsEach Tryd.prog (Tryd.f6.params.toList ++ Rows.diskStopsSpec.plain.varTypes Tryd.prog) (ds ++ gs)).all (· ≤ reachBytes) = true := hsz
 rw [Tryd.params6] at hsz1
 have hA1 := hA
 have hup := upMem hk
 obtain ⟨v0, vs0, d0, ds0, p0, q0, hargs, rfl, rfl, h0, r0⟩ := trodAll_cons hA
 obtain ⟨v1, vs1, d1, ds1, p1, q1, rfl, rfl, rfl, h1, r1⟩ := trodAll_cons r0
 obtain ⟨rfl, rfl, rfl⟩ := trodAll_nil r1
 obtain rfl : args = #[v0, v1] := by cases args; simp_all
 obtain ⟨rfl, rfl⟩ := trodVars_none hV
 simp only [List.map_cons, List.map_nil, List.sum_cons, List.sum_nil] at hup
 obtain ⟨f0, hF0, hfit0, hw0⟩ := open_oneU (n0 := W.heap.size) upBulk shapeDiskStops0 (cell_slice Tryd.underlying22 (hval 0 22 v0 rfl rfl)) h0 (fun m hm => all_le hsz1 (weightsEach_mem (i := 0) (t := 22) (d := d0) rfl rfl hm))
 obtain ⟨a0, rfl, hs0⟩ := fit_strs hfit0
 obtain ⟨f1, hF1, hfit1, hw1⟩ := open_oneU (n0 := W.heap.size) upBulk shapeDiskStops1 (cell_int Tryd.underlying3 (hval 1 3 v1 rfl rfl)) h1 (fun m hm => all_le hsz1 (weightsEach_mem (i := 1) (t := 3) (d := d1) rfl rfl hm))
 obtain ⟨a1, rfl, hs1⟩ := fit_int hfit1
 cases hF1
 refine (ret_calls (law_calls (diskStops_U a0 a1 hs1 (by omega)) (reps_cons' (RepF.toH hF0) (reps_cons' (.v _) reps_nil')))).mono fun e W' ⟨_, he, hr, bel⟩ => ?_
 subst he; subst hr
 exact ⟨_, rfl, _, _, _, [], _, [], hW', trodAll_mk1 (shut_bool Tryd.underlying4 _), trodAll_kept laidOutDiskStops bel _ _ _ _ (by kernel_rfl) hA1, rfl, bel.frame _, fun h => by cases h⟩
theorem diskStops_said : Rows.DiskStopsUptoSaid :=
 OpenClaim.holds_of_cond 6 Tryd.f6 rfl rfl rfl rfl rfl rfl rfl ⟨rfl, rfl, rfl, rfl, rfl⟩ rfl rfl rfl rfl rfl (by kernel_rfl) Tryd.func6 (by kernel_rfl)
  (of_decide_eq_true (by kernel_rfl)) (by unfold Func.isWrapper; first | (rw [if_pos (by decide +kernel)]; kernel_rfl) | (rw [if_neg (by decide +kernel)]; exact ⟨rfl, rfl⟩))
  (fun os started H enc _ F => by rw [OpenClaim.pre_eq_preRow]; exact liftedDiskStops os started H enc F)
set_option maxRecDepth 100000 in
theorem plainDiskStops (f : FuncId) (fn : Func) (hf : Tryd.pinned.checked.prog.funcNamed "tether/tetherlaw05.DiskStops" = some f) (hfn : Tryd.pinned.checked.prog.funcs[f]? = some fn) :
  false = Tryd.pinned.checked.prog.looks [] ∧ ∀ (j : Nat) t, fn.params[j]? = some t → Tryd.pinned.checked.prog.wantsStandIn t = false := by
 obtain rfl : f = 6 := Option.some.inj ((show Tryd.prog.funcNamed "tether/tetherlaw05.DiskStops" = some 6 by kernel_rfl).symm.trans hf) |>.symm
 obtain rfl : fn = Tryd.f6 := (Option.some.inj (Tryd.func6.symm.trans hfn)).symm
 refine ⟨by kernel_rfl, fun j t ht => ?_⟩
 rw [Tryd.params6] at ht
 have hm := Array.mem_of_getElem? ht
 simp only [Array.mem_def, List.mem_cons, List.mem_nil_iff, or_false] at hm
 rcases hm with rfl | rfl
 all_goals first | exact (show Tryd.prog.wantsStandIn 22 = false by kernel_rfl) | exact (show Tryd.prog.wantsStandIn 3 = false by kernel_rfl)
theorem diskStops_holds : Rows.DiskStopsUptoCardSaid :=
 Claim7.holds_tied_plain_at .later [] _ _ _ _ diskStops_said (fun _ h => by cases h) (by kernel_rfl) (fun _ h => by cases h) diskStopsUpto_row_tie rfl ⟨rfl, rfl⟩ (by kernel_rfl) rfl plainDiskStops (by kernel_rfl)
#print axioms diskStops_holds
end Go.Proofs.YtojolcpblacjjaaDoor
