/-
  DiskKeeps, where what comes in holds no more than a million values and letters; the listed variables tied to the program's text.
-/
import Derived.Test.YtojolcpblacjjaaDoorRows
import Derived.Test.YtojolcpblacjjaaDoorCards
import Derived.Test.YtojolcpblacjjaaDoorTie
import Derived.Test.YtojolcpblacjjaaDoorUpe
import Derived.Deep.DeepHandedRow
import Derived.Lay
import Derived.Test.YtojolcpblacjjaaDoorDlA
set_option linter.unusedVariables false
namespace Go.Proofs.YtojolcpblacjjaaDoor
open Go Go.Eng Go.RowKit Go.ChangeShapes Go.WideShapes Go.ChangeAt Go.Tr

theorem ownDiskKeeps : ownKnob Tryd.prog.godebug = none := by kernel_rfl
theorem laidOutDiskKeeps : laidOutB Tryd.prog = true := by kernel_rfl
theorem shapeDiskKeeps0 : shOf Tryd.prog 8 9 = some [.str] := by kernel_rfl
theorem shapeDiskKeeps1 : shOf Tryd.prog 8 9 = some [.str] := by kernel_rfl
theorem shapeDiskKeeps2 : shOf Tryd.prog 8 9 = some [.str] := by kernel_rfl
theorem shapeDiskKeeps3 : shOf Tryd.prog 8 3 = some [.int .i64] := by kernel_rfl
theorem laidmetDiskKeeps (os : Os) : laidMet Tryd.prog Rows.diskKeepsUptoRow.laid ((World.laidAll Tryd.prog os Rows.diskKeepsUptoRow.laid).forCall (fun _ _ => 0) ⟨#[], #[.string ByteArray.empty, .string ByteArray.empty, .string ByteArray.empty, .int .i64 0], []⟩).memory := laidMet_laidAll _ (by kernel_rfl) (by kernel_rfl)
theorem readsDiskKeeps (os : Os) {H : Type} (enc : TypeId × Value → H) : ∃ places, DataW.whole enc Tryd.prog ((World.laidAll Tryd.prog os Rows.diskKeepsUptoRow.laid).forCall (fun _ _ => 0) ⟨#[], #[.string ByteArray.empty, .string ByteArray.empty, .string ByteArray.empty, .int .i64 0], []⟩).memory Tryd.f5.params.toList Rows.diskKeepsSpec.vars false (#[.string ByteArray.empty, .string ByteArray.empty, .string ByteArray.empty, .int .i64 0] : Array Value).toList 8 = some ([.lit (.string []), .lit (.string []), .lit (.string []), .lit (.int .i64 0)], [], places) := ⟨[], by kernel_rfl⟩
set_option maxRecDepth 100000 in
theorem liftedDiskKeeps (os : Os) (started : os.Started) (H : Type) (enc : TypeId × Value → H) (F : Stop.Interp) :
  ReturnsInHanded {} Tryd.checked os 5 .any ((Rows.OpenSpec.upto Rows.diskKeepsSpec).preRow enc Tryd.prog Tryd.f5 Rows.diskKeepsUptoRow.domain false Rows.diskKeepsUptoRow.laid) (((Rows.OpenSpec.upto Rows.diskKeepsSpec).at F).post enc Tryd.prog Tryd.f5 false true false false) := by
 obtain ⟨places, hx⟩ := readsDiskKeeps os enc
 refine returnsInHanded_of_row (C := Tryd.checked) (s := Rows.OpenSpec.upto Rows.diskKeepsSpec) ownDiskKeeps started (by kernel_rfl) Tryd.func5
  (witness_row_at (enc := enc) (C := Tryd.checked) false (World.laidAll Tryd.prog os Rows.diskKeepsUptoRow.laid) #[.string ByteArray.empty, .string ByteArray.empty, .string ByteArray.empty, .int .i64 0] (World.laidAll_os _ _ _) (by kernel_rfl) (by kernel_rfl) (by kernel_rfl)
   (OpenSpec.preRow_of_cond 8 hx (by kernel_rfl) (fun k hk => by cases hk; kernel_rfl) (by kernel_rfl) (laidmetDiskKeeps os))) ?_
 intro W base args ds gs before hval0 hW _ hcond hsz hL _ _
 have hval : ∀ (j : Nat) t v, Tryd.f5.params[j]? = some t → args[j]? = some v → Value.okWide Tryd.prog W .any base t v := hval0
 have hk := hcond _ rfl
 have hW' := hW
 obtain ⟨p, q, hA0, hV, rfl, hfz, hnd⟩ := hW
 have hA : DataW.TrodAll enc Tryd.prog W 0 (fun _ => true) true Tryd.f5.params.toList args.toList ds p := hA0
 rw [Tryd.params5] at hA hval
 have hsz1 : (DataW.weightsEach Tryd.prog (Tryd.f5.params.toList ++ Rows.diskKeepsSpec.plain.varTypes Tryd.prog) (ds ++ gs)).all (· ≤ reachBytes) = true := hsz
 rw [Tryd.params5] at hsz1
 have hA1 := hA
 have hup := upMem hk
 obtain ⟨v0, vs0, d0, ds0, p0, q0, hargs, rfl, rfl, h0, r0⟩ := trodAll_cons hA
 obtain ⟨v1, vs1, d1, ds1, p1, q1, rfl, rfl, rfl, h1, r1⟩ := trodAll_cons r0
 obtain ⟨v2, vs2, d2, ds2, p2, q2, rfl, rfl, rfl, h2, r2⟩ := trodAll_cons r1
 obtain ⟨v3, vs3, d3, ds3, p3, q3, rfl, rfl, rfl, h3, r3⟩ := trodAll_cons r2
 obtain ⟨rfl, rfl, rfl⟩ := trodAll_nil r3
 obtain rfl : args = #[v0, v1, v2, v3] := by cases args; simp_all
 obtain ⟨rfl, rfl⟩ := trodVars_none hV
 simp only [List.map_cons, List.map_nil, List.sum_cons, List.sum_nil] at hup
 obtain ⟨f0, hF0, hfit0, hw0⟩ := open_oneU (n0 := W.heap.size) upBulk shapeDiskKeeps0 (cell_string Tryd.underlying9 (hval 0 9 v0 rfl rfl)) h0 (fun m hm => all_le hsz1 (weightsEach_mem (i := 0) (t := 9) (d := d0) rfl rfl hm))
 obtain ⟨a0, rfl, hs0⟩ := fit_str hfit0
 cases hF0
 obtain ⟨f1, hF1, hfit1, hw1⟩ := open_oneU (n0 := W.heap.size) upBulk shapeDiskKeeps1 (cell_string Tryd.underlying9 (hval 1 9 v1 rfl rfl)) h1 (fun m hm => all_le hsz1 (weightsEach_mem (i := 1) (t := 9) (d := d1) rfl rfl hm))
 obtain ⟨a1, rfl, hs1⟩ := fit_str hfit1
 cases hF1
 obtain ⟨f2, hF2, hfit2, hw2⟩ := open_oneU (n0 := W.heap.size) upBulk shapeDiskKeeps2 (cell_string Tryd.underlying9 (hval 2 9 v2 rfl rfl)) h2 (fun m hm => all_le hsz1 (weightsEach_mem (i := 2) (t := 9) (d := d2) rfl rfl hm))
 obtain ⟨a2, rfl, hs2⟩ := fit_str hfit2
 cases hF2
 obtain ⟨f3, hF3, hfit3, hw3⟩ := open_oneU (n0 := W.heap.size) upBulk shapeDiskKeeps3 (cell_int Tryd.underlying3 (hval 3 3 v3 rfl rfl)) h3 (fun m hm => all_le hsz1 (weightsEach_mem (i := 3) (t := 3) (d := d3) rfl rfl hm))
 obtain ⟨a3, rfl, hs3⟩ := fit_int hfit3
 cases hF3
 refine (ret_calls (law_calls (diskKeeps_U a0 a1 a2 a3 (by omega)) (reps_cons' (.v _) (reps_cons' (.v _) (reps_cons' (.v _) (reps_cons' (.v _) reps_nil')))))).mono fun e W' ⟨_, he, hr, bel⟩ => ?_
 subst he; subst hr
 exact ⟨_, rfl, _, _, _, [], _, [], hW', trodAll_mk1 (shut_bool Tryd.underlying4 _), trodAll_kept laidOutDiskKeeps bel _ _ _ _ (by kernel_rfl) hA1, rfl, bel.frame _, fun h => by cases h⟩
theorem diskKeeps_said : Rows.DiskKeepsUptoSaid :=
 OpenClaim.holds_of_cond 5 Tryd.f5 rfl rfl rfl rfl rfl rfl rfl ⟨rfl, rfl, rfl, rfl, rfl⟩ rfl rfl rfl rfl rfl (by kernel_rfl) Tryd.func5 (by kernel_rfl)
  (of_decide_eq_true (by kernel_rfl)) (by unfold Func.isWrapper; first | (rw [if_pos (by decide +kernel)]; kernel_rfl) | (rw [if_neg (by decide +kernel)]; exact ⟨rfl, rfl⟩))
  (fun os started H enc _ F => by rw [OpenClaim.pre_eq_preRow]; exact liftedDiskKeeps os started H enc F)
set_option maxRecDepth 100000 in
theorem plainDiskKeeps (f : FuncId) (fn : Func) (hf : Tryd.pinned.checked.prog.funcNamed "tether/tetherlaw05.DiskKeeps" = some f) (hfn : Tryd.pinned.checked.prog.funcs[f]? = some fn) :
  false = Tryd.pinned.checked.prog.looks [] ∧ ∀ (j : Nat) t, fn.params[j]? = some t → Tryd.pinned.checked.prog.wantsStandIn t = false := by
 obtain rfl : f = 5 := Option.some.inj ((show Tryd.prog.funcNamed "tether/tetherlaw05.DiskKeeps" = some 5 by kernel_rfl).symm.trans hf) |>.symm
 obtain rfl : fn = Tryd.f5 := (Option.some.inj (Tryd.func5.symm.trans hfn)).symm
 refine ⟨by kernel_rfl, fun j t ht => ?_⟩
 rw [Tryd.params5] at ht
 have hm := Array.mem_of_getElem? ht
 simp only [Array.mem_def, List.mem_cons, List.mem_nil_iff, or_false] at hm
 rcases hm with rfl | rfl | rfl | rfl
 all_goals first | exact (show Tryd.prog.wantsStandIn 3 = false by kernel_rfl) | exact (show Tryd.prog.wantsStandIn 9 = false by kernel_rfl)
theorem diskKeeps_holds : Rows.DiskKeepsUptoCardSaid :=
 Claim7.holds_tied_plain_at .later [] _ _ _ _ diskKeeps_said (fun _ h => by cases h) (by kernel_rfl) (fun _ h => by cases h) diskKeepsUpto_row_tie rfl ⟨rfl, rfl⟩ (by kernel_rfl) rfl plainDiskKeeps (by kernel_rfl)
#print axioms diskKeeps_holds
end Go.Proofs.YtojolcpblacjjaaDoor
