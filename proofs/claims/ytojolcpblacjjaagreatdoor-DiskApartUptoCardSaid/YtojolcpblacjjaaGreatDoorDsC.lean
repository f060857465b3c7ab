/-
  DiskApart, where what comes in holds no more than a million values and letters; the listed variables tied to the program's text.
-/
import Derived.Test.YtojolcpblacjjaaGreatDoorRows
import Derived.Test.YtojolcpblacjjaaGreatDoorCards
import Derived.Test.YtojolcpblacjjaaGreatDoorTie
import Derived.Test.YtojolcpblacjjaaGreatDoorUpe
import Derived.Deep.DeepHandedRow
import Derived.Lay
import Derived.Test.YtojolcpblacjjaaGreatDoorUps
set_option linter.unusedVariables false
namespace Go.Proofs.YtojolcpblacjjaaGreatDoor
open Go Go.Eng Go.RowKit Go.ChangeShapes Go.WideShapes Go.ChangeAt Go.Tr

theorem ownDiskApart : ownKnob Tryz.prog.godebug = none := by kernel_rfl
theorem laidOutDiskApart : laidOutB Tryz.prog = true := by kernel_rfl
theorem shapeDiskApart0 : qEu Tryz.prog 8 22 = some [.sl 48 [.int .i64, .str, .str, .int .i64]] := by kernel_rfl
theorem shapeDiskApart1 : qEu Tryz.prog 8 29 = some [.int .i64, .str, .str, .int .i64] := by kernel_rfl
theorem shapeDiskApart2 : qEu Tryz.prog 8 9 = some [.str] := by kernel_rfl
theorem laidmetDiskApart (os : Os) : laidMet Tryz.prog Rows.diskApartUptoRow.laid ((World.laidAll Tryz.prog os Rows.diskApartUptoRow.laid).forCall (fun _ _ => 0) ⟨#[], #[.slice none 0 0, .agg #[.int .i64 0, .string ByteArray.empty, .string ByteArray.empty, .int .i64 0], .string ByteArray.empty], []⟩).memory := laidMet_laidAll _ (by kernel_rfl) (by kernel_rfl)
theorem readsDiskApart (os : Os) {H : Type} (enc : TypeId × Value → H) : ∃ places, DataW.whole enc Tryz.prog ((World.laidAll Tryz.prog os Rows.diskApartUptoRow.laid).forCall (fun _ _ => 0) ⟨#[], #[.slice none 0 0, .agg #[.int .i64 0, .string ByteArray.empty, .string ByteArray.empty, .int .i64 0], .string ByteArray.empty], []⟩).memory Tryz.f4.params.toList Rows.diskApartSpec.vars false (#[.slice none 0 0, .agg #[.int .i64 0, .string ByteArray.empty, .string ByteArray.empty, .int .i64 0], .string ByteArray.empty] : Array Value).toList 8 = some ([.nil, .agg [.lit (.int .i64 0), .lit (.string []), .lit (.string []), .lit (.int .i64 0)], .lit (.string [])], [], places) := ⟨[], by kernel_rfl⟩
set_option maxRecDepth 100000 in
theorem liftedDiskApart (os : Os) (started : os.Started) (H : Type) (enc : TypeId × Value → H) (F : Stop.Interp) :
  ReturnsInHanded {} Tryz.checked os 4 .any ((Rows.OpenSpec.upto Rows.diskApartSpec).preRow enc Tryz.prog Tryz.f4 Rows.diskApartUptoRow.domain false Rows.diskApartUptoRow.laid) (((Rows.OpenSpec.upto Rows.diskApartSpec).at F).post enc Tryz.prog Tryz.f4 false true false false) := by
 obtain ⟨places, hx⟩ := readsDiskApart os enc
 refine returnsInHanded_of_row (C := Tryz.checked) (s := Rows.OpenSpec.upto Rows.diskApartSpec) ownDiskApart started (by kernel_rfl) Tryz.func4
  (witness_row_at (enc := enc) (C := Tryz.checked) false (World.laidAll Tryz.prog os Rows.diskApartUptoRow.laid) #[.slice none 0 0, .agg #[.int .i64 0, .string ByteArray.empty, .string ByteArray.empty, .int .i64 0], .string ByteArray.empty] (World.laidAll_os _ _ _) (by kernel_rfl) (by kernel_rfl) (by kernel_rfl)
   (OpenSpec.preRow_of_cond 8 hx (by kernel_rfl) (fun k hk => by cases hk; kernel_rfl) (by kernel_rfl) (laidmetDiskApart os))) ?_
 intro W base args ds gs before hval0 hW _ hcond hsz hL _ _
 have hval : ∀ (j : Nat) t v, Tryz.f4.params[j]? = some t → args[j]? = some v → Value.okWide Tryz.prog W .any base t v := hval0
 have hk := hcond _ rfl
 have hW' := hW
 obtain ⟨p, q, hA0, hV, rfl, hfz, hnd⟩ := hW
 have hA : DataW.TrodAll enc Tryz.prog W 0 (fun _ => true) true Tryz.f4.params.toList args.toList ds p := hA0
 rw [Tryz.params4] at hA hval
 have hsz1 : (DataW.weightsEach Tryz.prog (Tryz.f4.params.toList ++ Rows.diskApartSpec.plain.varTypes Tryz.prog) (ds ++ gs)).all (· ≤ reachBytes) = true := hsz
 rw [Tryz.params4] at hsz1
 have hA1 := hA
 have hup := zJj hk
 obtain ⟨v0, vs0, d0, ds0, p0, q0, hargs, rfl, rfl, h0, r0⟩ := trodAll_cons hA
 obtain ⟨v1, vs1, d1, ds1, p1, q1, rfl, rfl, rfl, h1, r1⟩ := trodAll_cons r0
 obtain ⟨v2, vs2, d2, ds2, p2, q2, rfl, rfl, rfl, h2, r2⟩ := trodAll_cons r1
 obtain ⟨rfl, rfl, rfl⟩ := trodAll_nil r2
 obtain rfl : args = #[v0, v1, v2] := by cases args; simp_all
 obtain ⟨rfl, rfl⟩ := trodVars_none hV
 simp only [List.map_cons, List.map_nil, List.sum_cons, List.sum_nil] at hup
 obtain ⟨f0, hF0, hfit0, hw0⟩ := qK6 (n0 := W.heap.size) qT1 shapeDiskApart0 (qVn Tryz.underlying22 (hval 0 22 v0 rfl rfl)) h0 (fun m hm => qVs hsz1 (iF (i := 0) (t := 22) (d := d0) rfl rfl hm))
 obtain ⟨a0, rfl, hs0⟩ := zDz hfit0
 obtain ⟨a1, hF1, hw1, hs1⟩ := qZh (n0 := W.heap.size) qT1 shapeDiskApart1 Tryz.underlying29 (hval 1 29 v1 rfl rfl) h1 (fun m hm => qVs hsz1 (iF (i := 1) (t := 29) (d := d1) rfl rfl hm))
 obtain ⟨f2, hF2, hfit2, hw2⟩ := qK6 (n0 := W.heap.size) qT1 shapeDiskApart2 (qTl Tryz.underlying9 (hval 2 9 v2 rfl rfl)) h2 (fun m hm => qVs hsz1 (iF (i := 2) (t := 9) (d := d2) rfl rfl hm))
 obtain ⟨a2, rfl, hs2⟩ := zFy hfit2
 cases hF2
 refine (qY8 (qZo (qTg a0 a1 a2 hs0 hs1 (by omega)) (vD (RepF.toH hF0) (vD hF1 (vD (.v _) qZa))))).mono fun e W' ⟨_, he, hr, bel⟩ => ?_
 subst he; subst hr
 exact ⟨_, rfl, _, _, _, [], _, [], hW', trodAll_mk1 (shut_bool Tryz.underlying4 _), wZ laidOutDiskApart bel _ _ _ _ (by kernel_rfl) hA1, rfl, bel.frame _, fun h => by cases h⟩
theorem diskApart_said : Rows.DiskApartUptoSaid :=
 OpenClaim.holds_of_cond 4 Tryz.f4 rfl rfl rfl rfl rfl rfl rfl ⟨rfl, rfl, rfl, rfl, rfl⟩ rfl rfl rfl rfl rfl (by kernel_rfl) Tryz.func4 (by kernel_rfl)
  (of_decide_eq_true (by kernel_rfl)) (by unfold Func.isWrapper; first | (rw [if_pos (by decide +kernel)]; kernel_rfl) | (rw [if_neg (by decide +kernel)]; exact ⟨rfl, rfl⟩))
  (fun os started H enc _ F => by rw [OpenClaim.pre_eq_preRow]; exact liftedDiskApart os started H enc F)
set_option maxRecDepth 100000 in
theorem plainDiskApart (f : FuncId) (fn : Func) (hf : Tryz.pinned.checked.prog.funcNamed "tether/tetherlaw05.DiskApart" = some f) (hfn : Tryz.pinned.checked.prog.funcs[f]? = some fn) :
  false = Tryz.pinned.checked.prog.looks [] ∧ ∀ (j : Nat) t, fn.params[j]? = some t → Tryz.pinned.checked.prog.wantsStandIn t = false := by
 obtain rfl : f = 4 := Option.some.inj ((show Tryz.prog.funcNamed "tether/tetherlaw05.DiskApart" = some 4 by kernel_rfl).symm.trans hf) |>.symm
 obtain rfl : fn = Tryz.f4 := (Option.some.inj (Tryz.func4.symm.trans hfn)).symm
 refine ⟨by kernel_rfl, fun j t ht => ?_⟩
 rw [Tryz.params4] at ht
 have hm := Array.mem_of_getElem? ht
 simp only [Array.mem_def, List.mem_cons, List.mem_nil_iff, or_false] at hm
 rcases hm with rfl | rfl | rfl
 all_goals first | exact (show Tryz.prog.wantsStandIn 22 = false by kernel_rfl) | exact (show Tryz.prog.wantsStandIn 29 = false by kernel_rfl) | exact (show Tryz.prog.wantsStandIn 9 = false by kernel_rfl)
theorem diskApart_holds : Rows.DiskApartUptoCardSaid :=
 Claim7.holds_tied_plain_at .later [] _ _ _ _ diskApart_said (fun _ h => by cases h) (by kernel_rfl) (fun _ h => by cases h) diskApartUpto_row_tie rfl ⟨rfl, rfl⟩ (by kernel_rfl) rfl plainDiskApart (by kernel_rfl)
#print axioms diskApart_holds
end Go.Proofs.YtojolcpblacjjaaGreatDoor
