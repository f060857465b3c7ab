/-
  ScanPlays, where what comes in holds no more than a million values and letters; the listed variables tied to the program's text.
-/
import Derived.Test.YtlihpgmgiehjkaaGreatDoorRows
import Derived.Test.YtlihpgmgiehjkaaGreatDoorCards
import Derived.Test.YtlihpgmgiehjkaaGreatDoorTie
import Derived.Test.YtlihpgmgiehjkaaGreatDoorApe
import Derived.Deep.DeepHandedRow
import Derived.Lay
import Derived.Test.YtlihpgmgiehjkaaGreatDoorUps
import Derived.Test.YtlihpgmgiehjkaaGreatDoorSwQ
set_option linter.unusedVariables false
namespace Go.Proofs.YtlihpgmgiehjkaaGreatDoor
open Go Go.Eng Go.RowKit Go.ChangeShapes Go.WideShapes Go.ChangeAt Go.Tr

theorem ownScanPlays:ownKnob Tryz.prog.godebug=none:=by kernel_rfl
theorem laidOutScanPlays:laidOutB Tryz.prog=true:=by kernel_rfl
theorem shapeScanPlays0:qTl Tryz.prog 8 22=some [.sl 48 [.int .i64,.str,.str,.int .i64]]:=by kernel_rfl
theorem shapeScanPlays1:qTl Tryz.prog 8 9=some [.str]:=by kernel_rfl
theorem laidmetScanPlays (os:Os):laidMet Tryz.prog Rows.scanPlaysUptoRow.laid ((World.laidAll Tryz.prog os Rows.scanPlaysUptoRow.laid).forCall (fun _ _=>0) ⟨#[],#[.slice none 0 0,.string ByteArray.empty],[]⟩).memory:=laidMet_laidAll _ (by kernel_rfl) (by kernel_rfl)
theorem readsScanPlays (os:Os) {H:Type} (enc:TypeId × Value→H):∃ places,DataW.whole enc Tryz.prog ((World.laidAll Tryz.prog os Rows.scanPlaysUptoRow.laid).forCall (fun _ _=>0) ⟨#[],#[.slice none 0 0,.string ByteArray.empty],[]⟩).memory Tryz.f3.params.toList Rows.scanPlaysSpec.vars false (#[.slice none 0 0,.string ByteArray.empty]:Array Value).toList 8=some ([.nil,.lit (.string [])],[],places):=⟨[],by kernel_rfl⟩
set_option maxRecDepth 100000 in
theorem liftedScanPlays (os:Os) (started:os.Started) (H:Type) (enc:TypeId × Value→H) (F:Stop.Interp) :
  ReturnsInHanded {} Tryz.checked os 3 .any ((Rows.OpenSpec.upto Rows.scanPlaysSpec).preRow enc Tryz.prog Tryz.f3 Rows.scanPlaysUptoRow.domain false Rows.scanPlaysUptoRow.laid) (((Rows.OpenSpec.upto Rows.scanPlaysSpec).at F).post enc Tryz.prog Tryz.f3 false true false false):=by
 obtain ⟨places,hx⟩:=readsScanPlays os enc;refine returnsInHanded_of_row (C:=Tryz.checked) (s:=Rows.OpenSpec.upto Rows.scanPlaysSpec) ownScanPlays started (by kernel_rfl) Tryz.func3
  (witness_row_at (enc:=enc) (C:=Tryz.checked) false (World.laidAll Tryz.prog os Rows.scanPlaysUptoRow.laid) #[.slice none 0 0,.string ByteArray.empty] (World.laidAll_os _ _ _) (by kernel_rfl) (by kernel_rfl) (by kernel_rfl)
   (OpenSpec.preRow_of_cond 8 hx (by kernel_rfl) (fun k hk=>by cases hk;kernel_rfl) (by kernel_rfl) (laidmetScanPlays os))) ?_
 intro W base args ds gs before hval0 hW _ hcond hsz hL _ _
 have hval:∀ (j:Nat) t v,Tryz.f3.params[j]?=some t→args[j]?=some v→Value.okWide Tryz.prog W .any base t v:=hval0
 have hk:=hcond _ rfl
 have hW':=hW
 obtain ⟨p,q,hA0,hV,rfl,hfz,hnd⟩:=hW
 have hA:DataW.TrodAll enc Tryz.prog W 0 (fun _=>true) true Tryz.f3.params.toList args.toList ds p:=hA0
 rw [Tryz.params3] at hA hval
 have hsz1:(DataW.weightsEach Tryz.prog (Tryz.f3.params.toList ++ Rows.scanPlaysSpec.plain.varTypes Tryz.prog) (ds ++ gs)).all (·≤reachBytes)=true:=hsz
 rw [Tryz.params3] at hsz1
 have hA1:=hA
 have hup:=zRw hk
 obtain ⟨v0,vs0,d0,ds0,p0,q0,hargs,rfl,rfl,h0,r0⟩:=trodAll_cons hA;obtain ⟨v1,vs1,d1,ds1,p1,q1,rfl,rfl,rfl,h1,r1⟩:=trodAll_cons r0;obtain ⟨rfl,rfl,rfl⟩:=trodAll_nil r1;obtain rfl:args=#[v0,v1]:=by cases args;simp_all
 obtain ⟨rfl,rfl⟩:=trodVars_none hV;simp only [List.map_cons,List.map_nil,List.sum_cons,List.sum_nil] at hup;obtain ⟨f0,hF0,hfit0,hw0⟩:=qQo (n0:=W.heap.size) zGc shapeScanPlays0 (zAj Tryz.underlying22 (hval 0 22 v0 rfl rfl)) h0 (fun m hm=>zMa hsz1 (nX (i:=0) (t:=22) (d:=d0) rfl rfl hm))
 obtain ⟨a0,rfl,hs0⟩:=zLg hfit0;obtain ⟨f1,hF1,hfit1,hw1⟩:=qQo (n0:=W.heap.size) zGc shapeScanPlays1 (qYp Tryz.underlying9 (hval 1 9 v1 rfl rfl)) h1 (fun m hm=>zMa hsz1 (nX (i:=1) (t:=9) (d:=d1) rfl rfl hm))
 obtain ⟨a1,rfl,hs1⟩:=zNq hfit1
 cases hF1
 refine (zEp (zE8 (qVj a0 a1 hs0 (by omega)) (qKe (RepF.toH hF0) (qKe (.v _) zEr)))).mono fun e W' ⟨_,he,hr,bel⟩=>?_
 subst he;subst hr;exact ⟨_,rfl,_,_,_,[],_,[],hW',trodAll_mk1 (shut_bool Tryz.underlying4 _),qCf laidOutScanPlays bel _ _ _ _ (by kernel_rfl) hA1,rfl,bel.frame _,fun h=>by cases h⟩
theorem scanPlays_said:Rows.ScanPlaysUptoSaid :=
 OpenClaim.holds_of_cond 3 Tryz.f3 rfl rfl rfl rfl rfl rfl rfl ⟨rfl,rfl,rfl,rfl,rfl⟩ rfl rfl rfl rfl rfl (by kernel_rfl) Tryz.func3 (by kernel_rfl)
  (of_decide_eq_true (by kernel_rfl)) (by unfold Func.isWrapper;first|(rw [if_pos (by decide +kernel)];kernel_rfl)|(rw [if_neg (by decide +kernel)];exact ⟨rfl,rfl⟩))
  (fun os started H enc _ F=>by rw [OpenClaim.pre_eq_preRow];exact liftedScanPlays os started H enc F)
set_option maxRecDepth 100000 in
theorem plainScanPlays (f:FuncId) (fn:Func) (hf:Tryz.pinned.checked.prog.funcNamed "tether/tetherlaw15.ScanPlays"=some f) (hfn:Tryz.pinned.checked.prog.funcs[f]?=some fn) :
  false=Tryz.pinned.checked.prog.looks []∧∀ (j:Nat) t,fn.params[j]?=some t→Tryz.pinned.checked.prog.wantsStandIn t=false:=by
 obtain rfl:f=3:=Option.some.inj ((show Tryz.prog.funcNamed "tether/tetherlaw15.ScanPlays"=some 3 by kernel_rfl).symm.trans hf) |>.symm
 obtain rfl:fn=Tryz.f3:=(Option.some.inj (Tryz.func3.symm.trans hfn)).symm;refine ⟨by kernel_rfl,fun j t ht=>?_⟩
 rw [Tryz.params3] at ht
 have hm:=Array.mem_of_getElem? ht
 simp only [Array.mem_def,List.mem_cons,List.mem_nil_iff,or_false] at hm
 rcases hm with rfl|rfl
 all_goals first|exact (show Tryz.prog.wantsStandIn 22=false by kernel_rfl)|exact (show Tryz.prog.wantsStandIn 9=false by kernel_rfl)
theorem scanPlays_holds:Rows.ScanPlaysUptoCardSaid :=
 Claim7.holds_tied_plain_at .later [] _ _ _ _ scanPlays_said (fun _ h=>by cases h) (by kernel_rfl) (fun _ h=>by cases h) scanPlaysUpto_row_tie rfl ⟨rfl,rfl⟩ (by kernel_rfl) rfl plainScanPlays (by kernel_rfl)
#print axioms scanPlays_holds
end Go.Proofs.YtlihpgmgiehjkaaGreatDoor
