/-
  ScanLays, where what comes in holds no more than a million values and letters; the listed variables tied to the program's text.
-/
import Derived.Test.YtlihpgmgiehjkaaGreatDoorRows
import Derived.Test.YtlihpgmgiehjkaaGreatDoorCards
import Derived.Test.YtlihpgmgiehjkaaGreatDoorTie
import Derived.Test.YtlihpgmgiehjkaaGreatDoorUpe
import Derived.Deep.DeepHandedRow
import Derived.Lay
import Derived.Test.YtlihpgmgiehjkaaGreatDoorSxB
set_option linter.unusedVariables false
namespace Go.Proofs.YtlihpgmgiehjkaaGreatDoor
open Go Go.Eng Go.RowKit Go.ChangeShapes Go.WideShapes Go.ChangeAt Go.Tr

theorem ownScanLays:ownKnob Tryz.prog.godebug=none:=by kernel_rfl
theorem laidOutScanLays:laidOutB Tryz.prog=true:=by kernel_rfl
theorem shapeScanLays0:qNu Tryz.prog 8 32=some [.sl 40 [.str,.int .i64,.str]]:=by kernel_rfl
theorem shapeScanLays1:qNu Tryz.prog 8 32=some [.sl 40 [.str,.int .i64,.str]]:=by kernel_rfl
theorem shapeScanLays2:qNu Tryz.prog 8 3=some [.int .i64]:=by kernel_rfl
theorem laidmetScanLays (os:Os):laidMet Tryz.prog Rows.scanLaysUptoRow.laid ((World.laidAll Tryz.prog os Rows.scanLaysUptoRow.laid).forCall (fun _ _=>0) ⟨#[],#[.slice none 0 0,.slice none 0 0,.int .i64 0],[]⟩).memory:=laidMet_laidAll _ (by kernel_rfl) (by kernel_rfl)
theorem readsScanLays (os:Os) {H:Type} (enc:TypeId × Value→H):∃ places,DataW.whole enc Tryz.prog ((World.laidAll Tryz.prog os Rows.scanLaysUptoRow.laid).forCall (fun _ _=>0) ⟨#[],#[.slice none 0 0,.slice none 0 0,.int .i64 0],[]⟩).memory Tryz.f4.params.toList Rows.scanLaysSpec.vars false (#[.slice none 0 0,.slice none 0 0,.int .i64 0]:Array Value).toList 8=some ([.nil,.nil,.lit (.int .i64 0)],[],places):=⟨[],by kernel_rfl⟩
set_option maxRecDepth 100000 in
theorem liftedScanLays (os:Os) (started:os.Started) (H:Type) (enc:TypeId × Value→H) (F:Stop.Interp) :
  ReturnsInHanded {} Tryz.checked os 4 .any ((Rows.OpenSpec.upto Rows.scanLaysSpec).preRow enc Tryz.prog Tryz.f4 Rows.scanLaysUptoRow.domain false Rows.scanLaysUptoRow.laid) (((Rows.OpenSpec.upto Rows.scanLaysSpec).at F).post enc Tryz.prog Tryz.f4 false true false false):=by
 obtain ⟨places,hx⟩:=readsScanLays os enc;refine returnsInHanded_of_row (C:=Tryz.checked) (s:=Rows.OpenSpec.upto Rows.scanLaysSpec) ownScanLays started (by kernel_rfl) Tryz.func4
  (witness_row_at (enc:=enc) (C:=Tryz.checked) false (World.laidAll Tryz.prog os Rows.scanLaysUptoRow.laid) #[.slice none 0 0,.slice none 0 0,.int .i64 0] (World.laidAll_os _ _ _) (by kernel_rfl) (by kernel_rfl) (by kernel_rfl)
   (OpenSpec.preRow_of_cond 8 hx (by kernel_rfl) (fun k hk=>by cases hk;kernel_rfl) (by kernel_rfl) (laidmetScanLays os))) ?_
 intro W base args ds gs before hval0 hW _ hcond hsz hL _ _
 have hval:∀ (j:Nat) t v,Tryz.f4.params[j]?=some t→args[j]?=some v→Value.okWide Tryz.prog W .any base t v:=hval0
 have hk:=hcond _ rfl
 have hW':=hW
 obtain ⟨p,q,hA0,hV,rfl,hfz,hnd⟩:=hW
 have hA:DataW.TrodAll enc Tryz.prog W 0 (fun _=>true) true Tryz.f4.params.toList args.toList ds p:=hA0
 rw [Tryz.params4] at hA hval
 have hsz1:(DataW.weightsEach Tryz.prog (Tryz.f4.params.toList ++ Rows.scanLaysSpec.plain.varTypes Tryz.prog) (ds ++ gs)).all (·≤reachBytes)=true:=hsz
 rw [Tryz.params4] at hsz1
 have hA1:=hA
 have hup:=zR6 hk
 obtain ⟨v0,vs0,d0,ds0,p0,q0,hargs,rfl,rfl,h0,r0⟩:=trodAll_cons hA;obtain ⟨v1,vs1,d1,ds1,p1,q1,rfl,rfl,rfl,h1,r1⟩:=trodAll_cons r0;obtain ⟨v2,vs2,d2,ds2,p2,q2,rfl,rfl,rfl,h2,r2⟩:=trodAll_cons r1;obtain ⟨rfl,rfl,rfl⟩:=trodAll_nil r2;obtain rfl:args=#[v0,v1,v2]:=by cases args;simp_all
 obtain ⟨rfl,rfl⟩:=trodVars_none hV;simp only [List.map_cons,List.map_nil,List.sum_cons,List.sum_nil] at hup;obtain ⟨f0,hF0,hfit0,hw0⟩:=qEo (n0:=W.heap.size) qYe shapeScanLays0 (qNl Tryz.underlying32 (hval 0 32 v0 rfl rfl)) h0 (fun m hm=>qZ5 hsz1 (iL (i:=0) (t:=32) (d:=d0) rfl rfl hm))
 obtain ⟨a0,rfl,hs0⟩:=qXa hfit0;obtain ⟨f1,hF1,hfit1,hw1⟩:=qEo (n0:=W.heap.size) qYe shapeScanLays1 (qNl Tryz.underlying32 (hval 1 32 v1 rfl rfl)) h1 (fun m hm=>qZ5 hsz1 (iL (i:=1) (t:=32) (d:=d1) rfl rfl hm))
 obtain ⟨a1,rfl,hs1⟩:=qXa hfit1;obtain ⟨f2,hF2,hfit2,hw2⟩:=qEo (n0:=W.heap.size) qYe shapeScanLays2 (zLj Tryz.underlying3 (hval 2 3 v2 rfl rfl)) h2 (fun m hm=>qZ5 hsz1 (iL (i:=2) (t:=3) (d:=d2) rfl rfl hm))
 obtain ⟨a2,rfl,hs2⟩:=zNa hfit2
 cases hF2
 refine (zD0 (zEg (qYr a0 a1 a2 hs2 (by omega)) (qA8 (RepF.toH hF0) (qA8 (RepF.toH hF1) (qA8 (.v _) zD2))))).mono fun e W' ⟨_,he,hr,bel⟩=>?_
 subst he;subst hr;exact ⟨_,rfl,_,_,_,[],_,[],hW',trodAll_mk1 (shut_bool Tryz.underlying4 _),qBv laidOutScanLays bel _ _ _ _ (by kernel_rfl) hA1,rfl,bel.frame _,fun h=>by cases h⟩
theorem scanLays_said:Rows.ScanLaysUptoSaid :=
 OpenClaim.holds_of_cond 4 Tryz.f4 rfl rfl rfl rfl rfl rfl rfl ⟨rfl,rfl,rfl,rfl,rfl⟩ rfl rfl rfl rfl rfl (by kernel_rfl) Tryz.func4 (by kernel_rfl)
  (of_decide_eq_true (by kernel_rfl)) (by unfold Func.isWrapper;first|(rw [if_pos (by decide +kernel)];kernel_rfl)|(rw [if_neg (by decide +kernel)];exact ⟨rfl,rfl⟩))
  (fun os started H enc _ F=>by rw [OpenClaim.pre_eq_preRow];exact liftedScanLays os started H enc F)
set_option maxRecDepth 100000 in
theorem plainScanLays (f:FuncId) (fn:Func) (hf:Tryz.pinned.checked.prog.funcNamed "tether/tetherlaw15.ScanLays"=some f) (hfn:Tryz.pinned.checked.prog.funcs[f]?=some fn) :
  false=Tryz.pinned.checked.prog.looks []∧∀ (j:Nat) t,fn.params[j]?=some t→Tryz.pinned.checked.prog.wantsStandIn t=false:=by
 obtain rfl:f=4:=Option.some.inj ((show Tryz.prog.funcNamed "tether/tetherlaw15.ScanLays"=some 4 by kernel_rfl).symm.trans hf) |>.symm
 obtain rfl:fn=Tryz.f4:=(Option.some.inj (Tryz.func4.symm.trans hfn)).symm;refine ⟨by kernel_rfl,fun j t ht=>?_⟩
 rw [Tryz.params4] at ht
 have hm:=Array.mem_of_getElem? ht
 simp only [Array.mem_def,List.mem_cons,List.mem_nil_iff,or_false] at hm
 rcases hm with rfl|rfl|rfl
 all_goals first|exact (show Tryz.prog.wantsStandIn 3=false by kernel_rfl)|exact (show Tryz.prog.wantsStandIn 32=false by kernel_rfl)
theorem scanLays_holds:Rows.ScanLaysUptoCardSaid :=
 Claim7.holds_tied_plain_at .later [] _ _ _ _ scanLays_said (fun _ h=>by cases h) (by kernel_rfl) (fun _ h=>by cases h) scanLaysUpto_row_tie rfl ⟨rfl,rfl⟩ (by kernel_rfl) rfl plainScanLays (by kernel_rfl)
#print axioms scanLays_holds
end Go.Proofs.YtlihpgmgiehjkaaGreatDoor
