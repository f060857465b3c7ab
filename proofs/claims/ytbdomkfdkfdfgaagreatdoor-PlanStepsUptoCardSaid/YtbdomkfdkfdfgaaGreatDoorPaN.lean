/-
  PlanSteps, where what comes in holds no more than a million values and letters; the listed variables tied to the program's text.
-/
import Derived.Test.YtbdomkfdkfdfgaaGreatDoorRows
import Derived.Test.YtbdomkfdkfdfgaaGreatDoorCards
import Derived.Test.YtbdomkfdkfdfgaaGreatDoorTie
import Derived.Test.YtbdomkfdkfdfgaaGreatDoorApd
import Derived.Deep.DeepHandedRow
import Derived.Lay
import Derived.Test.YtbdomkfdkfdfgaaGreatDoorPaM
import Derived.Test.YtbdomkfdkfdfgaaGreatDoorPau
set_option linter.unusedVariables false
namespace Go.Proofs.YtbdomkfdkfdfgaaGreatDoor
open Go Go.Eng Go.RowKit Go.ChangeShapes Go.WideShapes Go.ChangeAt Go.Tr

theorem ownPlanSteps:ownKnob Tryz.prog.godebug=none:=by kernel_rfl
theorem laidOutPlanSteps:laidOutB Tryz.prog=true:=by kernel_rfl
theorem shapePlanSteps0:qAw Tryz.prog 8 22=some [.sl 40 [.str,.int .i64,.str]]:=by kernel_rfl
theorem shapePlanSteps1:qAw Tryz.prog 8 22=some [.sl 40 [.str,.int .i64,.str]]:=by kernel_rfl
theorem shapePlanSteps2:qAw Tryz.prog 8 3=some [.int .i64]:=by kernel_rfl
theorem shapePlanSteps3:qAw Tryz.prog 8 3=some [.int .i64]:=by kernel_rfl
theorem laidmetPlanSteps (os:Os):laidMet Tryz.prog Rows.planStepsUptoRow.laid ((World.laidAll Tryz.prog os Rows.planStepsUptoRow.laid).forCall (fun _ _=>0) ⟨#[],#[.slice none 0 0,.slice none 0 0,.int .i64 0,.int .i64 0],[]⟩).memory:=laidMet_laidAll _ (by kernel_rfl) (by kernel_rfl)
theorem readsPlanSteps (os:Os) {H:Type} (enc:TypeId × Value→H):∃ places,DataW.whole enc Tryz.prog ((World.laidAll Tryz.prog os Rows.planStepsUptoRow.laid).forCall (fun _ _=>0) ⟨#[],#[.slice none 0 0,.slice none 0 0,.int .i64 0,.int .i64 0],[]⟩).memory Tryz.f7.params.toList Rows.planStepsSpec.vars false (#[.slice none 0 0,.slice none 0 0,.int .i64 0,.int .i64 0]:Array Value).toList 8=some ([.nil,.nil,.lit (.int .i64 0),.lit (.int .i64 0)],[],places):=⟨[],by kernel_rfl⟩
set_option maxRecDepth 100000 in
theorem liftedPlanSteps (os:Os) (started:os.Started) (H:Type) (enc:TypeId × Value→H) (F:Stop.Interp) :
  ReturnsInHanded {} Tryz.checked os 7 .any ((Rows.OpenSpec.upto Rows.planStepsSpec).preRow enc Tryz.prog Tryz.f7 Rows.planStepsUptoRow.domain false Rows.planStepsUptoRow.laid) (((Rows.OpenSpec.upto Rows.planStepsSpec).at F).post enc Tryz.prog Tryz.f7 false true false false):=by
 obtain ⟨places,hx⟩:=readsPlanSteps os enc;refine returnsInHanded_of_row (C:=Tryz.checked) (s:=Rows.OpenSpec.upto Rows.planStepsSpec) ownPlanSteps started (by kernel_rfl) Tryz.func7
  (witness_row_at (enc:=enc) (C:=Tryz.checked) false (World.laidAll Tryz.prog os Rows.planStepsUptoRow.laid) #[.slice none 0 0,.slice none 0 0,.int .i64 0,.int .i64 0] (World.laidAll_os _ _ _) (by kernel_rfl) (by kernel_rfl) (by kernel_rfl)
   (OpenSpec.preRow_of_cond 8 hx (by kernel_rfl) (fun k hk=>by cases hk;kernel_rfl) (by kernel_rfl) (laidmetPlanSteps os))) ?_
 intro W base args ds gs before hval0 hW _ hcond hsz hL _ _
 have hval:∀ (j:Nat) t v,Tryz.f7.params[j]?=some t→args[j]?=some v→Value.okWide Tryz.prog W .any base t v:=hval0
 have hk:=hcond _ rfl
 have hW':=hW
 obtain ⟨p,q,hA0,hV,rfl,hfz,hnd⟩:=hW
 have hA:DataW.TrodAll enc Tryz.prog W 0 (fun _=>true) true Tryz.f7.params.toList args.toList ds p:=hA0
 rw [Tryz.params7] at hA hval
 have hsz1:(DataW.weightsEach Tryz.prog (Tryz.f7.params.toList ++ Rows.planStepsSpec.plain.varTypes Tryz.prog) (ds ++ gs)).all (·≤reachBytes)=true:=hsz
 rw [Tryz.params7] at hsz1
 have hA1:=hA
 have hup:=zJ0 hk
 obtain ⟨v0,vs0,d0,ds0,p0,q0,hargs,rfl,rfl,h0,r0⟩:=trodAll_cons hA;obtain ⟨v1,vs1,d1,ds1,p1,q1,rfl,rfl,rfl,h1,r1⟩:=trodAll_cons r0;obtain ⟨v2,vs2,d2,ds2,p2,q2,rfl,rfl,rfl,h2,r2⟩:=trodAll_cons r1;obtain ⟨v3,vs3,d3,ds3,p3,q3,rfl,rfl,rfl,h3,r3⟩:=trodAll_cons r2;obtain ⟨rfl,rfl,rfl⟩:=trodAll_nil r3;obtain rfl:args=#[v0,v1,v2,v3]:=by cases args;simp_all
 obtain ⟨rfl,rfl⟩:=trodVars_none hV;simp only [List.map_cons,List.map_nil,List.sum_cons,List.sum_nil] at hup;obtain ⟨f0,hF0,hfit0,hw0⟩:=jN (n0:=W.heap.size) uW shapePlanSteps0 (oH Tryz.underlying22 (hval 0 22 v0 rfl rfl)) h0 (fun m hm=>vH hsz1 (dB (i:=0) (t:=22) (d:=d0) rfl rfl hm))
 obtain ⟨a0,rfl,hs0⟩:=qBt hfit0;obtain ⟨f1,hF1,hfit1,hw1⟩:=jN (n0:=W.heap.size) uW shapePlanSteps1 (oH Tryz.underlying22 (hval 1 22 v1 rfl rfl)) h1 (fun m hm=>vH hsz1 (dB (i:=1) (t:=22) (d:=d1) rfl rfl hm))
 obtain ⟨a1,rfl,hs1⟩:=qBt hfit1;obtain ⟨f2,hF2,hfit2,hw2⟩:=jN (n0:=W.heap.size) uW shapePlanSteps2 (qQw Tryz.underlying3 (hval 2 3 v2 rfl rfl)) h2 (fun m hm=>vH hsz1 (dB (i:=2) (t:=3) (d:=d2) rfl rfl hm))
 obtain ⟨a2,rfl,hs2⟩:=qWf hfit2
 cases hF2
 obtain ⟨f3,hF3,hfit3,hw3⟩:=jN (n0:=W.heap.size) uW shapePlanSteps3 (qQw Tryz.underlying3 (hval 3 3 v3 rfl rfl)) h3 (fun m hm=>vH hsz1 (dB (i:=3) (t:=3) (d:=d3) rfl rfl hm))
 obtain ⟨a3,rfl,hs3⟩:=qWf hfit3
 cases hF3
 refine (qG3 (qHh (qXh a0 a1 a2 a3 (by omega)) (iB (RepF.toH hF0) (iB (RepF.toH hF1) (iB (.v _) (iB (.v _) qG4)))))).mono fun e W' ⟨_,he,hr,bel⟩=>?_
 subst he;subst hr;exact ⟨_,rfl,_,_,_,[],_,[],hW',trodAll_mk1 (shut_bool Tryz.underlying4 _),pX laidOutPlanSteps bel _ _ _ _ (by kernel_rfl) hA1,rfl,bel.frame _,fun h=>by cases h⟩
theorem planSteps_said:Rows.PlanStepsUptoSaid :=
 OpenClaim.holds_of_cond 7 Tryz.f7 rfl rfl rfl rfl rfl rfl rfl ⟨rfl,rfl,rfl,rfl,rfl⟩ rfl rfl rfl rfl rfl (by kernel_rfl) Tryz.func7 (by kernel_rfl)
  (of_decide_eq_true (by kernel_rfl)) (by unfold Func.isWrapper;first|(rw [if_pos (by decide +kernel)];kernel_rfl)|(rw [if_neg (by decide +kernel)];exact ⟨rfl,rfl⟩))
  (fun os started H enc _ F=>by rw [OpenClaim.pre_eq_preRow];exact liftedPlanSteps os started H enc F)
set_option maxRecDepth 100000 in
theorem plainPlanSteps (f:FuncId) (fn:Func) (hf:Tryz.pinned.checked.prog.funcNamed "tether/tetherlaw18.PlanSteps"=some f) (hfn:Tryz.pinned.checked.prog.funcs[f]?=some fn) :
  false=Tryz.pinned.checked.prog.looks []∧∀ (j:Nat) t,fn.params[j]?=some t→Tryz.pinned.checked.prog.wantsStandIn t=false:=by
 obtain rfl:f=7:=Option.some.inj ((show Tryz.prog.funcNamed "tether/tetherlaw18.PlanSteps"=some 7 by kernel_rfl).symm.trans hf) |>.symm
 obtain rfl:fn=Tryz.f7:=(Option.some.inj (Tryz.func7.symm.trans hfn)).symm;refine ⟨by kernel_rfl,fun j t ht=>?_⟩
 rw [Tryz.params7] at ht
 have hm:=Array.mem_of_getElem? ht
 simp only [Array.mem_def,List.mem_cons,List.mem_nil_iff,or_false] at hm
 rcases hm with rfl|rfl|rfl|rfl
 all_goals first|exact (show Tryz.prog.wantsStandIn 22=false by kernel_rfl)|exact (show Tryz.prog.wantsStandIn 3=false by kernel_rfl)
theorem planSteps_holds:Rows.PlanStepsUptoCardSaid :=
 Claim7.holds_tied_plain_at .later [] _ _ _ _ planSteps_said (fun _ h=>by cases h) (by kernel_rfl) (fun _ h=>by cases h) planStepsUpto_row_tie rfl ⟨rfl,rfl⟩ (by kernel_rfl) rfl plainPlanSteps (by kernel_rfl)
#print axioms planSteps_holds
end Go.Proofs.YtbdomkfdkfdfgaaGreatDoor
