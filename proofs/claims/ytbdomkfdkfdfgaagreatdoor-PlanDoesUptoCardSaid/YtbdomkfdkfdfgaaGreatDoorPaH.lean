/-
  PlanDoes, where what comes in holds no more than a million values and letters; the listed variables tied to the program's text.
-/
import Derived.Test.YtbdomkfdkfdfgaaGreatDoorRows
import Derived.Test.YtbdomkfdkfdfgaaGreatDoorCards
import Derived.Test.YtbdomkfdkfdfgaaGreatDoorTie
import Derived.Test.YtbdomkfdkfdfgaaGreatDoorApd
import Derived.Deep.DeepHandedRow
import Derived.Lay
import Derived.Test.YtbdomkfdkfdfgaaGreatDoorPaI
import Derived.Test.YtbdomkfdkfdfgaaGreatDoorPau
set_option linter.unusedVariables false
namespace Go.Proofs.YtbdomkfdkfdfgaaGreatDoor
open Go Go.Eng Go.RowKit Go.ChangeShapes Go.WideShapes Go.ChangeAt Go.Tr

theorem ownPlanDoes:ownKnob Tryz.prog.godebug=none:=by kernel_rfl
theorem laidOutPlanDoes:laidOutB Tryz.prog=true:=by kernel_rfl
theorem shapePlanDoes0:qAw Tryz.prog 8 22=some [.sl 40 [.str,.int .i64,.str]]:=by kernel_rfl
theorem shapePlanDoes1:qAw Tryz.prog 8 52=some [.sl 48 [.int .i64,.str,.int .i64,.str]]:=by kernel_rfl
theorem laidmetPlanDoes (os:Os):laidMet Tryz.prog Rows.planDoesUptoRow.laid ((World.laidAll Tryz.prog os Rows.planDoesUptoRow.laid).forCall (fun _ _=>0) ⟨#[],#[.slice none 0 0,.slice none 0 0],[]⟩).memory:=laidMet_laidAll _ (by kernel_rfl) (by kernel_rfl)
theorem readsPlanDoes (os:Os) {H:Type} (enc:TypeId × Value→H):∃ places,DataW.whole enc Tryz.prog ((World.laidAll Tryz.prog os Rows.planDoesUptoRow.laid).forCall (fun _ _=>0) ⟨#[],#[.slice none 0 0,.slice none 0 0],[]⟩).memory Tryz.f5.params.toList Rows.planDoesSpec.vars false (#[.slice none 0 0,.slice none 0 0]:Array Value).toList 8=some ([.nil,.nil],[],places):=⟨[],by kernel_rfl⟩
set_option maxRecDepth 100000 in
theorem liftedPlanDoes (os:Os) (started:os.Started) (H:Type) (enc:TypeId × Value→H) (F:Stop.Interp) :
  ReturnsInHanded {} Tryz.checked os 5 .any ((Rows.OpenSpec.upto Rows.planDoesSpec).preRow enc Tryz.prog Tryz.f5 Rows.planDoesUptoRow.domain false Rows.planDoesUptoRow.laid) (((Rows.OpenSpec.upto Rows.planDoesSpec).at F).post enc Tryz.prog Tryz.f5 false true false false):=by
 obtain ⟨places,hx⟩:=readsPlanDoes os enc;refine returnsInHanded_of_row (C:=Tryz.checked) (s:=Rows.OpenSpec.upto Rows.planDoesSpec) ownPlanDoes started (by kernel_rfl) Tryz.func5
  (witness_row_at (enc:=enc) (C:=Tryz.checked) false (World.laidAll Tryz.prog os Rows.planDoesUptoRow.laid) #[.slice none 0 0,.slice none 0 0] (World.laidAll_os _ _ _) (by kernel_rfl) (by kernel_rfl) (by kernel_rfl)
   (OpenSpec.preRow_of_cond 8 hx (by kernel_rfl) (fun k hk=>by cases hk;kernel_rfl) (by kernel_rfl) (laidmetPlanDoes os))) ?_
 intro W base args ds gs before hval0 hW _ hcond hsz hL _ _
 have hval:∀ (j:Nat) t v,Tryz.f5.params[j]?=some t→args[j]?=some v→Value.okWide Tryz.prog W .any base t v:=hval0
 have hk:=hcond _ rfl
 have hW':=hW
 obtain ⟨p,q,hA0,hV,rfl,hfz,hnd⟩:=hW
 have hA:DataW.TrodAll enc Tryz.prog W 0 (fun _=>true) true Tryz.f5.params.toList args.toList ds p:=hA0
 rw [Tryz.params5] at hA hval
 have hsz1:(DataW.weightsEach Tryz.prog (Tryz.f5.params.toList ++ Rows.planDoesSpec.plain.varTypes Tryz.prog) (ds ++ gs)).all (·≤reachBytes)=true:=hsz
 rw [Tryz.params5] at hsz1
 have hA1:=hA
 have hup:=zJ0 hk
 obtain ⟨v0,vs0,d0,ds0,p0,q0,hargs,rfl,rfl,h0,r0⟩:=trodAll_cons hA;obtain ⟨v1,vs1,d1,ds1,p1,q1,rfl,rfl,rfl,h1,r1⟩:=trodAll_cons r0;obtain ⟨rfl,rfl,rfl⟩:=trodAll_nil r1;obtain rfl:args=#[v0,v1]:=by cases args;simp_all
 obtain ⟨rfl,rfl⟩:=trodVars_none hV;simp only [List.map_cons,List.map_nil,List.sum_cons,List.sum_nil] at hup;obtain ⟨f0,hF0,hfit0,hw0⟩:=jN (n0:=W.heap.size) uW shapePlanDoes0 (oH Tryz.underlying22 (hval 0 22 v0 rfl rfl)) h0 (fun m hm=>vH hsz1 (dB (i:=0) (t:=22) (d:=d0) rfl rfl hm))
 obtain ⟨a0,rfl,hs0⟩:=qBt hfit0;obtain ⟨f1,hF1,hfit1,hw1⟩:=jN (n0:=W.heap.size) uW shapePlanDoes1 (oH Tryz.underlying52 (hval 1 52 v1 rfl rfl)) h1 (fun m hm=>vH hsz1 (dB (i:=1) (t:=52) (d:=d1) rfl rfl hm))
 obtain ⟨a1,rfl,hs1⟩:=zM2 hfit1;refine (qG3 (qHh (zBq a0 a1 (by omega)) (iB (RepF.toH hF0) (iB (RepF.toH hF1) qG4)))).mono fun e W' ⟨_,he,hr,bel⟩=>?_
 subst he;subst hr;exact ⟨_,rfl,_,_,_,[],_,[],hW',trodAll_mk1 (shut_bool Tryz.underlying4 _),pX laidOutPlanDoes bel _ _ _ _ (by kernel_rfl) hA1,rfl,bel.frame _,fun h=>by cases h⟩
theorem planDoes_said:Rows.PlanDoesUptoSaid :=
 OpenClaim.holds_of_cond 5 Tryz.f5 rfl rfl rfl rfl rfl rfl rfl ⟨rfl,rfl,rfl,rfl,rfl⟩ rfl rfl rfl rfl rfl (by kernel_rfl) Tryz.func5 (by kernel_rfl)
  (of_decide_eq_true (by kernel_rfl)) (by unfold Func.isWrapper;first|(rw [if_pos (by decide +kernel)];kernel_rfl)|(rw [if_neg (by decide +kernel)];exact ⟨rfl,rfl⟩))
  (fun os started H enc _ F=>by rw [OpenClaim.pre_eq_preRow];exact liftedPlanDoes os started H enc F)
set_option maxRecDepth 100000 in
theorem plainPlanDoes (f:FuncId) (fn:Func) (hf:Tryz.pinned.checked.prog.funcNamed "tether/tetherlaw18.PlanDoes"=some f) (hfn:Tryz.pinned.checked.prog.funcs[f]?=some fn) :
  false=Tryz.pinned.checked.prog.looks []∧∀ (j:Nat) t,fn.params[j]?=some t→Tryz.pinned.checked.prog.wantsStandIn t=false:=by
 obtain rfl:f=5:=Option.some.inj ((show Tryz.prog.funcNamed "tether/tetherlaw18.PlanDoes"=some 5 by kernel_rfl).symm.trans hf) |>.symm
 obtain rfl:fn=Tryz.f5:=(Option.some.inj (Tryz.func5.symm.trans hfn)).symm;refine ⟨by kernel_rfl,fun j t ht=>?_⟩
 rw [Tryz.params5] at ht
 have hm:=Array.mem_of_getElem? ht
 simp only [Array.mem_def,List.mem_cons,List.mem_nil_iff,or_false] at hm
 rcases hm with rfl|rfl
 all_goals first|exact (show Tryz.prog.wantsStandIn 22=false by kernel_rfl)|exact (show Tryz.prog.wantsStandIn 52=false by kernel_rfl)
theorem planDoes_holds:Rows.PlanDoesUptoCardSaid :=
 Claim7.holds_tied_plain_at .later [] _ _ _ _ planDoes_said (fun _ h=>by cases h) (by kernel_rfl) (fun _ h=>by cases h) planDoesUpto_row_tie rfl ⟨rfl,rfl⟩ (by kernel_rfl) rfl plainPlanDoes (by kernel_rfl)
#print axioms planDoes_holds
end Go.Proofs.YtbdomkfdkfdfgaaGreatDoor
