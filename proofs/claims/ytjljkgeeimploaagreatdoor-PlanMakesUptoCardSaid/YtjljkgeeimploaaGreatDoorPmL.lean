/-
  PlanMakes, where what comes in holds no more than a million values and letters; the listed variables tied to the program's text.
-/
import Derived.Test.YtjljkgeeimploaaGreatDoorQo
import Derived.Test.YtjljkgeeimploaaGreatDoorCards
import Derived.Test.YtjljkgeeimploaaGreatDoorTie
import Derived.Deep.DeepHandedRow
import Derived.Lay
set_option maxRecDepth 20000
namespace Go.Proofs.YtjljkgeeimploaaGreatDoor
open Go Go.Proofs.Y Go.Eng Go.RowKit Go.ChangeShapes Go.WideShapes Go.ChangeAt Go.Tr
theorem ownPlanMakes:ownKnob Tryz.prog.godebug=none:=by kernel_rfl
theorem laidOutPlanMakes:laidOutB Tryz.prog=true:=by kernel_rfl
theorem shapePlanMakes0:qM6 Tryz.prog 8 22=some [.sl 40 [.str,.int .i64,.str]]:=by kernel_rfl
theorem shapePlanMakes1:qM6 Tryz.prog 8 22=some [.sl 40 [.str,.int .i64,.str]]:=by kernel_rfl
theorem shapePlanMakes2:qM6 Tryz.prog 8 22=some [.sl 40 [.str,.int .i64,.str]]:=by kernel_rfl
theorem laidmetPlanMakes (os:Os):laidMet Tryz.prog Rows.planMakesUptoRow.laid ((World.laidAll Tryz.prog os Rows.planMakesUptoRow.laid).forCall (fun _ _=>0) ⟨#[],#[.slice none 0 0,.slice none 0 0,.slice none 0 0],[]⟩).memory:=laidMet_laidAll _ (by kernel_rfl) (by kernel_rfl)
theorem readsPlanMakes (os:Os) {H:Type} (enc:TypeId × Value→H):∃ places,DataW.whole enc Tryz.prog ((World.laidAll Tryz.prog os Rows.planMakesUptoRow.laid).forCall (fun _ _=>0) ⟨#[],#[.slice none 0 0,.slice none 0 0,.slice none 0 0],[]⟩).memory Tryz.f3.params.toList Rows.planMakesSpec.vars false (#[.slice none 0 0,.slice none 0 0,.slice none 0 0]:Array Value).toList 8=some ([.nil,.nil,.nil],[],places):=⟨[],by kernel_rfl⟩
set_option maxRecDepth 100000 in
theorem liftedPlanMakes (os:Os) (started:os.Started) (H:Type) (enc:TypeId × Value→H) (F:Stop.Interp) :
  ReturnsInHanded {} Tryz.checked os 3 .any ((Rows.OpenSpec.upto Rows.planMakesSpec).preRow enc Tryz.prog Tryz.f3 Rows.planMakesUptoRow.domain false Rows.planMakesUptoRow.laid) (((Rows.OpenSpec.upto Rows.planMakesSpec).at F).post enc Tryz.prog Tryz.f3 false true false false):=by
 obtain ⟨places,hx⟩:=readsPlanMakes os enc;refine returnsInHanded_of_row (C:=Tryz.checked) (s:=Rows.OpenSpec.upto Rows.planMakesSpec) ownPlanMakes started (by kernel_rfl) Tryz.func3
  (witness_row_at (enc:=enc) (C:=Tryz.checked) false (World.laidAll Tryz.prog os Rows.planMakesUptoRow.laid) #[.slice none 0 0,.slice none 0 0,.slice none 0 0] (World.laidAll_os _ _ _) (by kernel_rfl) (by kernel_rfl) (by kernel_rfl)
   (OpenSpec.preRow_of_cond 8 hx (by kernel_rfl) (fun k hk=>by cases hk;kernel_rfl) (by kernel_rfl) (laidmetPlanMakes os))) ?_
 intro W base args ds gs before hval0 hW _ hcond hsz hL _ _
 have hval:∀ (j:Nat) t v,Tryz.f3.params[j]?=some t→args[j]?=some v→Value.okWide Tryz.prog W .any base t v:=hval0
 have hk:=hcond _ rfl
 have hW':=hW
 obtain ⟨p,q,hA0,hV,rfl,hfz,hnd⟩:=hW
 have hA:DataW.TrodAll enc Tryz.prog W 0 (fun _=>true) true Tryz.f3.params.toList args.toList ds p:=hA0
 rw [Tryz.params3] at hA hval
 have hsz1:(DataW.weightsEach Tryz.prog (Tryz.f3.params.toList ++ Rows.planMakesSpec.plain.varTypes Tryz.prog) (ds ++ gs)).all (·≤reachBytes)=true:=hsz
 rw [Tryz.params3] at hsz1
 have hA1:=hA
 have hup:=yE7 hk
 obtain ⟨v0,vs0,d0,ds0,p0,q0,hargs,rfl,rfl,h0,r0⟩:=trodAll_cons hA;obtain ⟨v1,vs1,d1,ds1,p1,q1,rfl,rfl,rfl,h1,r1⟩:=trodAll_cons r0;obtain ⟨v2,vs2,d2,ds2,p2,q2,rfl,rfl,rfl,h2,r2⟩:=trodAll_cons r1;obtain ⟨rfl,rfl,rfl⟩:=trodAll_nil r2;obtain rfl:args=#[v0,v1,v2]:=by cases args;simp_all
 obtain ⟨rfl,rfl⟩:=trodVars_none hV;simp only [d8,m4,bBe,List.sum_nil] at hup;obtain ⟨f0,hF0,hfit0,hw0⟩:=qF5 (n0:=W.heap.size) qXh shapePlanMakes0 (qDu Tryz.underlying22 (hval 0 22 v0 rfl rfl)) h0 (fun m hm=>zDm hsz1 (lQ (i:=0) (t:=22) (d:=d0) rfl rfl hm))
 obtain ⟨a0,rfl,hs0⟩:=qLy hfit0;obtain ⟨f1,hF1,hfit1,hw1⟩:=qF5 (n0:=W.heap.size) qXh shapePlanMakes1 (qDu Tryz.underlying22 (hval 1 22 v1 rfl rfl)) h1 (fun m hm=>zDm hsz1 (lQ (i:=1) (t:=22) (d:=d1) rfl rfl hm))
 obtain ⟨a1,rfl,hs1⟩:=qLy hfit1;obtain ⟨f2,hF2,hfit2,hw2⟩:=qF5 (n0:=W.heap.size) qXh shapePlanMakes2 (qDu Tryz.underlying22 (hval 2 22 v2 rfl rfl)) h2 (fun m hm=>zDm hsz1 (lQ (i:=2) (t:=22) (d:=d2) rfl rfl hm))
 obtain ⟨a2,rfl,hs2⟩:=qLy hfit2;refine (zGu (zJd (qUh a0 a1 a2 (by omega)) (qDe (RepF.toH hF0) (qDe (RepF.toH hF1) (qDe (RepF.toH hF2) zGx))))).mono fun e W' ⟨_,he,hr,bel⟩=>?_
 subst he;subst hr;exact ⟨_,rfl,_,_,_,[],_,[],hW',trodAll_mk1 (shut_bool Tryz.underlying4 _),qD4 laidOutPlanMakes bel _ _ _ _ (by kernel_rfl) hA1,rfl,bel.frame _,fun h=>by cases h⟩
theorem planMakes_said:Rows.PlanMakesUptoSaid :=
 OpenClaim.holds_of_cond 3 Tryz.f3 rfl rfl rfl rfl rfl rfl rfl ⟨rfl,rfl,rfl,rfl,rfl⟩ rfl rfl rfl rfl rfl (by kernel_rfl) Tryz.func3 (by kernel_rfl)
  (u7 (by kernel_rfl)) (by unfold Func.isWrapper;first|(rw [g8 (by decide +kernel)];kernel_rfl)|(rw [b7 (by decide +kernel)];exact ⟨rfl,rfl⟩))
  (fun os started H enc _ F=>by rw [OpenClaim.pre_eq_preRow];exact liftedPlanMakes os started H enc F)
set_option maxRecDepth 100000 in
theorem plainPlanMakes (f:FuncId) (fn:Func) (hf:Tryz.pinned.checked.prog.funcNamed "tether/tetherlaw18.PlanMakes"=some f) (hfn:Tryz.pinned.checked.prog.funcs[f]?=some fn) :
  false=Tryz.pinned.checked.prog.looks []∧∀ (j:Nat) t,fn.params[j]?=some t→Tryz.pinned.checked.prog.wantsStandIn t=false:=by
 obtain rfl:f=3:=q9 ((show Tryz.prog.funcNamed "tether/tetherlaw18.PlanMakes"=some 3 by kernel_rfl).symm.trans hf) |>.symm
 obtain rfl:fn=Tryz.f3:=(q9 (Tryz.func3.symm.trans hfn)).symm;refine ⟨by kernel_rfl,fun j t ht=>?_⟩
 rw [Tryz.params3] at ht
 have hm:=Array.mem_of_getElem? ht
 simp only [Array.mem_def,l3,List.mem_nil_iff,bDu] at hm
 rcases hm with rfl|rfl|rfl
 all_goals first|exact (show Tryz.prog.wantsStandIn 22=false by kernel_rfl)
theorem planMakes_holds:Rows.PlanMakesUptoCardSaid :=
 Claim7.holds_tied_plain_at .later [] _ _ _ _ planMakes_said (fun _ h=>by cases h) (by kernel_rfl) (fun _ h=>by cases h) planMakesUpto_row_tie rfl ⟨rfl,rfl⟩ (by kernel_rfl) rfl plainPlanMakes (by kernel_rfl)
#print axioms planMakes_holds
end Go.Proofs.YtjljkgeeimploaaGreatDoor
