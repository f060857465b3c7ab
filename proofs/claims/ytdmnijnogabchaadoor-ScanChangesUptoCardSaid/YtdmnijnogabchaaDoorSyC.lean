/-
  ScanChanges, where what comes in holds no more than a million values and letters; the listed variables tied to the program's text.
-/
import Derived.Test.YtdmnijnogabchaaDoorRows
import Derived.Test.YtdmnijnogabchaaDoorCards
import Derived.Test.YtdmnijnogabchaaDoorTie
import Derived.Test.YtdmnijnogabchaaDoorUpe
import Derived.Deep.DeepHandedRow
import Derived.Lay
import Derived.Test.YtdmnijnogabchaaDoorSyB
set_option linter.unusedVariables false
namespace Go.Proofs.YtdmnijnogabchaaDoor
open Go Go.Eng Go.RowKit Go.ChangeShapes Go.WideShapes Go.ChangeAt Go.Tr

theorem ownScanChanges:ownKnob Tryd.prog.godebug=none:=by kernel_rfl
theorem laidOutScanChanges:laidOutB Tryd.prog=true:=by kernel_rfl
theorem shapeScanChanges0:qKy Tryd.prog 8 22=some [.sl 40 [.str,.int .i64,.str]]:=by kernel_rfl
theorem shapeScanChanges1:qKy Tryd.prog 8 22=some [.sl 40 [.str,.int .i64,.str]]:=by kernel_rfl
theorem shapeScanChanges2:qKy Tryd.prog 8 9=some [.str]:=by kernel_rfl
theorem laidmetScanChanges (os:Os):laidMet Tryd.prog Rows.scanChangesUptoRow.laid ((World.laidAll Tryd.prog os Rows.scanChangesUptoRow.laid).forCall (fun _ _=>0) ⟨#[],#[.slice none 0 0,.slice none 0 0,.string ByteArray.empty],[]⟩).memory:=laidMet_laidAll _ (by kernel_rfl) (by kernel_rfl)
theorem readsScanChanges (os:Os) {H:Type} (enc:TypeId × Value→H):∃ places,DataW.whole enc Tryd.prog ((World.laidAll Tryd.prog os Rows.scanChangesUptoRow.laid).forCall (fun _ _=>0) ⟨#[],#[.slice none 0 0,.slice none 0 0,.string ByteArray.empty],[]⟩).memory Tryd.f3.params.toList Rows.scanChangesSpec.vars false (#[.slice none 0 0,.slice none 0 0,.string ByteArray.empty]:Array Value).toList 8=some ([.nil,.nil,.lit (.string [])],[],places):=⟨[],by kernel_rfl⟩
set_option maxRecDepth 100000 in
theorem liftedScanChanges (os:Os) (started:os.Started) (H:Type) (enc:TypeId × Value→H) (F:Stop.Interp) :
  ReturnsInHanded {} Tryd.checked os 3 .any ((Rows.OpenSpec.upto Rows.scanChangesSpec).preRow enc Tryd.prog Tryd.f3 Rows.scanChangesUptoRow.domain false Rows.scanChangesUptoRow.laid) (((Rows.OpenSpec.upto Rows.scanChangesSpec).at F).post enc Tryd.prog Tryd.f3 false true false false):=by
 obtain ⟨places,hx⟩:=readsScanChanges os enc;refine returnsInHanded_of_row (C:=Tryd.checked) (s:=Rows.OpenSpec.upto Rows.scanChangesSpec) ownScanChanges started (by kernel_rfl) Tryd.func3
  (witness_row_at (enc:=enc) (C:=Tryd.checked) false (World.laidAll Tryd.prog os Rows.scanChangesUptoRow.laid) #[.slice none 0 0,.slice none 0 0,.string ByteArray.empty] (World.laidAll_os _ _ _) (by kernel_rfl) (by kernel_rfl) (by kernel_rfl)
   (OpenSpec.preRow_of_cond 8 hx (by kernel_rfl) (fun k hk=>by cases hk;kernel_rfl) (by kernel_rfl) (laidmetScanChanges os))) ?_
 intro W base args ds gs before hval0 hW _ hcond hsz hL _ _
 have hval:∀ (j:Nat) t v,Tryd.f3.params[j]?=some t→args[j]?=some v→Value.okWide Tryd.prog W .any base t v:=hval0
 have hk:=hcond _ rfl
 have hW':=hW
 obtain ⟨p,q,hA0,hV,rfl,hfz,hnd⟩:=hW
 have hA:DataW.TrodAll enc Tryd.prog W 0 (fun _=>true) true Tryd.f3.params.toList args.toList ds p:=hA0
 rw [Tryd.params3] at hA hval
 have hsz1:(DataW.weightsEach Tryd.prog (Tryd.f3.params.toList ++ Rows.scanChangesSpec.plain.varTypes Tryd.prog) (ds ++ gs)).all (·≤reachBytes)=true:=hsz
 rw [Tryd.params3] at hsz1
 have hA1:=hA
 have hup:=zKf hk
 obtain ⟨v0,vs0,d0,ds0,p0,q0,hargs,rfl,rfl,h0,r0⟩:=trodAll_cons hA;obtain ⟨v1,vs1,d1,ds1,p1,q1,rfl,rfl,rfl,h1,r1⟩:=trodAll_cons r0;obtain ⟨v2,vs2,d2,ds2,p2,q2,rfl,rfl,rfl,h2,r2⟩:=trodAll_cons r1;obtain ⟨rfl,rfl,rfl⟩:=trodAll_nil r2;obtain rfl:args=#[v0,v1,v2]:=by cases args;simp_all
 obtain ⟨rfl,rfl⟩:=trodVars_none hV;simp only [List.map_cons,List.map_nil,List.sum_cons,List.sum_nil] at hup;obtain ⟨f0,hF0,hfit0,hw0⟩:=qBd (n0:=W.heap.size) qVt shapeScanChanges0 (qKn Tryd.underlying22 (hval 0 22 v0 rfl rfl)) h0 (fun m hm=>qXi hsz1 (gS (i:=0) (t:=22) (d:=d0) rfl rfl hm))
 obtain ⟨a0,rfl,hs0⟩:=qUy hfit0;obtain ⟨f1,hF1,hfit1,hw1⟩:=qBd (n0:=W.heap.size) qVt shapeScanChanges1 (qKn Tryd.underlying22 (hval 1 22 v1 rfl rfl)) h1 (fun m hm=>qXi hsz1 (gS (i:=1) (t:=22) (d:=d1) rfl rfl hm))
 obtain ⟨a1,rfl,hs1⟩:=qUy hfit1;obtain ⟨f2,hF2,hfit2,hw2⟩:=qBd (n0:=W.heap.size) qVt shapeScanChanges2 (qVb Tryd.underlying9 (hval 2 9 v2 rfl rfl)) h2 (fun m hm=>qXi hsz1 (gS (i:=2) (t:=9) (d:=d2) rfl rfl hm))
 obtain ⟨a2,rfl,hs2⟩:=zGp hfit2
 cases hF2
 refine (zAy (zA5 (qKz a0 a1 a2 (by omega)) (uV (RepF.toH hF0) (uV (RepF.toH hF1) (uV (.v _) zAz))))).mono fun e W' ⟨_,he,hr,bel⟩=>?_
 subst he;subst hr;exact ⟨_,rfl,_,_,_,[],_,[],hW',trodAll_mk1 (shut_bool Tryd.underlying4 _),wR laidOutScanChanges bel _ _ _ _ (by kernel_rfl) hA1,rfl,bel.frame _,fun h=>by cases h⟩
theorem scanChanges_said:Rows.ScanChangesUptoSaid :=
 OpenClaim.holds_of_cond 3 Tryd.f3 rfl rfl rfl rfl rfl rfl rfl ⟨rfl,rfl,rfl,rfl,rfl⟩ rfl rfl rfl rfl rfl (by kernel_rfl) Tryd.func3 (by kernel_rfl)
  (of_decide_eq_true (by kernel_rfl)) (by unfold Func.isWrapper;first|(rw [if_pos (by decide +kernel)];kernel_rfl)|(rw [if_neg (by decide +kernel)];exact ⟨rfl,rfl⟩))
  (fun os started H enc _ F=>by rw [OpenClaim.pre_eq_preRow];exact liftedScanChanges os started H enc F)
set_option maxRecDepth 100000 in
theorem plainScanChanges (f:FuncId) (fn:Func) (hf:Tryd.pinned.checked.prog.funcNamed "tether/tetherlaw15.ScanChanges"=some f) (hfn:Tryd.pinned.checked.prog.funcs[f]?=some fn) :
  false=Tryd.pinned.checked.prog.looks []∧∀ (j:Nat) t,fn.params[j]?=some t→Tryd.pinned.checked.prog.wantsStandIn t=false:=by
 obtain rfl:f=3:=Option.some.inj ((show Tryd.prog.funcNamed "tether/tetherlaw15.ScanChanges"=some 3 by kernel_rfl).symm.trans hf) |>.symm
 obtain rfl:fn=Tryd.f3:=(Option.some.inj (Tryd.func3.symm.trans hfn)).symm;refine ⟨by kernel_rfl,fun j t ht=>?_⟩
 rw [Tryd.params3] at ht
 have hm:=Array.mem_of_getElem? ht
 simp only [Array.mem_def,List.mem_cons,List.mem_nil_iff,or_false] at hm
 rcases hm with rfl|rfl|rfl
 all_goals first|exact (show Tryd.prog.wantsStandIn 22=false by kernel_rfl)|exact (show Tryd.prog.wantsStandIn 9=false by kernel_rfl)
theorem scanChanges_holds:Rows.ScanChangesUptoCardSaid :=
 Claim7.holds_tied_plain_at .later [] _ _ _ _ scanChanges_said (fun _ h=>by cases h) (by kernel_rfl) (fun _ h=>by cases h) scanChangesUpto_row_tie rfl ⟨rfl,rfl⟩ (by kernel_rfl) rfl plainScanChanges (by kernel_rfl)
#print axioms scanChanges_holds
end Go.Proofs.YtdmnijnogabchaaDoor
