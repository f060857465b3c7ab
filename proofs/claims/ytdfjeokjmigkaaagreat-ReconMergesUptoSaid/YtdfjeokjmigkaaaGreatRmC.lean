/-
  ReconMerges, where what comes in holds no more than a million values and letters.
-/
import Derived.Test.YtdfjeokjmigkaaaGreatRows
import Derived.Test.YtdfjeokjmigkaaaGreatUpt
import Derived.Test.YtdfjeokjmigkaaaGreatApd
import Derived.Test.YtdfjeokjmigkaaaGreatTsR
set_option linter.unusedVariables false
namespace Go.Proofs.YtdfjeokjmigkaaaGreat
open Go Go.Eng Go.RowKit Go.ChangeShapes Go.WideShapes Go.ChangeAt Go.Tr

theorem ownReconMerges:ownKnob Tryz.prog.godebug=none:=by kernel_rfl
theorem laidOutReconMerges:laidOutB Tryz.prog=true:=by kernel_rfl
theorem shapeReconMerges0:qFk Tryz.prog 8 33=some [.int .i64,.str]:=by kernel_rfl
theorem shapeReconMerges1:qFk Tryz.prog 8 33=some [.int .i64,.str]:=by kernel_rfl
theorem shapeReconMerges2:qFk Tryz.prog 8 33=some [.int .i64,.str]:=by kernel_rfl
set_option maxRecDepth 100000 in
theorem liftedReconMerges (os:Os) (started:os.Started) (H:Type) (enc:TypeId × Value→H) (F:Stop.Interp) :
  ReturnsInHanded {} Tryz.checked os 4 .any ((Rows.OpenSpec.upto Rows.reconMergesSpec).pre6 enc Tryz.prog Tryz.f4 Rows.reconMergesUptoRow.domain false) (((Rows.OpenSpec.upto Rows.reconMergesSpec).at F).post enc Tryz.prog Tryz.f4 false true false false):=by
 refine returnsInHanded_of_cond_sized (C:=Tryz.checked) (s:=Rows.OpenSpec.upto Rows.reconMergesSpec) (k:=Rows.uptoSmall) rfl ownReconMerges started (by kernel_rfl) Tryz.func4
  (OpenSpec.witness (enc:=enc) (C:=Tryz.checked) (s:=Rows.OpenSpec.upto Rows.reconMergesSpec) (k:=Rows.uptoSmall) rfl false ⟨#[],#[.agg #[.int .i64 0,.string ByteArray.empty],.agg #[.int .i64 0,.string ByteArray.empty],.agg #[.int .i64 0,.string ByteArray.empty]],[]⟩ 8 (by kernel_rfl) (by kernel_rfl) (by kernel_rfl)
   (x:=([.agg [.lit (.int .i64 0),.lit (.string [])],.agg [.lit (.int .i64 0),.lit (.string [])],.agg [.lit (.int .i64 0),.lit (.string [])]],[],[])) (by kernel_rfl) rfl (by kernel_rfl)) ?_
 intro W base args ds gs before hval0 hW hcnd hk hsz _
 have hval:∀ (j:Nat) t v,Tryz.f4.params[j]?=some t→args[j]?=some v→Value.okWide Tryz.prog W .any base t v:=hval0
 have hW':=hW
 obtain ⟨p,q,hA0,hV,rfl,hfz,hnd⟩:=hW
 have hA:DataW.TrodAll enc Tryz.prog W 0 (fun _=>true) true Tryz.f4.params.toList args.toList ds p:=hA0
 rw [Tryz.params4] at hA hval
 have hsz1:(DataW.weightsEach Tryz.prog (Tryz.f4.params.toList ++ Rows.reconMergesSpec.plain.varTypes Tryz.prog) (ds ++ gs)).all (·≤reachBytes)=true:=hsz
 rw [Tryz.params4] at hsz1
 have hA1:=hA
 have hup:=zRa hk
 obtain ⟨v0,vs0,d0,ds0,p0,q0,hargs,rfl,rfl,h0,r0⟩:=trodAll_cons hA;obtain ⟨v1,vs1,d1,ds1,p1,q1,rfl,rfl,rfl,h1,r1⟩:=trodAll_cons r0;obtain ⟨v2,vs2,d2,ds2,p2,q2,rfl,rfl,rfl,h2,r2⟩:=trodAll_cons r1;obtain ⟨rfl,rfl,rfl⟩:=trodAll_nil r2;obtain rfl:args=#[v0,v1,v2]:=by cases args;simp_all
 obtain ⟨rfl,rfl⟩:=trodVars_none hV;simp only [List.map_cons,List.map_nil,List.sum_cons,List.sum_nil] at hup;obtain ⟨a0,hF0,hw0⟩:=qHk (n0:=W.heap.size) qG8 shapeReconMerges0 Tryz.underlying33 (hval 0 33 v0 rfl rfl) h0 (fun m hm=>qH4 hsz1 (gT (i:=0) (t:=33) (d:=d0) rfl rfl hm))
 obtain ⟨a1,hF1,hw1⟩:=qHk (n0:=W.heap.size) qG8 shapeReconMerges1 Tryz.underlying33 (hval 1 33 v1 rfl rfl) h1 (fun m hm=>qH4 hsz1 (gT (i:=1) (t:=33) (d:=d1) rfl rfl hm))
 obtain ⟨a2,hF2,hw2⟩:=qHk (n0:=W.heap.size) qG8 shapeReconMerges2 Tryz.underlying33 (hval 2 33 v2 rfl rfl) h2 (fun m hm=>qH4 hsz1 (gT (i:=2) (t:=33) (d:=d2) rfl rfl hm))
 refine (qPl (qP1 (qNr a0 a1 a2) (pF hF0 (pF hF1 (pF hF2 qPm))))).mono fun e W' ⟨_,he,hr,bel⟩=>?_
 subst he;subst hr;exact ⟨_,rfl,_,_,_,[],_,[],hW',trodAll_mk1 (shut_bool Tryz.underlying4 _),qA6 laidOutReconMerges bel _ _ _ _ (by kernel_rfl) hA1,rfl,bel.frame _,fun h=>by cases h⟩
theorem reconMerges_holds:Rows.ReconMergesUptoSaid :=
 OpenClaim.holds_of_cond 4 Tryz.f4 rfl rfl rfl rfl rfl rfl rfl ⟨rfl,rfl,rfl,rfl,rfl⟩ rfl rfl rfl rfl rfl (by kernel_rfl) Tryz.func4 (by kernel_rfl)
  (of_decide_eq_true (by kernel_rfl)) (by unfold Func.isWrapper;first|(rw [if_pos (by decide +kernel)];kernel_rfl)|(rw [if_neg (by decide +kernel)];exact ⟨rfl,rfl⟩))
  (fun os started H enc _ F=>liftedReconMerges os started H enc F)
#print axioms reconMerges_holds
end Go.Proofs.YtdfjeokjmigkaaaGreat
