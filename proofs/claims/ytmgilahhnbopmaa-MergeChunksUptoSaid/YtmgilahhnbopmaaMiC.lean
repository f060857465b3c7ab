/-
  MergeChunks, where what comes in holds no more than a million values and letters.
-/
import Derived.Test.YtmgilahhnbopmaaRows
import Derived.Test.YtmgilahhnbopmaaRcc
import Derived.Test.YtmgilahhnbopmaaGd
import Derived.Test.YtmgilahhnbopmaaMiB
set_option linter.unusedVariables false
namespace Go.Proofs.Ytmgilahhnbopmaa
open Go Go.Eng Go.RowKit Go.ChangeShapes Go.WideShapes Go.ChangeAt

theorem ownMergeChunks:ownKnob Try.prog.godebug=none:=by kernel_rfl
theorem laidOutMergeChunks:laidOutB Try.prog=true:=by kernel_rfl
theorem shapeMergeChunks0:qNj Try.prog 8 9=some [.str]:=by kernel_rfl
theorem shapeMergeChunks1:qNj Try.prog 8 9=some [.str]:=by kernel_rfl
theorem shapeMergeChunks2:qNj Try.prog 8 9=some [.str]:=by kernel_rfl
set_option maxRecDepth 100000 in
theorem liftedMergeChunks (os:Os) (started:os.Started) (H:Type) (enc:TypeId × Value→H) (F:Stop.Interp) :
  ReturnsInHanded {} Try.checked os 3 .any ((Rows.OpenSpec.upto Rows.mergeChunksSpec).pre6 enc Try.prog Try.f3 Rows.mergeChunksUptoRow.domain false) (((Rows.OpenSpec.upto Rows.mergeChunksSpec).at F).post enc Try.prog Try.f3 false true false false):=by
 refine returnsInHanded_of_cond_sized (C:=Try.checked) (s:=Rows.OpenSpec.upto Rows.mergeChunksSpec) (k:=Rows.uptoSmall) rfl ownMergeChunks started (by kernel_rfl) Try.func3
  (OpenSpec.witness (enc:=enc) (C:=Try.checked) (s:=Rows.OpenSpec.upto Rows.mergeChunksSpec) (k:=Rows.uptoSmall) rfl false ⟨#[],#[.string ByteArray.empty,.string ByteArray.empty,.string ByteArray.empty],[]⟩ 8 (by kernel_rfl) (by kernel_rfl) (by kernel_rfl)
   (x:=([.lit (.string []),.lit (.string []),.lit (.string [])],[],[])) (by kernel_rfl) rfl (by kernel_rfl)) ?_
 intro W base args ds gs before hval0 hW hcnd hk hsz _
 have hval:∀ (j:Nat) t v,Try.f3.params[j]?=some t→args[j]?=some v→Value.okWide Try.prog W .any base t v:=hval0
 have hW':=hW
 obtain ⟨p,q,hA0,hV,rfl,hfz,hnd⟩:=hW
 have hA:DataW.TrodAll enc Try.prog W 0 (fun _=>true) true Try.f3.params.toList args.toList ds p:=hA0
 rw [Try.params3] at hA hval
 have hsz1:(DataW.weightsEach Try.prog (Try.f3.params.toList ++ Rows.mergeChunksSpec.plain.varTypes Try.prog) (ds ++ gs)).all (·≤reachBytes)=true:=hsz
 rw [Try.params3] at hsz1
 have hA1:=hA
 have hup:=zJ2 hk
 obtain ⟨v0,vs0,d0,ds0,p0,q0,hargs,rfl,rfl,h0,r0⟩:=trodAll_cons hA;obtain ⟨v1,vs1,d1,ds1,p1,q1,rfl,rfl,rfl,h1,r1⟩:=trodAll_cons r0;obtain ⟨v2,vs2,d2,ds2,p2,q2,rfl,rfl,rfl,h2,r2⟩:=trodAll_cons r1;obtain ⟨rfl,rfl,rfl⟩:=trodAll_nil r2;obtain rfl:args=#[v0,v1,v2]:=by cases args;simp_all
 obtain ⟨rfl,rfl⟩:=trodVars_none hV;simp only [List.map_cons,List.map_nil,List.sum_cons,List.sum_nil] at hup;obtain ⟨f0,hF0,hfit0,hw0⟩:=qEw (n0:=W.heap.size) qXg shapeMergeChunks0 (qA7 Try.underlying9 (hval 0 9 v0 rfl rfl)) h0 (fun m hm=>qYp hsz1 (lE (i:=0) (t:=9) (d:=d0) rfl rfl hm))
 obtain ⟨a0,rfl,hs0⟩:=qSt hfit0
 cases hF0
 obtain ⟨f1,hF1,hfit1,hw1⟩:=qEw (n0:=W.heap.size) qXg shapeMergeChunks1 (qA7 Try.underlying9 (hval 1 9 v1 rfl rfl)) h1 (fun m hm=>qYp hsz1 (lE (i:=1) (t:=9) (d:=d1) rfl rfl hm))
 obtain ⟨a1,rfl,hs1⟩:=qSt hfit1
 cases hF1
 obtain ⟨f2,hF2,hfit2,hw2⟩:=qEw (n0:=W.heap.size) qXg shapeMergeChunks2 (qA7 Try.underlying9 (hval 2 9 v2 rfl rfl)) h2 (fun m hm=>qYp hsz1 (lE (i:=2) (t:=9) (d:=d2) rfl rfl hm))
 obtain ⟨a2,rfl,hs2⟩:=qSt hfit2
 cases hF2
 refine (zBx (zB4 (qNk a0 a1 a2 hs0 hs1 hs2 (by omega)) (qCn (.v _) (qCn (.v _) (qCn (.v _) zBz))))).mono fun e W' ⟨_,he,hr,bel⟩=>?_
 subst he;subst hr;exact ⟨_,rfl,_,_,_,[],_,[],hW',trodAll_mk1 (shut_bool Try.underlying4 _),qC3 laidOutMergeChunks bel _ _ _ _ (by kernel_rfl) hA1,rfl,bel.frame _,fun h=>by cases h⟩
theorem mergeChunks_holds:Rows.MergeChunksUptoSaid :=
 OpenClaim.holds_of_cond 3 Try.f3 rfl rfl rfl rfl rfl rfl rfl ⟨rfl,rfl,rfl,rfl,rfl⟩ rfl rfl rfl rfl rfl (by kernel_rfl) Try.func3 (by kernel_rfl)
  (of_decide_eq_true (by kernel_rfl)) (by unfold Func.isWrapper;first|(rw [if_pos (by decide +kernel)];kernel_rfl)|(rw [if_neg (by decide +kernel)];exact ⟨rfl,rfl⟩))
  (fun os started H enc _ F=>liftedMergeChunks os started H enc F)
#print axioms mergeChunks_holds
end Go.Proofs.Ytmgilahhnbopmaa
