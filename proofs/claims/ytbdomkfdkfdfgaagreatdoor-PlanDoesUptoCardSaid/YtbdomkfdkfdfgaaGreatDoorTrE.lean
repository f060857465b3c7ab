/-
  The search in a tree: slices.BinarySearchFunc, tree.find, tree.Get.
-/
import Derived.Test.YtbdomkfdkfdfgaaGreatDoorGc
import Derived.Test.YtbdomkfdkfdfgaaGreatDoorApd
set_option linter.unusedSimpArgs false
set_option linter.unusedVariables false
section
namespace Go.Eng
open Go Go.RowKit
inductive PlainH:HV→Prop
|v (x:Value):PlainH (.v x)
|tup (xs:List Value):PlainH (.tup (xs.map .v))
section
variable {P:Program} {N:Nat} {w w':World} {A A':Nat→Prop} {n0 n1:Nat} {ρ ρ':Nat→Value}
theorem RepH.plain {v:Value} {h:HV} (hr:RepH w A n0 ρ v h) (hp:PlainH h):RepH w' A' n1 ρ' v h:=by
 cases hp with
|v x=>have:=bL hr;subst this;exact .v _
|tup xs =>
  cases hr with
 |tup hn h =>
  refine .tup hn fun j a b=>?_
  have:=h j a b
  simp only [List.getElem_map] at this ⊢
  have e:=bL this
  rw [e];exact .v _
end
end Go.Eng
end
section
namespace Go.Eng
open Go Go.RowKit
section
variable {P:Program} {N:Nat} {c:Ctx} {S:HS} {look:Nat→Option Value} {w w':World} {ρ:Nat→Value} {xs:Nat→List Value}
theorem Good.upds (h:Good c S look w ρ xs) (id:Nat) (r0 r:Row) (ys:List Value) (hs:w.heap.size≤w'.heap.size) (hos:w'.os=w.os) (htape:w'.tape=w.tape) (hout:w'.output=w.output)
  (hr0:rlk S.st id=some r0) (hnw:r.nw=r0.nw) (hb:∀ b,b < w.heap.size→(ρ id).ownBlock≠some b→w'.heap[b]?=w.heap[b]?)
  (st':aD) (hst:∀ i,rlk st' i=if i=id then some r else rlk S.st i)
  (hrow:RowOk w' (c.A ρ st') c ρ id r ys) :
  Good c ⟨S.env,st'⟩ look w' ρ (fun i=>if i=id then ys else xs i):=by
 have hA:∀ b,c.A ρ st' b→c.A ρ S.st b:=by
  rintro b (h0|⟨i,s,hi,hbi⟩)
  ·exact .inl h0
  ·right
   rw [hst] at hi
   by_cases e:i=id
   ·subst e;exact ⟨i,r0,hr0,hbi⟩
   ·rw [if_neg e] at hi;exact ⟨i,s,hi,hbi⟩
 have hb':∀ b,b < w.heap.size→¬ c.A ρ S.st b→w'.heap[b]?=w.heap[b]?:=fun b hl hn=>hb b hl fun e=>hn (.inr ⟨id,r0,hr0,e⟩)
 have tr:∀ v x,RepH w (c.A ρ S.st) c.n0 ρ v x→RepH w' (c.A ρ st') c.n0 ρ v x:=fun v x hv=>hv.up hs hb' (fun b _=>hA b) (Nat.le_refl _)
 have back:∀ i s,rlk st' i=some s→∃ s0,rlk S.st i=some s0:=by
  intro i s hi;rw [hst] at hi
  by_cases e:i=id
  ·subst e;exact ⟨r0,hr0⟩
  ·rw [if_neg e] at hi;exact ⟨s,hi⟩
 refine ⟨?_,?_,?_,?_,h.a0⟩
 ·intro i s hi;rw [hst] at hi
  by_cases e:i=id
  ·subst e;rw [if_pos rfl] at hi;simp only [Option.some.injEq] at hi;subst hi;rw [if_pos rfl];exact hrow
  ·rw [if_neg e] at hi;rw [if_neg e];exact (h.rows i s hi).up hs hb' (fun b _=>hA b) (fun b hbi=>hb b (h.lt hi hbi) fun e2=>h.apart i id s r0 b e hi hr0 hbi e2)
 ·intro i j ri rj b hne hi hj hbi hbj;obtain ⟨s0,h1⟩:=back i ri hi;obtain ⟨s1,h2⟩:=back j rj hj;exact h.apart i j s0 s1 b hne h1 h2 hbi hbj
 ·intro k x hk;obtain ⟨v,h1,h2⟩:=h.env k x hk;exact ⟨v,h1,tr v x h2⟩
 ·refine h.kept.trans (T':=fun b=>(ρ id).ownBlock=some b) ⟨hos,htape,hout,hs,fun b hlt hn=>hb b hlt hn⟩ fun b hlt e=>?_
  rcases ((h.rows id r0 hr0).new b e).1 with hge|hT
  ·omega
  ·exact hT
theorem zL6 {f:FuncId} {args args':List HV} {xs:List Value} {K:HV→HS→Prop} (hc:aE P f=true) (H:HFun P f args' (fun h st=>h=.tup (xs.map .v))) (hl:Lends S.st args args') (hK:K (.tup (xs.map .v)) S):HAt P f args S K :=
 ⟨hc,fun c look w ρ xs' vs G R=>Ret.mono (H w vs (mM G R hl)) fun v w' ⟨B,h,st,h8,q,ρ',xs',G',hr⟩=>⟨_,_,hK,ρ,_,G.below B,by subst q;exact hr.plain (.tup xs)⟩⟩
end
end Go.Eng
end
section
set_option maxRecDepth 20000
namespace Go.Proofs.YtbdomkfdkfdfgaaGreatDoor
open Go Go.Eng Go.RowKit Go.Tr
set_option maxHeartbeats 4000000 in
theorem zJk (t:List Ent) (p:ByteArray) (hr:rise t) (hl:t.length≤140737488355328):HFun Tryz.prog 94 [.lst false (aG t),.v (.string p),.v (.func (.func 95) #[] #[])] (fun h st=>h=.tup [.v (.int .i64 (aQ t p)),.v (.bool (aU t p))]):=by
 refine eX (N:=49) Tryz.func94 rfl Tryz.ntmps94 Tryz.results94 (by simp) ?_
 obtain ⟨p1,p2⟩:=rR hr p
 have pl:=qFg t p
 refine zE ?_;refine zJ (fun K hK=>?_);simp (disch:=omega) only [push_cast,↓Int.cast_ofNat_Int,Nat.reduceBEq,Nat.reduceAdd,Nat.reduceLT,Nat.reduceEqDiff,reduceIte,reduceCtorEq,Nat.reduceLeDiff,Nat.reduceSub,List.reduceReplicate,Nat.reduceMul,Int.reduceToNat,Nat.reducePow];refine hK _ ?_;clear hK K
 refine zE ?_;refine zJ (fun K hK=>?_);simp (disch:=omega) only [push_cast,↓Int.cast_ofNat_Int,Nat.reduceBEq,Nat.reduceAdd,Nat.reduceLT,Nat.reduceEqDiff,reduceIte,reduceCtorEq,Nat.reduceLeDiff,Nat.reduceSub,List.reduceReplicate,Nat.reduceMul,Int.reduceToNat,Nat.reducePow,yV];refine hK _ ?_;clear hK K
 refine zE ?_;refine zJ (fun K hK=>?_);simp (disch:=omega) only [push_cast,↓Int.cast_ofNat_Int,Nat.reduceBEq,Nat.reduceAdd,Nat.reduceLT,Nat.reduceEqDiff,reduceIte,reduceCtorEq,Nat.reduceLeDiff,Nat.reduceSub,List.reduceReplicate,Nat.reduceMul,Int.reduceToNat,Nat.reducePow,yV];refine hK _ ?_;clear hK K
 refine zE ?_;refine zD ?_;refine cP (fun x:Nat × Nat=>⟨[(0,.lst false (aG t)),(1,.v (.string p)),(2,.v (.func (.func 95) #[] #[])),(8,.v (.int .i64 t.length)),(9,.v (.int .i64 x.1)),(10,.v (.int .i64 x.2))],[]⟩)
  (fun x=>x.1≤aQ t p∧aQ t p≤x.2∧x.2≤t.length) (fun x=>x.2 - x.1) [0,1,2,8,9,10] [] (0,t.length) rfl ⟨Nat.zero_le _,pl,Nat.le_refl _⟩ ?_
 rintro ⟨i,j⟩ ⟨h1,h2,h3⟩;simp only at h1 h2 h3
 by_cases hlt:i < j
 ·refine zE ?_;refine zE ?_;refine zJ (fun K hK=>?_);simp (disch:=omega) only [push_cast,↓Int.cast_ofNat_Int,Nat.reduceBEq,Nat.reduceAdd,Nat.reduceLT,Nat.reduceEqDiff,reduceIte,reduceCtorEq,Nat.reduceLeDiff,Nat.reduceSub,List.reduceReplicate,Nat.reduceMul,Int.reduceToNat,Nat.reducePow];refine hK _ ?_;clear hK K
  refine zA ?_;refine yD rfl ?_;refine zC ?_;refine zA ?_;obtain ⟨m,hm⟩:∃ m,m=(i + j) / 2:=⟨_,rfl⟩
  have he:IntKind.i64.wrap ((IntKind.u64.wrap ((i:Int) + j)).fdiv (2 ^ min 1 IntKind.u64.bits))=(m:Int):=by
   have hw:IntKind.u64.wrap ((i:Int) + j)=(i:Int) + j:=by rw [IntKind.wrap_u64];omega
   rw [hw,show (2 ^ min 1 IntKind.u64.bits:Int)=2 from rfl,Int.fdiv_eq_ediv_of_nonneg _ (by omega)]
   rw [show ((i:Int) + j) / 2=(m:Int) by omega]
   exact qDo (by omega) (by omega)
  have hmt:m < t.length:=by omega
  refine zD ?_;refine zE ?_;refine zJ (fun K hK=>?_);simp (disch:=omega) only [push_cast,↓Int.cast_ofNat_Int,Nat.reduceBEq,Nat.reduceAdd,Nat.reduceLT,Nat.reduceEqDiff,reduceIte,reduceCtorEq,Nat.reduceLeDiff,Nat.reduceSub,List.reduceReplicate,Nat.reduceMul,Int.reduceToNat,Nat.reducePow]
  rw [he];refine ⟨by omega,hK _ ?_⟩
  clear hK K he;refine zE ?_;refine zJ (fun K hK=>?_);simp (disch:=omega) only [push_cast,↓Int.cast_ofNat_Int,Nat.reduceBEq,Nat.reduceAdd,Nat.reduceLT,Nat.reduceEqDiff,reduceIte,reduceCtorEq,Nat.reduceLeDiff,Nat.reduceSub,List.reduceReplicate,Nat.reduceMul,Int.reduceToNat,Nat.reducePow,yV,yU,yW hmt]
  refine bE zTs (qQv t[m] p) (.cons (qM4 _) (.cons (.v _) .nil)) ?_
  have hb:=qGq t[m].1 p
  cases hc:blt t[m].1 p with
 |true =>
   rw [hc,decide_eq_true_iff] at hb
   have:m < aQ t p:=by
    rcases Nat.lt_or_ge m (aQ t p) with h|h
    ·exact h
    ·rw [p2 m hmt h] at hc;cases hc
   with_reducible refine aB ?_;simp (disch:=omega) only [push_cast,↓Int.cast_ofNat_Int,Nat.reduceBEq,Nat.reduceAdd,Nat.reduceLT,Nat.reduceEqDiff,reduceIte,reduceCtorEq,Nat.reduceLeDiff,Nat.reduceSub,List.reduceReplicate,Nat.reduceMul,Int.reduceToNat,Nat.reducePow]
   refine hK _ ?_;clear hK K;refine zA ?_;refine yD rfl ?_
   skip
   refine zJ (fun K hK=>?_);simp (disch:=omega) only [push_cast,↓Int.cast_ofNat_Int,Nat.reduceBEq,Nat.reduceAdd,Nat.reduceLT,Nat.reduceEqDiff,reduceIte,reduceCtorEq,Nat.reduceLeDiff,Nat.reduceSub,List.reduceReplicate,Nat.reduceMul,Int.reduceToNat,Nat.reducePow];refine hK _ ?_;clear hK K
   refine zB ?_;refine zA ?_;exact ⟨(m + 1,j),rfl,⟨by dsimp only;omega,h2,h3⟩,by dsimp only;omega⟩
 |false =>
   rw [hc,decide_eq_false_iff_not] at hb
   have:aQ t p≤m:=by
    rcases Nat.lt_or_ge m (aQ t p) with h|h
    ·rw [p1 m hmt h] at hc;cases hc
    ·exact h
   with_reducible refine aB ?_;simp (disch:=omega) only [push_cast,↓Int.cast_ofNat_Int,Nat.reduceBEq,Nat.reduceAdd,Nat.reduceLT,Nat.reduceEqDiff,reduceIte,reduceCtorEq,Nat.reduceLeDiff,Nat.reduceSub,List.reduceReplicate,Nat.reduceMul,Int.reduceToNat,Nat.reducePow]
   refine hK _ ?_;clear hK K;refine zA ?_;refine yC rfl ?_
   skip
   refine zJ (fun K hK=>?_);simp (disch:=omega) only [push_cast,↓Int.cast_ofNat_Int,Nat.reduceBEq,Nat.reduceAdd,Nat.reduceLT,Nat.reduceEqDiff,reduceIte,reduceCtorEq,Nat.reduceLeDiff,Nat.reduceSub,List.reduceReplicate,Nat.reduceMul,Int.reduceToNat,Nat.reducePow];refine hK _ ?_;clear hK K
   refine zB ?_;refine zA ?_;exact ⟨(i,m),rfl,⟨h1,this,by dsimp only;omega⟩,by dsimp only;omega⟩
 ·have hij:i=aQ t p∧j=aQ t p:=by omega
  obtain ⟨rfl,rfl⟩:=hij;refine zE ?_;refine zE ?_;refine zJ (fun K hK=>?_);simp (disch:=omega) only [push_cast,↓Int.cast_ofNat_Int,Nat.reduceBEq,Nat.reduceAdd,Nat.reduceLT,Nat.reduceEqDiff,reduceIte,reduceCtorEq,Nat.reduceLeDiff,Nat.reduceSub,List.reduceReplicate,Nat.reduceMul,Int.reduceToNat,Nat.reducePow];refine hK _ ?_;clear hK K
  refine zA ?_;refine yC rfl ?_;refine zT ?_;refine zG ?_;refine zG ?_;refine zH ?_;refine zE ?_
  have th:=gN hr p
  by_cases hp:aQ t p < t.length
  ·have hb:=zQm t[aQ t p].1 p
   by_cases hc:t[aQ t p].1=p
   ·rw [decide_eq_true hc,decide_eq_true_iff] at hb;rw [decide_eq_true ⟨hp,hc⟩] at th;rw [th];refine zJ (fun K hK=>?_);simp (disch:=omega) only [push_cast,↓Int.cast_ofNat_Int,Nat.reduceBEq,Nat.reduceAdd,Nat.reduceLT,Nat.reduceEqDiff,reduceIte,reduceCtorEq,Nat.reduceLeDiff,Nat.reduceSub,List.reduceReplicate,Nat.reduceMul,Int.reduceToNat,Nat.reducePow,yV,yU,yW hp]
    refine bE zTs (qQv t[aQ t p] p) (.cons (qM4 _) (.cons (.v _) .nil)) ?_;with_reducible refine aB ?_;simp (disch:=omega) only [push_cast,↓Int.cast_ofNat_Int,Nat.reduceBEq,Nat.reduceAdd,Nat.reduceLT,Nat.reduceEqDiff,reduceIte,reduceCtorEq,Nat.reduceLeDiff,Nat.reduceSub,List.reduceReplicate,Nat.reduceMul,Int.reduceToNat,Nat.reducePow]
    refine hK _ ?_;clear hK K;refine zA ?_;refine zW ?_;simp only [yA,yM,yH,yE,aA,aC,yK,yJ,zS,zM,Nat.reduceEqDiff,reduceIte,reduceCtorEq];exact qFt rfl
   ·rw [decide_eq_false hc,decide_eq_false_iff_not] at hb;rw [decide_eq_false (fun ⟨_,h⟩=>hc h)] at th
    rw [th];refine zJ (fun K hK=>?_);simp (disch:=omega) only [push_cast,↓Int.cast_ofNat_Int,Nat.reduceBEq,Nat.reduceAdd,Nat.reduceLT,Nat.reduceEqDiff,reduceIte,reduceCtorEq,Nat.reduceLeDiff,Nat.reduceSub,List.reduceReplicate,Nat.reduceMul,Int.reduceToNat,Nat.reducePow,yV,yU,yW hp]
    refine bE zTs (qQv t[aQ t p] p) (.cons (qM4 _) (.cons (.v _) .nil)) ?_;with_reducible refine aB ?_;simp (disch:=omega) only [push_cast,↓Int.cast_ofNat_Int,Nat.reduceBEq,Nat.reduceAdd,Nat.reduceLT,Nat.reduceEqDiff,reduceIte,reduceCtorEq,Nat.reduceLeDiff,Nat.reduceSub,List.reduceReplicate,Nat.reduceMul,Int.reduceToNat,Nat.reducePow]
    refine hK _ ?_;clear hK K;refine zA ?_;refine zW ?_;simp only [yA,yM,yH,yE,aA,aC,yK,yJ,zS,zM,Nat.reduceEqDiff,reduceIte,reduceCtorEq];exact qFt rfl
  ·rw [decide_eq_false (fun ⟨h,_⟩=>hp h)] at th
   rw [th];refine zJ (fun K hK=>?_);simp (disch:=omega) only [push_cast,↓Int.cast_ofNat_Int,Nat.reduceBEq,Nat.reduceAdd,Nat.reduceLT,Nat.reduceEqDiff,reduceIte,reduceCtorEq,Nat.reduceLeDiff,Nat.reduceSub,List.reduceReplicate,Nat.reduceMul,Int.reduceToNat,Nat.reducePow];refine hK _ ?_;clear hK K
   refine zA ?_;refine zW ?_;simp only [yA,yM,yH,yE,aA,aC,yK,yJ,zS,zM,Nat.reduceEqDiff,reduceIte,reduceCtorEq];exact qFt rfl
set_option maxHeartbeats 1000000 in
theorem zM3 (t:List Ent) (p:ByteArray) (hr:rise t) (hl:t.length≤140737488355328):HFun Tryz.prog 65 [.lst false (aG t),.v (.string p)] (fun h st=>h=.tup [.v (.int .i64 (aQ t p)),.v (.bool (aU t p))]):=by
 refine eX (N:=11) Tryz.func65 rfl Tryz.ntmps65 Tryz.results65 (by simp) ?_
 refine zE ?_;refine zJ (fun K hK=>?_);simp (disch:=omega) only [push_cast,↓Int.cast_ofNat_Int,Nat.reduceBEq,Nat.reduceAdd,Nat.reduceLT,Nat.reduceEqDiff,reduceIte,reduceCtorEq,Nat.reduceLeDiff,Nat.reduceSub,List.reduceReplicate,Nat.reduceMul,Int.reduceToNat,Nat.reducePow];refine hK _ ?_;clear hK K
 refine zE ?_;refine zJ (fun K hK=>?_);simp (disch:=omega) only [push_cast,↓Int.cast_ofNat_Int,Nat.reduceBEq,Nat.reduceAdd,Nat.reduceLT,Nat.reduceEqDiff,reduceIte,reduceCtorEq,Nat.reduceLeDiff,Nat.reduceSub,List.reduceReplicate,Nat.reduceMul,Int.reduceToNat,Nat.reducePow]
 refine zL6 (xs:=[.int .i64 (aQ t p),.bool (aU t p)]) zW5 (zJk t p hr hl) (.cons (aL (yT _)) (.cons (.v _) (.cons (.v _) .nil))) ?_;with_reducible refine aB ?_;simp (disch:=omega) only [push_cast,↓Int.cast_ofNat_Int,Nat.reduceBEq,Nat.reduceAdd,Nat.reduceLT,Nat.reduceEqDiff,reduceIte,reduceCtorEq,Nat.reduceLeDiff,Nat.reduceSub,List.reduceReplicate,Nat.reduceMul,Int.reduceToNat,Nat.reducePow]
 refine hK _ ?_;clear hK K;refine zA ?_;refine zW ?_;simp only [yA,yM,yH,yE,aA,aC,yK,yJ,zS,zM,Nat.reduceEqDiff,reduceIte,reduceCtorEq];exact qFt rfl
set_option maxHeartbeats 1000000 in
theorem qDm (t:List Ent) (p:ByteArray) (hr:rise t) (hl:t.length≤140737488355328):HFun Tryz.prog 43 [.lst false (aG t),.v (.string p)] (fun h st=>h=nF (aN t p)∧st=[]):=by
 refine eX (N:=20) Tryz.func43 rfl Tryz.ntmps43 Tryz.results43 (by simp) ?_
 rw [zCh hr p];refine zE ?_;refine zJ (fun K hK=>?_);simp (disch:=omega) only [push_cast,↓Int.cast_ofNat_Int,Nat.reduceBEq,Nat.reduceAdd,Nat.reduceLT,Nat.reduceEqDiff,reduceIte,reduceCtorEq,Nat.reduceLeDiff,Nat.reduceSub,List.reduceReplicate,Nat.reduceMul,Int.reduceToNat,Nat.reducePow];refine hK _ ?_;clear hK K
 refine zE ?_;refine zE ?_;refine zJ (fun K hK=>?_);simp (disch:=omega) only [push_cast,↓Int.cast_ofNat_Int,Nat.reduceBEq,Nat.reduceAdd,Nat.reduceLT,Nat.reduceEqDiff,reduceIte,reduceCtorEq,Nat.reduceLeDiff,Nat.reduceSub,List.reduceReplicate,Nat.reduceMul,Int.reduceToNat,Nat.reducePow]
 refine zL6 (xs:=[.int .i64 (aQ t p),.bool (aU t p)]) zVz (zM3 t p hr hl) (.cons (aL (yT _)) (.cons (.v _) .nil)) ?_;with_reducible refine aB ?_;simp (disch:=omega) only [push_cast,↓Int.cast_ofNat_Int,Nat.reduceBEq,Nat.reduceAdd,Nat.reduceLT,Nat.reduceEqDiff,reduceIte,reduceCtorEq,Nat.reduceLeDiff,Nat.reduceSub,List.reduceReplicate,Nat.reduceMul,Int.reduceToNat,Nat.reducePow]
 refine hK _ ?_;clear hK K;refine zE ?_;refine zJ (fun K hK=>?_);simp (disch:=omega) only [push_cast,↓Int.cast_ofNat_Int,Nat.reduceBEq,Nat.reduceAdd,Nat.reduceLT,Nat.reduceEqDiff,reduceIte,reduceCtorEq,Nat.reduceLeDiff,Nat.reduceSub,List.reduceReplicate,Nat.reduceMul,Int.reduceToNat,Nat.reducePow];refine hK _ ?_;clear hK K
 have tp:=gN hr p
 by_cases h:aQ t p < t.length∧aU t p=true
 ·rw [dif_pos h]
  have hlt:=h.1
  have ht:=h.2
  refine qC5 rfl (fun _=>?_) (fun e=>by rw [ht] at e;cases e)
  refine zE ?_;refine zJ (fun K hK=>?_);simp (disch:=omega) only [push_cast,↓Int.cast_ofNat_Int,Nat.reduceBEq,Nat.reduceAdd,Nat.reduceLT,Nat.reduceEqDiff,reduceIte,reduceCtorEq,Nat.reduceLeDiff,Nat.reduceSub,List.reduceReplicate,Nat.reduceMul,Int.reduceToNat,Nat.reducePow,yV,yU,yW hlt];refine hK _ ?_;clear hK K
  refine zA ?_;refine zW ?_;refine zK ?_;simp (disch:=omega) only [yA,yM,yH,yE,aA,aC,yK,yJ,push_cast,↓Int.cast_ofNat_Int,Nat.reduceBEq,Nat.reduceAdd,Nat.reduceLT,Nat.reduceEqDiff,reduceIte,reduceCtorEq,Nat.reduceLeDiff,Nat.reduceSub,List.reduceReplicate,Nat.reduceMul,Int.reduceToNat,Int.toNat_natCast,Nat.reducePow,reduceIte];exact qCq (n:=t[aQ t p].2) ⟨rfl,rfl⟩
 ·rw [dif_neg h]
  have ht:aU t p=false:=by
   cases e:aU t p with
  |false=>rfl
  |true =>
    have tp:=gN hr p
    rw [e] at tp;exact (h ⟨(decide_eq_true_iff.1 tp.symm).1,e⟩).elim
  refine qC5 rfl (fun e=>by rw [ht] at e;cases e) (fun _=>?_)
  refine zC ?_;refine zE ?_;refine zJ (fun K hK=>?_);simp (disch:=omega) only [push_cast,↓Int.cast_ofNat_Int,Nat.reduceBEq,Nat.reduceAdd,Nat.reduceLT,Nat.reduceEqDiff,reduceIte,reduceCtorEq,Nat.reduceLeDiff,Nat.reduceSub,List.reduceReplicate,Nat.reduceMul,Int.reduceToNat,Nat.reducePow];refine hK _ ?_;clear hK K
  refine zA ?_;refine zW ?_;simp (disch:=omega) only [yA,yM,yH,yE,aA,aC,yK,yJ,push_cast,↓Int.cast_ofNat_Int,Nat.reduceBEq,Nat.reduceAdd,Nat.reduceLT,Nat.reduceEqDiff,reduceIte,reduceCtorEq,Nat.reduceLeDiff,Nat.reduceSub,List.reduceReplicate,Nat.reduceMul,Int.reduceToNat,Int.toNat_natCast,Nat.reducePow,reduceIte];exact qCq (n:=mF) ⟨rfl,rfl⟩
end Go.Proofs.YtbdomkfdkfdfgaaGreatDoor
end
