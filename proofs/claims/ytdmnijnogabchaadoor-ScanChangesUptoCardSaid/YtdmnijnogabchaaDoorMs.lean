/-
  Maps beside the engine's state: regions that draw their order; functions that are handed maps, their bodies, their calls.
-/
import Derived.Test.YtdmnijnogabchaaDoorMr
set_option linter.unusedSimpArgs false
set_option linter.unusedVariables false
namespace Go.Eng
open Go Go.RowKit Go.Maps
section
variable {P:Program} {N:Nat} {S:HS} {g:MS} {Q:iD}
theorem qVh {Qp:tP} {l:Env} {w:World} {id:Nat} {ops:List Oper} (keys:List Nat) (n:Nat) (hm:P.follows .mixedOrders=true) (aV:kV l=keys) (hok:oG keys ops n=true) (hlt:DLt N ops n)
  {C:World→Prop} {R:Nat→Value→World→Prop} (hC:C w.drew) {Le:Nat→World→World→Prop} (hLe:∀ i w,Le i w w) (hS:∀ j i u w w',j < n→i < n→j≠i→C w→R j u w→Le i w w'→R j u w')
  (H:∀ i o,i < n→ops[i]?=some o→∀ (vs:Nat→Value) (w:World),C w→(∀ j t,j < i→aG ops j=some t→t ∈ o.looksAt ops.toArray→R j (vs j) w) →
   ∃ b,gd (cH l ops vs i) (bQ ops) o.guard (·=b)∧(b=true→Yields P (execOp (evD (cH l ops vs i)) o) w fun u w'=>R i u w'∧C w'∧Le i w w')∧(b=false→R i undef w))
  (hT:∀ (F:Fr N) (vs:Nat→Value) (w:World),bF N (cH l ops vs n)=true→C w→(∀ j,j < n→R j (vs j) w)→wpListIn (FW F.ds.2) 0 P ops.toArray (qSw N F.ds Qp) (ops.drop n) (mk F (cH l ops vs n)) w):W P N (.region id ops.toArray true) Qp l w:=fun hk F=>by
 have ok:=gX hok
 refine wpIn_region_any hm ?_
 have:=qPl ok F hk (fun t ht=>lN (by rw [aV];exact ht)) hlt hLe hS H (Q:=qSw N F.ds Qp)
  (fun vs w' hw' hR=>hT F vs w' (oZ hlt hk n (Nat.le_refl _)) hw' hR)
  ops.length (Array.replicate ops.length false) (mk F l) w.drew (fun _=>undef) (gJ _)
  ⟨by simp,(fun i j hi=>by rw [getD_replicate_false] at hi;cases hi),(fun i hi=>by rw [getD_replicate_false] at hi;cases hi),rfl,by simp [mk,fU,F.hN],(fun j t _ hl=>by rw [getD_replicate_false] at hl;cases hl),fun t _=>rfl,hC⟩
  (fun j _ hl=>by rw [getD_replicate_false] at hl;cases hl)
 simpa using this
theorem qRm {id:Nat} {ops:List Oper} (n:Nat) (hm:P.follows .mixedOrders=true) (hok:oG (aV S.env) ops n=true)
  (h:∀ K1:HS→Prop,(∀ S',HVM P N ops Q (ops.drop n) g S'→K1 S')→HVr P N (bQ ops) K1 (ops.take n) S):HWM P N (.region id ops.toArray true) Q g S:=fun c l w I M=>by
 have hks:∀ k ∈ aV S.env,∃ v,lk l k=some v:=fun k hk=>by
  obtain ⟨x,hx⟩:=eM hk;obtain ⟨ρ,xs,G⟩:=I;obtain ⟨v,h1,-⟩:=G.env k x hx;exact ⟨v,h1⟩
 refine sM (aV S.env) ?_
 have I':Inv c S (lk (keep (aV S.env) l)) w:=I.agree fun k x hk=>iG (dU hk)
 have hkk:kV (keep (aV S.env) l)=aV S.env:=hU hks
 generalize keep (aV S.env) l=l' at I' hkk;obtain ⟨ρ,xs,G⟩:=I'
 have ok:=gX hok
 have hlen:(ops.take n).length=n:=by rw [List.length_take];have:=ok.hn;omega
 have get_take:∀ {i:Nat} {o:Oper},(ops.take n)[i]?=some o→i < n∧ops[i]?=some o:=fun {i o} h=>by
  have hi:=(List.getElem?_eq_some_iff.1 h).1
  rw [hlen] at hi;rw [List.getElem?_take_of_lt hi] at h;exact ⟨hi,h⟩
 obtain ⟨hs,-,heads,S1,e1,F1,h1⟩:=pN (E0:=S.env) (st:=S.st) (ops.take n) 0 S (fun _=>.junk) (fun k o hk=>by rw [Nat.zero_add];exact (get_take hk).2) rfl (fun t x hx=>.inr ⟨fun j hj=>absurd hj (Nat.not_lt_zero _),hx⟩) (h _ fun _ h=>h)
 rw [hlen,Nat.zero_add] at F1
 have head:∀ i o,i < n→ops[i]?=some o→HeadOk P N ops S.env S.st hs i o:=fun i o hi ho=>by
  have:=heads i o (by rw [List.getElem?_take_of_lt hi];exact ho)
  rw [Nat.zero_add] at this;exact this
 have uniq:∀ i j t,i < n→j < n→aG ops i=some t→aG ops j=some t→i=j:=by
  intro i j t hi hj h1 h2
  rcases Nat.lt_trichotomy i j with h|h|h
  ·rcases ok.uniq j i hj h with e|e
   ·rw [h2] at e;cases e
   ·exact absurd (h2.trans h1.symm) e
  ·exact h
  ·rcases ok.uniq i j hi h with e|e
   ·rw [h1] at e;cases e
   ·exact absurd (h1.trans h2.symm) e
 have hlt:DLt N ops n:=fun i t hi hd=>by
  obtain ⟨o,ho,hod⟩:=jL hd
  have:=(head i o hi ho).lt
  rw [hod] at this;exact this
 have frame:∀ (vs:Nat→Value) (w':World) (i:Nat) (E:aR),i≤n→Below w.heap.size w w'→FrOk ops S.env hs i E →
   (∀ j t x,j < i→aG ops j=some t→hlk E t=some x→RepH w' (c.A ρ S.st) c.n0 ρ (vs j) (hs j))→Good c ⟨E,S.st⟩ (lk (cH l' ops vs i)) w' ρ xs:=fun vs w' i E hi hB F hv=>by
  have GB:=G.below hB
  refine ⟨GB.rows,GB.apart,fun k x hk=>?_,GB.kept,GB.a0⟩
  rcases F k x hk with ⟨j,a,b,d⟩|⟨a,b⟩
  ·refine ⟨vs j,(eP (l:=l') (vs:=vs) hlt (base:=Array.replicate N undef) (by simp) b (fun q hq hne e=>hne (uniq q j k hq (by omega) e b)) i hi a).1,?_⟩
   rw [← d];exact hv j k x a b hk
  ·obtain ⟨v,v1,v2⟩:=GB.env k x b;exact ⟨v,by rw [(eN (l:=l') (vs:=vs) #[] k i a).1];exact v1,v2⟩
 refine qVh (aV S.env) n hm hkk hok hlt (C:=fun w'=>Below w.heap.size w w') (R:=fun j u w'=>RepH w' (c.A ρ S.st) c.n0 ρ u (hs j)) (Below.refl _ _).drew (Le:=fun _ w w'=>Below w.heap.size w w') (fun _ w=>Below.refl _ _) (fun j _ u w1 w2 _ _ _ _ hr hB=>hr.above hB) ?_ ?_
 ·intro i o hi ho vs w1 hC hR;obtain ⟨T,TF,TS,run⟩:=(head i o hi ho).head
  have GT:Good c ⟨T,S.st⟩ (lk (cH l' ops vs i)) w1 ρ xs:=frame vs w1 i T (by omega) hC TF fun j t x hj hd hx=>hR j t hj hd (iC (TS t x hx))
  obtain ⟨b,b1,b2,b3⟩:=run c _ w1 ρ xs GT;refine ⟨b,b1,fun hb=>?_,fun hb=>?_⟩
  ·exact (eU (fun x X hx=>by simp [evD,hx]) (b2 hb)).mono fun u w2 ⟨hu,hB⟩=>⟨hu,hC.trans (hB.mono hC.size),hB⟩
  ·rw [b3 hb];exact .v _
 ·intro F vs w1 hk1 hC hR;obtain ⟨E1,st1⟩:=S1
  have e1:st1=S.st:=e1
  subst e1
  have G1:=frame vs w1 n E1 (Nat.le_refl _) hC F1 fun j t x hj _ _=>hR j hj
  exact h1 c F _ w1 hk1 ⟨ρ,xs,G1⟩ (M.block fun b hb _=>hC.block b hb.lt)
def bsL (g:MS):List Nat:=g.flatMap MO.bs
def HFunM (P:Program) (f:FuncId) (args:List HV) (st:aC) (g:MS) (Q:HV→aC→MS→Prop):Prop :=
 ∀ (c:Ctx) (w:World) (ρ:Nat→Value) (xs:Nat→List Value) (vs:List Value),c.w0=w→Good c ⟨[],st⟩ (fun _=>none) w ρ xs→MsOk P c w g→jR w (c.A ρ st) c.n0 ρ vs args →
  Calls P f vs.toArray w (Ret fun v w'=>∃ h st' g' ρ' xs',(∀ i r,rlk st' i=some r→i < 8)∧(∀ j,jG (rlk st j)→jG (rlk st' j))∧(∃ m,bsL g'=bsL g ++ m)∧Q h st' g'∧Good c ⟨[],st'⟩ (fun _=>none) w' ρ' xs'∧MsOk P c w' g'∧RepH w' (c.A ρ' st') c.n0 ρ' v h)
theorem HFunM.mono {f:FuncId} {args:List HV} {st:aC} {R R':HV→aC→MS→Prop} (h:HFunM P f args st g R) (hq:∀ h st g,R h st g→R' h st g):HFunM P f args st g R' :=
 fun c w ρ xs vs hw G M hr=>Ret.mono (h c w ρ xs vs hw G M hr) fun v w' ⟨x,st',g',ρ',xs',a,b,d,q,r⟩=>⟨x,st',g',ρ',xs',a,b,d,hq _ _ _ q,r⟩
def qP2 (st0:aC) (g0 g:MS) (S:HS) (h:HV) (R:HV→aC→MS→Prop):Prop:=(∃ m,bsL g=bsL g0 ++ m)∧qDz st0 S h fun h st=>R h st g
def qW3 (P:Program) (rs:List ResultVar) (st0:aC) (g0:MS) (R:HV→aC→MS→Prop):iD
|.normal,g,S=>kN P S rs fun hs=>qP2 st0 g0 g S (qB hs) R
|.ret,g,S=>kN P S rs fun hs=>qP2 st0 g0 g S (qB hs) R
|_,_,_=>False
theorem nH {f:FuncId} {fn:Func} {x:Code} {args:List HV} {st:aC} {rs:Array ResultVar} {R:HV→aC→MS→Prop} (hf:P.funcs[f]?=some fn) (hb:fn.body=some x) (hN:fn.ntmps=N) (hrs:fn.results=rs) (hle:args.length≤N)
  (h:HWM P N x (qW3 P rs.toList st g R) g ⟨pH 0 args,st⟩):HFunM P f args st g R:=fun c w ρ xs vs _ G M RR=>by
 refine qD6 hf hb hN hrs (by rw [RR.1];exact hle) ?_
 have I:Inv c ⟨pH 0 args,st⟩ (lk (kY 0 vs)) w:=by
  refine ⟨ρ,xs,G.rows,G.apart,fun k h hk=>?_,G.kept,G.a0⟩
  obtain ⟨-,h2⟩:=tH args 0 k h hk;rw [Nat.sub_zero] at h2;obtain ⟨hlt,rfl⟩:=List.getElem?_eq_some_iff.1 h2
  have hlt':k < vs.length:=by rw [RR.1];exact hlt
  exact ⟨vs[k],qAo vs 0 k _ (Nat.zero_le _) (by simp [hlt']),RR.2 k hlt' hlt⟩
 refine (h _ _ _ I M).mono fun e l' w' ⟨S',g',I',M',q⟩=>?_
 obtain ⟨ρ,xs,G⟩:=I'
 have fin:kN P S' rs.toList (fun hs=>qP2 st g g' S' (qB hs) R)→iX P l' w' rs.toList fun vs=>∃ h st' g' ρ' xs',(∀ i r,rlk st' i=some r→i < 8)∧(∀ j,jG (rlk st j)→jG (rlk st' j))∧(∃ m,bsL g'=bsL g ++ m)∧R h st' g'∧Good c ⟨[],st'⟩ (fun _=>none) w' ρ' xs'∧MsOk P c w' g'∧RepH w' (c.A ρ' st') c.n0 ρ' (tup vs) h:=fun hr =>
  resH_resE.resE_mono (resH_resE G _ _ hr) fun vs ⟨hs,⟨hm,hR⟩,hv⟩=>by
   obtain ⟨h,st',ρ',xs',a,b,q,r1,r2⟩:=qLv G (qGr hv) hR;exact ⟨h,st',g',ρ',xs',a,b,hm,q,r1,M',r2⟩
 cases e with
|normal=>exact fin q
|ret=>exact fin q
|_=>exact q.elim
theorem zJv {x:Code} {Qh:dS} (h:HWM P N x (fun e _ S=>Qh e S) [] S):HW P N x Qh S:=fun c l w I =>
 (h c l w I ⟨fun i m hi=>by simp at hi,fun i j m m' b _ hi=>by simp at hi,fun i m b hi=>by simp at hi⟩).mono fun e l' w' ⟨S',g',I',_,q⟩=>⟨S',I',q⟩
theorem dF {all more:List Oper} {o:Oper} {f:FuncId} {args args':List HV} {st:aC} {R:HV→aC→MS→Prop} {x:Operand} {ay:Array Operand} {ats:Array TypeId} (n:Nat) (ids:List Nat) (hc:aL P f=true) (H:HFunM P f args' st g R)
  (hop:o.op=.call ⟨.value x,ay,ats⟩) (hg:gOK S.env (bQ all) o.guard=true) (hd:cQ N o.dst=true) (hfn:fnH (hev S.env x)=some f) (has:fP S.env ay.toList=some args)
  (hdup:dup ids=false) (hlen:ids.length≤8) (hids:∀ i ∈ ids,cE n i=false) (hst:eQ (pos ids) S.st 0 ids=st) (hargs:args.map (HV.ren (pos ids))=args')
  (h:∀ h st' g',R h st' g'→HVM P N all Q more g' ((S.swap ids n st').set o.dst (h.ren (sh2 ids n)))):HVM P N all Q (o :: more) g S:=fun c F l w hk I M=>by
 have hd:=dN hd
 have I0:=I
 obtain ⟨ρ,xs,G⟩:=I
 have hk':∀ v,bF N (stp o.dst v l)=true:=fun v=>dM hk (fun k e=>by rw [e] at hd;exact hd)
 unfold wpListIn;rw [jK I0 F hk hg,if_pos rfl];obtain ⟨vs,e1,e2,e3⟩:=G.evs (aS _ _) has;subst hst;subst hargs;obtain ⟨c1,ρ1,xs1,hw1,hT,hnT,hfT,G1,R1,back⟩:=qBw n ids hdup hlen hids (fun b=>b ∈ bsL g) G (fun b hb=>by
  obtain ⟨m,hm,hb⟩:=List.mem_flatMap.1 hb;obtain ⟨i,hi⟩:=List.mem_iff_getElem?.1 hm;exact ⟨M.dull hi hb,M.foot i m b hi hb⟩) (R:=(⟨e2,e3⟩:jR w (c.A ρ S.st) c.n0 ρ vs args))
 have M1:MsOk P c1 w g:=⟨M.ok,M.nd,fun i m b hi hb=>.inr (hT b (List.mem_flatMap.2 ⟨m,List.mem_iff_getElem?.2 ⟨i,hi⟩,hb⟩))⟩
 have hcall:=H c1 w ρ1 xs1 vs hw1 G1 M1 R1
 have hv:aX P l o.op o.type w (fun u w2=>∃ h st' g',R h st' g'∧InvV c (S.swap ids n st') (h.ren (sh2 ids n)) u (lk l) w2∧MsOk P c w2 g') (fun u w2=>∃ h st' g',R h st' g'∧InvV c (S.swap ids n st') (h.ren (sh2 ids n)) u (lk l) w2∧MsOk P c w2 g'):=by
  rw [hop];unfold aX;simp only [aK,bG,e1,G.fn (aS _ _) hfn];refine ⟨hc,Ret.mono hcall fun u w2 ⟨h,st2,g2,ρ2,xs2,h8,hbx,⟨m,hm⟩,q,G2,M2,hr⟩=>⟨h,st2,g2,q,back u w2 h st2 ρ2 xs2 h8 hbx (fun b hb=>?_) G2 hr,M2.ok,M2.nd,fun i m b hi hb=>?_⟩⟩
  ·have:b ∈ bsL g2:=by rw [hm];exact List.mem_append_left _ hb
   obtain ⟨m',hm',hb'⟩:=List.mem_flatMap.1 this;obtain ⟨i,hi⟩:=List.mem_iff_getElem?.1 hm';exact M2.dull hi hb'
  ·rcases M2.foot i m b hi hb with h|h
   ·rw [hw1] at h
    have:=G.kept.size
    exact .inl (by omega)
   ·exact hfT b h
 refine (bY ((eU (fun x X hx=>iM F hk hx) hv).mono fun u w2 ⟨h',st',g',q,I2,M2⟩=>?_))
 rw [iY];exact h h' st' g' q c F _ _ (hk' _) (I2.set o.dst) M2
end
end Go.Eng
