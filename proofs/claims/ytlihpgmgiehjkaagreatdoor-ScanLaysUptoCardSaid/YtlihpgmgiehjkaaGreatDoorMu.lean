/-
  Regions that draw their order, look-ups among their heads.
-/
import Derived.Test.YtlihpgmgiehjkaaGreatDoorMr
set_option linter.unusedSimpArgs false
set_option linter.unusedVariables false
section
namespace Go.Eng
open Go Go.RowKit Go.Maps
section
variable {P:Program} {N:Nat} {S:HS} {g:MS} {Q:iK}
theorem qX3 {Qp:qAl} {l:Env} {w:World} {id:Nat} {ops:List Oper} (keys:List Nat) (n:Nat) (hm:P.follows .mixedOrders=true) (bF:oF l=keys) (hok:uV keys ops n=true) (hlt:DLt N ops n)
  {C:World→Prop} {R:Nat→Value→World→Prop} (hC:C w.drew) {Le:Nat→World→World→Prop} (hLe:∀ i w,Le i w w) (hS:∀ j i u w w',j < n→i < n→j≠i→C w→R j u w→Le i w w'→R j u w')
  (H:∀ i o,i < n→ops[i]?=some o→∀ (vs:Nat→Value) (w:World),C w→(∀ j t,j < i→aM ops j=some t→t ∈ o.looksAt ops.toArray→R j (vs j) w) →
   ∃ b,gd (cZ l ops vs i) (cD ops) o.guard (·=b)∧(b=true→Yields P (execOp (evD (cZ l ops vs i)) o) w fun u w'=>R i u w'∧C w'∧Le i w w')∧(b=false→R i undef w))
  (hT:∀ (F:Fr N) (vs:Nat→Value) (w:World),bH N (cZ l ops vs n)=true→C w→(∀ j,j < n→R j (vs j) w)→wpListIn (FW F.ds.2) 0 P ops.toArray (qVd N F.ds Qp) (ops.drop n) (mk F (cZ l ops vs n)) w):W P N (.region id ops.toArray true) Qp l w:=fun hk F=>by
 have ok:=iQ hok
 refine wpIn_region_any hm ?_
 have:=qR4 ok F hk (fun t ht=>nC (by rw [bF];exact ht)) hlt hLe hS H (Q:=qVd N F.ds Qp)
  (fun vs w' hw' hR=>hT F vs w' (tN hlt hk n (Nat.le_refl _)) hw' hR)
  ops.length (Array.replicate ops.length false) (mk F l) w.drew (fun _=>undef) (hZ _)
  ⟨by simp,(fun i j hi=>by rw [getD_replicate_false] at hi;cases hi),(fun i hi=>by rw [getD_replicate_false] at hi;cases hi),rfl,by simp [mk,gU,F.hN],(fun j t _ hl=>by rw [getD_replicate_false] at hl;cases hl),fun t _=>rfl,hC⟩
  (fun j _ hl=>by rw [getD_replicate_false] at hl;cases hl)
 simpa using this
theorem qHe {id:Nat} {ops:List Oper} (n:Nat) (hm:P.follows .mixedOrders=true) (hok:uV (bF S.env) ops n=true)
  (h:∀ K1:HS→Prop,(∀ S',HVM P N ops Q (ops.drop n) g S'→K1 S')→HVr P N (cD ops) K1 (ops.take n) S):HWM P N (.region id ops.toArray true) Q g S:=fun c l w I M=>by
 have hks:∀ k ∈ bF S.env,∃ v,lk l k=some v:=fun k hk=>by
  obtain ⟨x,hx⟩:=gE hk;obtain ⟨ρ,xs,G⟩:=I;obtain ⟨v,h1,-⟩:=G.env k x hx;exact ⟨v,h1⟩
 refine qBn (bF S.env) ?_
 have I':Inv c S (lk (keep (bF S.env) l)) w:=I.agree fun k x hk=>lJ (eZ hk)
 have hkk:oF (keep (bF S.env) l)=bF S.env:=kZ hks
 generalize keep (bF S.env) l=l' at I' hkk;obtain ⟨ρ,xs,G⟩:=I'
 have ok:=iQ hok
 have hlen:(ops.take n).length=n:=by rw [List.length_take];have:=ok.hn;omega
 have get_take:∀ {i:Nat} {o:Oper},(ops.take n)[i]?=some o→i < n∧ops[i]?=some o:=fun {i o} h=>by
  have hi:=(List.getElem?_eq_some_iff.1 h).1
  rw [hlen] at hi;rw [List.getElem?_take_of_lt hi] at h;exact ⟨hi,h⟩
 obtain ⟨hs,-,heads,S1,e1,F1,h1⟩:=uB (E0:=S.env) (st:=S.st) (ops.take n) 0 S (fun _=>.junk) (fun k o hk=>by rw [Nat.zero_add];exact (get_take hk).2) rfl (fun t x hx=>.inr ⟨fun j hj=>absurd hj (Nat.not_lt_zero _),hx⟩) (h _ fun _ h=>h)
 rw [hlen,Nat.zero_add] at F1
 have head:∀ i o,i < n→ops[i]?=some o→HeadOk P N ops S.env S.st hs i o:=fun i o hi ho=>by
  have:=heads i o (by rw [List.getElem?_take_of_lt hi];exact ho)
  rw [Nat.zero_add] at this;exact this
 have uniq:∀ i j t,i < n→j < n→aM ops i=some t→aM ops j=some t→i=j:=by
  intro i j t hi hj h1 h2
  rcases Nat.lt_trichotomy i j with h|h|h
  ·rcases ok.uniq j i hj h with e|e
   ·rw [h2] at e;cases e
   ·exact absurd (h2.trans h1.symm) e
  ·exact h
  ·rcases ok.uniq i j hi h with e|e
   ·rw [h1] at e;cases e
   ·exact absurd (h1.trans h2.symm) e
 have hlt:DLt N ops n:=fun i t hi hd=>by
  obtain ⟨o,ho,hod⟩:=pQ hd
  have:=(head i o hi ho).lt
  rw [hod] at this;exact this
 have frame:∀ (vs:Nat→Value) (w':World) (i:Nat) (E:bL),i≤n→Below w.heap.size w w'→FrOk ops S.env hs i E →
   (∀ j t x,j < i→aM ops j=some t→hlk E t=some x→RepH w' (c.A ρ S.st) c.n0 ρ (vs j) (hs j))→Good c ⟨E,S.st⟩ (lk (cZ l' ops vs i)) w' ρ xs:=fun vs w' i E hi hB F hv=>by
  have GB:=G.below hB
  refine ⟨GB.rows,GB.apart,fun k x hk=>?_,GB.kept,GB.a0⟩
  rcases F k x hk with ⟨j,a,b,d⟩|⟨a,b⟩
  ·refine ⟨vs j,(fY (l:=l') (vs:=vs) hlt (base:=Array.replicate N undef) (by simp) b (fun q hq hne e=>hne (uniq q j k hq (by omega) e b)) i hi a).1,?_⟩
   rw [← d];exact hv j k x a b hk
  ·obtain ⟨v,v1,v2⟩:=GB.env k x b;exact ⟨v,by rw [(fX (l:=l') (vs:=vs) #[] k i a).1];exact v1,v2⟩
 refine qX3 (bF S.env) n hm hkk hok hlt (C:=fun w'=>Below w.heap.size w w') (R:=fun j u w'=>RepH w' (c.A ρ S.st) c.n0 ρ u (hs j)) (Below.refl _ _).drew (Le:=fun _ w w'=>Below w.heap.size w w') (fun _ w=>Below.refl _ _) (fun j _ u w1 w2 _ _ _ _ hr hB=>hr.above hB) ?_ ?_
 ·intro i o hi ho vs w1 hC hR;obtain ⟨T,TF,TS,run⟩:=(head i o hi ho).head
  have GT:Good c ⟨T,S.st⟩ (lk (cZ l' ops vs i)) w1 ρ xs:=frame vs w1 i T (by omega) hC TF fun j t x hj hd hx=>hR j t hj hd (qH (TS t x hx))
  obtain ⟨b,b1,b2,b3⟩:=run c _ w1 ρ xs GT;refine ⟨b,b1,fun hb=>?_,fun hb=>?_⟩
  ·exact (gH (fun x X hx=>by simp [evD,hx]) (b2 hb)).mono fun u w2 ⟨hu,hB⟩=>⟨hu,hC.trans (hB.mono hC.size),hB⟩
  ·rw [b3 hb];exact .v _
 ·intro F vs w1 hk1 hC hR;obtain ⟨E1,st1⟩:=S1
  have e1:st1=S.st:=e1
  subst e1
  have G1:=frame vs w1 n E1 (Nat.le_refl _) hC F1 fun j t x hj _ _=>hR j hj
  exact h1 c F _ w1 hk1 ⟨ρ,xs,G1⟩ (M.block fun b hb _=>hC.block b hb.lt)
def bsL (g:MS):List Nat:=g.flatMap MO.bs
def HFunM (P:Program) (f:FuncId) (args:List HV) (st:aF) (g:MS) (Q:HV→aF→MS→Prop):Prop :=
 ∀ (c:Ctx) (w:World) (ρ:Nat→Value) (xs:Nat→List Value) (vs:List Value),c.w0=w→Good c ⟨[],st⟩ (fun _=>none) w ρ xs→MsOk P c w g→iZ w (c.A ρ st) c.n0 ρ vs args →
  Calls P f vs.toArray w (Ret fun v w'=>∃ h st' g' ρ' xs',(∀ i r,rlk st' i=some r→i < 8)∧(∀ j,iW (rlk st j)→iW (rlk st' j))∧(∃ m,bsL g'=bsL g ++ m)∧Q h st' g'∧Good c ⟨[],st'⟩ (fun _=>none) w' ρ' xs'∧MsOk P c w' g'∧RepH w' (c.A ρ' st') c.n0 ρ' v h)
theorem HFunM.mono {f:FuncId} {args:List HV} {st:aF} {R R':HV→aF→MS→Prop} (h:HFunM P f args st g R) (hq:∀ h st g,R h st g→R' h st g):HFunM P f args st g R' :=
 fun c w ρ xs vs hw G M hr=>Ret.mono (h c w ρ xs vs hw G M hr) fun v w' ⟨x,st',g',ρ',xs',a,b,d,q,r⟩=>⟨x,st',g',ρ',xs',a,b,d,hq _ _ _ q,r⟩
def qNs (st0:aF) (g0 g:MS) (S:HS) (h:HV) (R:HV→aF→MS→Prop):Prop:=(∃ m,bsL g=bsL g0 ++ m)∧qGx st0 S h fun h st=>R h st g
def qZm (P:Program) (rs:List ResultVar) (st0:aF) (g0:MS) (R:HV→aF→MS→Prop):iK
|.normal,g,S=>kU P S rs fun hs=>qNs st0 g0 g S (sX hs) R
|.ret,g,S=>kU P S rs fun hs=>qNs st0 g0 g S (sX hs) R
|_,_,_=>False
theorem kC {f:FuncId} {fn:Func} {x:Code} {args:List HV} {st:aF} {rs:Array ResultVar} {R:HV→aF→MS→Prop} (hf:P.funcs[f]?=some fn) (hb:fn.body=some x) (hN:fn.ntmps=N) (hrs:fn.results=rs) (hle:args.length≤N)
  (h:HWM P N x (qZm P rs.toList st g R) g ⟨rB 0 args,st⟩):HFunM P f args st g R:=fun c w ρ xs vs _ G M RR=>by
 refine qDy hf hb hN hrs (by rw [RR.1];exact hle) ?_
 have I:Inv c ⟨rB 0 args,st⟩ (lk (kN 0 vs)) w:=by
  refine ⟨ρ,xs,G.rows,G.apart,fun k h hk=>?_,G.kept,G.a0⟩
  obtain ⟨-,h2⟩:=tU args 0 k h hk;rw [Nat.sub_zero] at h2;obtain ⟨hlt,rfl⟩:=List.getElem?_eq_some_iff.1 h2
  have hlt':k < vs.length:=by rw [RR.1];exact hlt
  exact ⟨vs[k],xU vs 0 k _ (Nat.zero_le _) (by simp [hlt']),RR.2 k hlt' hlt⟩
 refine (h _ _ _ I M).mono fun e l' w' ⟨S',g',I',M',q⟩=>?_
 obtain ⟨ρ,xs,G⟩:=I'
 have fin:kU P S' rs.toList (fun hs=>qNs st g g' S' (sX hs) R)→jT P l' w' rs.toList fun vs=>∃ h st' g' ρ' xs',(∀ i r,rlk st' i=some r→i < 8)∧(∀ j,iW (rlk st j)→iW (rlk st' j))∧(∃ m,bsL g'=bsL g ++ m)∧R h st' g'∧Good c ⟨[],st'⟩ (fun _=>none) w' ρ' xs'∧MsOk P c w' g'∧RepH w' (c.A ρ' st') c.n0 ρ' (tup vs) h:=fun hr =>
  resH_resE.resE_mono (resH_resE G _ _ hr) fun vs ⟨hs,⟨hm,hR⟩,hv⟩=>by
   obtain ⟨h,st',ρ',xs',a,b,q,r1,r2⟩:=qEh G (qC7 hv) hR;exact ⟨h,st',g',ρ',xs',a,b,hm,q,r1,M',r2⟩
 cases e with
|normal=>exact fin q
|ret=>exact fin q
|_=>exact q.elim
theorem zLt {x:Code} {Qh:eN} (h:HWM P N x (fun e _ S=>Qh e S) [] S):HW P N x Qh S:=fun c l w I =>
 (h c l w I ⟨fun i m hi=>by simp at hi,fun i j m m' b _ hi=>by simp at hi,fun i m b hi=>by simp at hi⟩).mono fun e l' w' ⟨S',g',I',_,q⟩=>⟨S',I',q⟩
theorem bN {all more:List Oper} {o:Oper} {f:FuncId} {args args':List HV} {st:aF} {R:HV→aF→MS→Prop} {x:Operand} {ay:Array Operand} {ats:Array TypeId} (n:Nat) (ids:List Nat) (hc:aK P f=true) (H:HFunM P f args' st g R)
  (hop:o.op=.call ⟨.value x,ay,ats⟩) (hg:gOK S.env (cD all) o.guard=true) (hd:dM N o.dst=true) (hfn:fnH (hev S.env x)=some f) (has:lB S.env ay.toList=some args)
  (hdup:dup ids=false) (hlen:ids.length≤8) (hids:∀ i ∈ ids,cP n i=false) (hst:eK (pos ids) S.st 0 ids=st) (hargs:args.map (HV.ren (pos ids))=args')
  (h:∀ h st' g',R h st' g'→HVM P N all Q more g' ((S.swap ids n st').set o.dst (h.ren (sh2 ids n)))):HVM P N all Q (o :: more) g S:=fun c F l w hk I M=>by
 have hd:=eC hd
 have I0:=I
 obtain ⟨ρ,xs,G⟩:=I
 have hk':∀ v,bH N (stp o.dst v l)=true:=fun v=>dV hk (fun k e=>by rw [e] at hd;exact hd)
 unfold wpListIn;rw [iX I0 F hk hg,if_pos rfl];obtain ⟨vs,e1,e2,e3⟩:=G.evs (aY _ _) has;subst hst;subst hargs;obtain ⟨c1,ρ1,xs1,hw1,hT,hnT,hfT,G1,R1,back⟩:=qEz n ids hdup hlen hids (fun b=>b ∈ bsL g) G (fun b hb=>by
  obtain ⟨m,hm,hb⟩:=List.mem_flatMap.1 hb;obtain ⟨i,hi⟩:=List.mem_iff_getElem?.1 hm;exact ⟨M.dull hi hb,M.foot i m b hi hb⟩) (R:=(⟨e2,e3⟩:iZ w (c.A ρ S.st) c.n0 ρ vs args))
 have M1:MsOk P c1 w g:=⟨M.ok,M.nd,fun i m b hi hb=>.inr (hT b (List.mem_flatMap.2 ⟨m,List.mem_iff_getElem?.2 ⟨i,hi⟩,hb⟩))⟩
 have hcall:=H c1 w ρ1 xs1 vs hw1 G1 M1 R1
 have hv:bK P l o.op o.type w (fun u w2=>∃ h st' g',R h st' g'∧InvV c (S.swap ids n st') (h.ren (sh2 ids n)) u (lk l) w2∧MsOk P c w2 g') (fun u w2=>∃ h st' g',R h st' g'∧InvV c (S.swap ids n st') (h.ren (sh2 ids n)) u (lk l) w2∧MsOk P c w2 g'):=by
  rw [hop];unfold bK;simp only [aQ,bY,e1,G.fn (aY _ _) hfn];refine ⟨hc,Ret.mono hcall fun u w2 ⟨h,st2,g2,ρ2,xs2,h8,hbx,⟨m,hm⟩,q,G2,M2,hr⟩=>⟨h,st2,g2,q,back u w2 h st2 ρ2 xs2 h8 hbx (fun b hb=>?_) G2 hr,M2.ok,M2.nd,fun i m b hi hb=>?_⟩⟩
  ·have:b ∈ bsL g2:=by rw [hm];exact List.mem_append_left _ hb
   obtain ⟨m',hm',hb'⟩:=List.mem_flatMap.1 this;obtain ⟨i,hi⟩:=List.mem_iff_getElem?.1 hm';exact M2.dull hi hb'
  ·rcases M2.foot i m b hi hb with h|h
   ·rw [hw1] at h
    have:=G.kept.size
    exact .inl (by omega)
   ·exact hfT b h
 refine (cF ((gH (fun x X hx=>gV F hk hx) hv).mono fun u w2 ⟨h',st',g',q,I2,M2⟩=>?_))
 rw [jU];exact h h' st' g' q c F _ _ (hk' _) (I2.set o.dst) M2
end
end Go.Eng
end
section
namespace Go.Eng
open Go Go.RowKit Go.Maps
def iP:List Operand→List Nat
|[]=>[]
|.tmp t :: r=>t :: iP r
|_ :: r=>iP r
theorem kP {t:Nat}:∀ {xs:List Operand},t ∈ iP xs→Operand.tmp t ∈ xs
|[],h=>by simp [iP] at h
|x :: r,h=>by
  cases x with
 |tmp k =>
   simp only [iP,List.mem_cons] at h
   rcases h with rfl|h
   ·simp
   ·exact List.mem_cons_of_mem _ (kP h)
 |const v=>exact List.mem_cons_of_mem _ (kP (xs:=r) h)
 |global v=>exact List.mem_cons_of_mem _ (kP (xs:=r) h)
 |func v=>exact List.mem_cons_of_mem _ (kP (xs:=r) h)
structure HeadM (P:Program) (N:Nat) (ops:List Oper) (E0:bL) (st:aF) (g:MS) (hs:Nat→HV) (i:Nat) (o:Oper):Prop where
 lt:iJ N o.dst
 head:∃ T:bL,FrOk ops E0 hs i T∧(∀ t h,hlk T t=some h→t ∈ o.looksAt ops.toArray)∧∀ (c:Ctx) (l:Env) (w:World) (ρ:Nat→Value) (xs:Nat→List Value),Good c ⟨T,st⟩ (lk l) w ρ xs→MsOk P c w g →
  ∃ b,gd l (cD ops) o.guard (·=b)∧(b=true→Yields P (execOp (evD l) o) w fun u w'=>RepH w' (c.A ρ st) c.n0 ρ u (hs i)∧Below w.heap.size w w')∧(b=false→hs i=.v undef)
theorem HeadOk.toM {P:Program} {N:Nat} {ops:List Oper} {E0:bL} {st:aF} {g:MS} {hs:Nat→HV} {i:Nat} {o:Oper} (h:HeadOk P N ops E0 st hs i o):HeadM P N ops E0 st g hs i o:=by
 obtain ⟨T,TF,TS,run⟩:=h.head;refine ⟨h.lt,T,TF,fun t x hx=>qH (TS t x hx),fun c l w ρ xs G M=>?_⟩
 obtain ⟨b,b1,b2,b3⟩:=run c l w ρ xs G;exact ⟨b,b1,fun hb=>gH (fun x X hx=>by simp [evD,hx]) (b2 hb),b3⟩
theorem HeadM.congr {P:Program} {N:Nat} {ops:List Oper} {E0:bL} {st:aF} {g:MS} {hs hs':Nat→HV} {i:Nat} {o:Oper} (h:HeadM P N ops E0 st g hs i o) (he:∀ j,j≤i→hs' j=hs j):HeadM P N ops E0 st g hs' i o:=by
 obtain ⟨T,TF,TS,run⟩:=h.head;refine ⟨h.lt,T,TF.congr fun j hj=>he j (by omega),TS,?_⟩
 rw [he i (Nat.le_refl _)];exact run
def HRM (P:Program) (N:Nat) (all:List Oper) (g:MS) (K:HS→Prop) (n i:Nat) (S:HS):Prop :=
 ∀ (E0:bL) (st:aF) (hs0:Nat→HV),S.st=st→FrOk all E0 hs0 i S.env→∃ hs:Nat→HV,(∀ j,j < i→hs j=hs0 j)∧(∀ k o,i≤k→k < n→all[k]?=some o→HeadM P N all E0 st g hs k o)∧∃ S',S'.st=st∧FrOk all E0 hs n S'.env∧K S'
section
variable {P:Program} {N:Nat} {all:List Oper} {g:MS} {K:HS→Prop} {n i:Nat} {S:HS} {Q:iK}
theorem qTs (h:K S):HRM P N all g K n n S:=fun E0 st hs0 hst F=>⟨hs0,fun _ _=>rfl,fun k o h1 h2=>by omega,S,hst,F,h⟩
theorem qD0 (m:Nat) (hm:(all.drop i).length ≥ m) (h:∀ K1:HS→Prop,(∀ S',HRM P N all g K n (i + m) S'→K1 S')→HVr P N (cD all) K1 ((all.drop i).take m) S):HRM P N all g K n i S:=fun E0 st hs0 hst F=>by
 have hl:((all.drop i).take m).length=m:=by rw [List.length_take];omega
 obtain ⟨hs1,a1,heads,S1,e1,F1,h1⟩:=uB (E0:=E0) (st:=st) ((all.drop i).take m) i S hs0 (fun k o hk=>by
  have hlt:=(List.getElem?_eq_some_iff.1 hk).1
  rw [hl] at hlt;rw [List.getElem?_take_of_lt hlt,List.getElem?_drop] at hk;exact hk) hst F (h _ fun _ h=>h)
 rw [hl] at F1;obtain ⟨hs2,b1,b2,S2,e2,F2,k2⟩:=h1 E0 st hs1 e1 F1;refine ⟨hs2,fun j hj=>by rw [b1 j (by omega),a1 j hj],fun k o h1 h2 ho=>?_,S2,e2,F2,k2⟩
 rcases Nat.lt_or_ge k (i + m) with hk|hk
 ·have:=heads (k - i) o (by
   rw [List.getElem?_take_of_lt (by omega),List.getElem?_drop,show i + (k - i)=k by omega];exact ho)
  rw [show i + (k - i)=k by omega] at this
  exact this.toM.congr fun j hj=>b1 j (by omega)
 ·exact b2 k o hk h2 ho
theorem zLx {o:Oper} {more:List Oper} {t k e:TypeId} {z:Value} {m x:Operand} {cm:Bool} {q r c:Nat} {M:MTab} {s:ByteArray} (hsp:all.drop i=o :: more) (hT:MapTy P t k e z) (hop:o.op=.lookup t m x cm) (hg:o.guard=none) (hd:dM N o.dst=true)
  (hi:g[q]?=some (.map r k c M)) (hm:hev (gY S.env (iP [m,x])) m=some (.v (.map (some r)))) (hx:hev (gY S.env (iP [m,x])) x=some (.v (.string s))) (hsz:s.size≤maxLen)
  (h:HRM P N all g K n (i + 1) (S.set o.dst (qJ (M s.data.toList) z cm))):HRM P N all g K n i S:=fun E0 st hs0 hst F=>by
 have hoi:all[i]?=some o:=by
  have:=congrArg (fun l=>l[0]?) hsp
  simp only [List.getElem?_drop,Nat.add_zero,List.getElem?_cons_zero] at this;exact this
 let hs1:Nat→HV:=fun j=>if j=i then qJ (M s.data.toList) z cm else hs0 j
 have e1:hs1 i=qJ (M s.data.toList) z cm:=if_pos rfl
 have e2:∀ j,j < i→hs1 j=hs0 j:=fun j hj=>if_neg (by omega)
 have F2:FrOk all E0 hs1 (i + 1) (S.set o.dst (qJ (M s.data.toList) z cm)).env:=by
  have:=(F.congr e2).set hoi
  rw [e1] at this;exact this
 obtain ⟨hs2,b1,b2,S2,f2,F2,k2⟩:=h E0 st hs1 (by cases o.dst <;> exact hst) F2
 have ej:∀ j,j < i→hs2 j=hs0 j:=fun j hj=>by rw [b1 j (by omega),e2 j hj]
 have ei:hs2 i=qJ (M s.data.toList) z cm:=by rw [b1 i (by omega),e1]
 refine ⟨hs2,ej,fun k' o' h1 h2 ho=>?_,S2,f2,F2,k2⟩
 rcases Nat.lt_or_ge i k' with hk|hk
 ·exact b2 k' o' (by omega) h2 ho
 ·have:k'=i:=by omega
  subst this;rw [hoi] at ho;simp only [Option.some.injEq] at ho;subst ho
  have TF:∀ t h,hlk (gY S.env (iP [m,x])) t=some h→t ∈ iP [m,x]∧hlk S.env t=some h:=fun t h hh=>rZ hh
  refine ⟨eC hd,gY S.env (iP [m,x]),(F.congr ej).env fun t x hx=>(TF t x hx).2,fun t h hh=>jJ ?_,fun c' l w ρ xs G MK=>⟨true,by rw [hg];rfl,fun _=>?_,fun e=>by cases e⟩⟩
  ·have:=kP (TF t h hh).1
   rw [hop]
   simpa [Op.operands] using this
  ·obtain ⟨vm,m1,m2⟩:=G.ev (aY _ l) hm;obtain ⟨vx,x1,x2⟩:=G.ev (aY _ l) hx
   have:=bD m2;subst this
   have:=bD x2;subst this
   have m3:evD l m=.map (some r):=by simp [evD,m1]
   have x3:evD l x=.string s:=by simp [evD,x1]
   obtain ⟨D,hown,hr⟩:=MK.ok q _ hi;rw [ei]
   have val:∀ v ps,pC v=some (D.atKey (.string s.data.toList) (.held z),ps)→v=(M s.data.toList).getD z:=fun v ps hv=>by
    simp only [pC,hr.at',Option.some.injEq,Prod.mk.injEq] at hv
    cases hM:M s.data.toList with
   |none=>rw [hM] at hv;injection hv.1
   |some u=>rw [hM] at hv;injection hv.1
   cases cm with
  |false =>
    obtain ⟨v,ps,hrun,hv⟩:=hown.lookup (string_keyed hT.kk) hT.tk (hT.z w) (zd:=.held z) (zp:=[]) rfl (key:=.string s) (kl:=.string s.data.toList) (WideMaps.keyOf_string_mk hT.kk hsz)
    have:=val v ps hv
    subst this;unfold Yields;simp only [execOp,hop,m3,x3,hrun,Result.andThen,Sem.run_bind,Sem.run];exact ⟨mG _,Below.refl _ _⟩
  |true =>
    obtain ⟨v,ps,hrun,hv⟩:=hown.look_ok (string_keyed hT.kk) hT.tk (hT.z w) (zd:=.held z) (zp:=[]) rfl (key:=.string s) (kl:=.string s.data.toList) (WideMaps.keyOf_string_mk hT.kk hsz)
    have:=val v ps hv
    subst this;rw [hr.has] at hrun;unfold Yields;simp only [execOp,hop,m3,x3,hrun,Result.andThen,Sem.run_bind,Sem.run];refine ⟨.tup rfl fun j a b=>?_,Below.refl _ _⟩
    match j,a with
   |0,_=>exact mG _
   |1,_=>exact .v _
theorem zLv {id:Nat} {ops:List Oper} (n:Nat) (hm:P.follows .mixedOrders=true) (hok:uV (bF S.env) ops n=true)
  (h:∀ K1:HS→Prop,(∀ S',HVM P N ops Q (ops.drop n) g S'→K1 S')→HRM P N ops g K1 n 0 S):HWM P N (.region id ops.toArray true) Q g S:=fun c l w I M=>by
 have hks:∀ k ∈ bF S.env,∃ v,lk l k=some v:=fun k hk=>by
  obtain ⟨x,hx⟩:=gE hk;obtain ⟨ρ,xs,G⟩:=I;obtain ⟨v,h1,-⟩:=G.env k x hx;exact ⟨v,h1⟩
 refine qBn (bF S.env) ?_
 have I':Inv c S (lk (keep (bF S.env) l)) w:=I.agree fun k x hk=>lJ (eZ hk)
 have hkk:oF (keep (bF S.env) l)=bF S.env:=kZ hks
 generalize keep (bF S.env) l=l' at I' hkk;obtain ⟨ρ,xs,G⟩:=I'
 have ok:=iQ hok
 obtain ⟨hs,-,heads,S1,e1,F1,h1⟩:=h _ (fun _ h=>h) S.env S.st (fun _=>.junk) rfl (fun t x hx=>.inr ⟨fun j hj=>absurd hj (Nat.not_lt_zero _),hx⟩)
 have head:∀ i o,i < n→ops[i]?=some o→HeadM P N ops S.env S.st g hs i o:=fun i o hi ho=>heads i o (Nat.zero_le _) hi ho
 have uniq:∀ i j t,i < n→j < n→aM ops i=some t→aM ops j=some t→i=j:=by
  intro i j t hi hj h1 h2
  rcases Nat.lt_trichotomy i j with h|h|h
  ·rcases ok.uniq j i hj h with e|e
   ·rw [h2] at e;cases e
   ·exact absurd (h2.trans h1.symm) e
  ·exact h
  ·rcases ok.uniq i j hi h with e|e
   ·rw [h1] at e;cases e
   ·exact absurd (h1.trans h2.symm) e
 have hlt:DLt N ops n:=fun i t hi hd=>by
  obtain ⟨o,ho,hod⟩:=pQ hd
  have:=(head i o hi ho).lt
  rw [hod] at this;exact this
 have frame:∀ (vs:Nat→Value) (w':World) (i:Nat) (E:bL),i≤n→Below w.heap.size w w'→FrOk ops S.env hs i E →
   (∀ j t x,j < i→aM ops j=some t→hlk E t=some x→RepH w' (c.A ρ S.st) c.n0 ρ (vs j) (hs j))→Good c ⟨E,S.st⟩ (lk (cZ l' ops vs i)) w' ρ xs:=fun vs w' i E hi hB F hv=>by
  have GB:=G.below hB
  refine ⟨GB.rows,GB.apart,fun k x hk=>?_,GB.kept,GB.a0⟩
  rcases F k x hk with ⟨j,a,b,d⟩|⟨a,b⟩
  ·refine ⟨vs j,(fY (l:=l') (vs:=vs) hlt (base:=Array.replicate N undef) (by simp) b (fun q hq hne e=>hne (uniq q j k hq (by omega) e b)) i hi a).1,?_⟩
   rw [← d];exact hv j k x a b hk
  ·obtain ⟨v,v1,v2⟩:=GB.env k x b;exact ⟨v,by rw [(fX (l:=l') (vs:=vs) #[] k i a).1];exact v1,v2⟩
 refine qX3 (bF S.env) n hm hkk hok hlt (C:=fun w'=>Below w.heap.size w w') (R:=fun j u w'=>RepH w' (c.A ρ S.st) c.n0 ρ u (hs j)) (Below.refl _ _).drew (Le:=fun _ w w'=>Below w.heap.size w w') (fun _ w=>Below.refl _ _) (fun j _ u w1 w2 _ _ _ _ hr hB=>hr.above hB) ?_ ?_
 ·intro i o hi ho vs w1 hC hR;obtain ⟨T,TF,TS,run⟩:=(head i o hi ho).head
  have GT:Good c ⟨T,S.st⟩ (lk (cZ l' ops vs i)) w1 ρ xs:=frame vs w1 i T (by omega) hC TF fun j t x hj hd hx=>hR j t hj hd (TS t x hx)
  obtain ⟨b,b1,b2,b3⟩:=run c _ w1 ρ xs GT (M.block fun b hb _=>hC.block b hb.lt)
  refine ⟨b,b1,fun hb=>?_,fun hb=>?_⟩
  ·exact (b2 hb).mono fun u w2 ⟨hu,hB⟩=>⟨hu,hC.trans (hB.mono hC.size),hB⟩
  ·rw [b3 hb];exact .v _
 ·intro F vs w1 hk1 hC hR;obtain ⟨E1,st1⟩:=S1
  have e1:st1=S.st:=e1
  subst e1
  have G1:=frame vs w1 n E1 (Nat.le_refl _) hC F1 fun j t x hj _ _=>hR j hj
  exact h1 c F _ w1 hk1 ⟨ρ,xs,G1⟩ (M.block fun b hb _=>hC.block b hb.lt)
end
end Go.Eng
end
