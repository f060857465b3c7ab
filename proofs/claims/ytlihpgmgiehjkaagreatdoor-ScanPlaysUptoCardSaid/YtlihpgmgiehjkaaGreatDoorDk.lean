/-
  Plain: a disk: items by path, limits by volume; what its calls make of it.
-/
import Derived.Test.YtlihpgmgiehjkaaGreatDoorMr
import Derived.Test.YtlihpgmgiehjkaaGreatDoorTrC
import Derived.Test.YtlihpgmgiehjkaaGreatDoorMq
set_option linter.unusedSimpArgs false
set_option linter.unusedVariables false
section
namespace Go.Eng
open Go Go.RowKit Go.Maps
section
variable {P:Program} {N:Nat} {S:HS} {g:MS} {Q:kF}
theorem qYt {Qp:tB} {l:Env} {w:World} {id:Nat} {ops:List Oper} (keys:List Nat) (n:Nat) (hm:P.follows .mixedOrders=true) (bH:nQ l=keys) (hok:pM keys ops n=true) (hlt:DLt N ops n)
  {C:World→Prop} {R:Nat→Value→World→Prop} (hC:C w.drew) {Le:Nat→World→World→Prop} (hLe:∀ i w,Le i w w) (hS:∀ j i u w w',j < n→i < n→j≠i→C w→R j u w→Le i w w'→R j u w')
  (H:∀ i o,i < n→ops[i]?=some o→∀ (vs:Nat→Value) (w:World),C w→(∀ j t,j < i→aQ ops j=some t→t ∈ o.looksAt ops.toArray→R j (vs j) w) →
   ∃ b,gd (cM l ops vs i) (cN ops) o.guard (·=b)∧(b=true→Yields P (execOp (evD (cM l ops vs i)) o) w fun u w'=>R i u w'∧C w'∧Le i w w')∧(b=false→R i undef w))
  (hT:∀ (F:Fr N) (vs:Nat→Value) (w:World),bX N (cM l ops vs n)=true→C w→(∀ j,j < n→R j (vs j) w)→wpListIn (FW F.ds.2) 0 P ops.toArray (qT7 N F.ds Qp) (ops.drop n) (mk F (cM l ops vs n)) w):W P N (.region id ops.toArray true) Qp l w:=fun hk F=>by
 have ok:=hZ hok
 refine wpIn_region_any hm ?_
 have:=qSq ok F hk (fun t ht=>mR (by rw [bH];exact ht)) hlt hLe hS H (Q:=qT7 N F.ds Qp)
  (fun vs w' hw' hR=>hT F vs w' (oZ hlt hk n (Nat.le_refl _)) hw' hR)
  ops.length (Array.replicate ops.length false) (mk F l) w.drew (fun _=>undef) (iF _)
  ⟨by simp,(fun i j hi=>by rw [getD_replicate_false] at hi;cases hi),(fun i hi=>by rw [getD_replicate_false] at hi;cases hi),rfl,by simp [mk,iG,F.hN],(fun j t _ hl=>by rw [getD_replicate_false] at hl;cases hl),fun t _=>rfl,hC⟩
  (fun j _ hl=>by rw [getD_replicate_false] at hl;cases hl)
 simpa using this
theorem qUp {id:Nat} {ops:List Oper} (n:Nat) (hm:P.follows .mixedOrders=true) (hok:pM (bH S.env) ops n=true)
  (h:∀ K1:HS→Prop,(∀ S',HVM P N ops Q (ops.drop n) g S'→K1 S')→HVr P N (cN ops) K1 (ops.take n) S):HWM P N (.region id ops.toArray true) Q g S:=fun c l w I M=>by
 have hks:∀ k ∈ bH S.env,∃ v,lk l k=some v:=fun k hk=>by
  obtain ⟨x,hx⟩:=fL hk;obtain ⟨ρ,xs,G⟩:=I;obtain ⟨v,h1,-⟩:=G.env k x hx;exact ⟨v,h1⟩
 refine sF (bH S.env) ?_
 have I':Inv c S (lk (keep (bH S.env) l)) w:=I.agree fun k x hk=>kJ (eK hk)
 have hkk:nQ (keep (bH S.env) l)=bH S.env:=jA hks
 generalize keep (bH S.env) l=l' at I' hkk;obtain ⟨ρ,xs,G⟩:=I'
 have ok:=hZ hok
 have hlen:(ops.take n).length=n:=by rw [List.length_take];have:=ok.hn;omega
 have get_take:∀ {i:Nat} {o:Oper},(ops.take n)[i]?=some o→i < n∧ops[i]?=some o:=fun {i o} h=>by
  have hi:=(List.getElem?_eq_some_iff.1 h).1
  rw [hlen] at hi;rw [List.getElem?_take_of_lt hi] at h;exact ⟨hi,h⟩
 obtain ⟨hs,-,heads,S1,e1,F1,h1⟩:=pA (E0:=S.env) (st:=S.st) (ops.take n) 0 S (fun _=>.junk) (fun k o hk=>by rw [Nat.zero_add];exact (get_take hk).2) rfl (fun t x hx=>.inr ⟨fun j hj=>absurd hj (Nat.not_lt_zero _),hx⟩) (h _ fun _ h=>h)
 rw [hlen,Nat.zero_add] at F1
 have head:∀ i o,i < n→ops[i]?=some o→HeadOk P N ops S.env S.st hs i o:=fun i o hi ho=>by
  have:=heads i o (by rw [List.getElem?_take_of_lt hi];exact ho)
  rw [Nat.zero_add] at this;exact this
 have uniq:∀ i j t,i < n→j < n→aQ ops i=some t→aQ ops j=some t→i=j:=by
  intro i j t hi hj h1 h2
  rcases Nat.lt_trichotomy i j with h|h|h
  ·rcases ok.uniq j i hj h with e|e
   ·rw [h2] at e;cases e
   ·exact absurd (h2.trans h1.symm) e
  ·exact h
  ·rcases ok.uniq i j hi h with e|e
   ·rw [h1] at e;cases e
   ·exact absurd (h1.trans h2.symm) e
 have hlt:DLt N ops n:=fun i t hi hd=>by
  obtain ⟨o,ho,hod⟩:=mV hd
  have:=(head i o hi ho).lt
  rw [hod] at this;exact this
 have frame:∀ (vs:Nat→Value) (w':World) (i:Nat) (E:bP),i≤n→Below w.heap.size w w'→FrOk ops S.env hs i E →
   (∀ j t x,j < i→aQ ops j=some t→hlk E t=some x→RepH w' (c.A ρ S.st) c.n0 ρ (vs j) (hs j))→Good c ⟨E,S.st⟩ (lk (cM l' ops vs i)) w' ρ xs:=fun vs w' i E hi hB F hv=>by
  have GB:=G.below hB
  refine ⟨GB.rows,GB.apart,fun k x hk=>?_,GB.kept,GB.a0⟩
  rcases F k x hk with ⟨j,a,b,d⟩|⟨a,b⟩
  ·refine ⟨vs j,(gD (l:=l') (vs:=vs) hlt (base:=Array.replicate N undef) (by simp) b (fun q hq hne e=>hne (uniq q j k hq (by omega) e b)) i hi a).1,?_⟩
   rw [← d];exact hv j k x a b hk
  ·obtain ⟨v,v1,v2⟩:=GB.env k x b;exact ⟨v,by rw [(fQ (l:=l') (vs:=vs) #[] k i a).1];exact v1,v2⟩
 refine qYt (bH S.env) n hm hkk hok hlt (C:=fun w'=>Below w.heap.size w w') (R:=fun j u w'=>RepH w' (c.A ρ S.st) c.n0 ρ u (hs j)) (Below.refl _ _).drew (Le:=fun _ w w'=>Below w.heap.size w w') (fun _ w=>Below.refl _ _) (fun j _ u w1 w2 _ _ _ _ hr hB=>hr.above hB) ?_ ?_
 ·intro i o hi ho vs w1 hC hR;obtain ⟨T,TF,TS,run⟩:=(head i o hi ho).head
  have GT:Good c ⟨T,S.st⟩ (lk (cM l' ops vs i)) w1 ρ xs:=frame vs w1 i T (by omega) hC TF fun j t x hj hd hx=>hR j t hj hd (nM (TS t x hx))
  obtain ⟨b,b1,b2,b3⟩:=run c _ w1 ρ xs GT;refine ⟨b,b1,fun hb=>?_,fun hb=>?_⟩
  ·exact (fV (fun x X hx=>by simp [evD,hx]) (b2 hb)).mono fun u w2 ⟨hu,hB⟩=>⟨hu,hC.trans (hB.mono hC.size),hB⟩
  ·rw [b3 hb];exact .v _
 ·intro F vs w1 hk1 hC hR;obtain ⟨E1,st1⟩:=S1
  have e1:st1=S.st:=e1
  subst e1
  have G1:=frame vs w1 n E1 (Nat.le_refl _) hC F1 fun j t x hj _ _=>hR j hj
  exact h1 c F _ w1 hk1 ⟨ρ,xs,G1⟩ (M.block fun b hb _=>hC.block b hb.lt)
def bsL (g:MS):List Nat:=g.flatMap MO.bs
def HFunM (P:Program) (f:FuncId) (args:List HV) (st:aJ) (g:MS) (Q:HV→aJ→MS→Prop):Prop :=
 ∀ (c:Ctx) (w:World) (ρ:Nat→Value) (xs:Nat→List Value) (vs:List Value),c.w0=w→Good c ⟨[],st⟩ (fun _=>none) w ρ xs→MsOk P c w g→oB w (c.A ρ st) c.n0 ρ vs args →
  Calls P f vs.toArray w (Ret fun v w'=>∃ h st' g' ρ' xs',(∀ i r,rlk st' i=some r→i < 8)∧(∀ j,nS (rlk st j)→nS (rlk st' j))∧(∃ m,bsL g'=bsL g ++ m)∧Q h st' g'∧Good c ⟨[],st'⟩ (fun _=>none) w' ρ' xs'∧MsOk P c w' g'∧RepH w' (c.A ρ' st') c.n0 ρ' v h)
theorem HFunM.mono {f:FuncId} {args:List HV} {st:aJ} {R R':HV→aJ→MS→Prop} (h:HFunM P f args st g R) (hq:∀ h st g,R h st g→R' h st g):HFunM P f args st g R' :=
 fun c w ρ xs vs hw G M hr=>Ret.mono (h c w ρ xs vs hw G M hr) fun v w' ⟨x,st',g',ρ',xs',a,b,d,q,r⟩=>⟨x,st',g',ρ',xs',a,b,d,hq _ _ _ q,r⟩
def qS6 (st0:aJ) (g0 g:MS) (S:HS) (h:HV) (R:HV→aJ→MS→Prop):Prop:=(∃ m,bsL g=bsL g0 ++ m)∧qHd st0 S h fun h st=>R h st g
def zAa (P:Program) (rs:List ResultVar) (st0:aJ) (g0:MS) (R:HV→aJ→MS→Prop):kF
|.normal,g,S=>nY P S rs fun hs=>qS6 st0 g0 g S (vE hs) R
|.ret,g,S=>nY P S rs fun hs=>qS6 st0 g0 g S (vE hs) R
|_,_,_=>False
theorem kC {f:FuncId} {fn:Func} {x:Code} {args:List HV} {st:aJ} {rs:Array ResultVar} {R:HV→aJ→MS→Prop} (hf:P.funcs[f]?=some fn) (hb:fn.body=some x) (hN:fn.ntmps=N) (hrs:fn.results=rs) (hle:args.length≤N)
  (h:HWM P N x (zAa P rs.toList st g R) g ⟨sZ 0 args,st⟩):HFunM P f args st g R:=fun c w ρ xs vs _ G M RR=>by
 refine qEk hf hb hN hrs (by rw [RR.1];exact hle) ?_
 have I:Inv c ⟨sZ 0 args,st⟩ (lk (oD 0 vs)) w:=by
  refine ⟨ρ,xs,G.rows,G.apart,fun k h hk=>?_,G.kept,G.a0⟩
  obtain ⟨-,h2⟩:=qA1 args 0 k h hk;rw [Nat.sub_zero] at h2;obtain ⟨hlt,rfl⟩:=List.getElem?_eq_some_iff.1 h2
  have hlt':k < vs.length:=by rw [RR.1];exact hlt
  exact ⟨vs[k],qEm vs 0 k _ (Nat.zero_le _) (by simp [hlt']),RR.2 k hlt' hlt⟩
 refine (h _ _ _ I M).mono fun e l' w' ⟨S',g',I',M',q⟩=>?_
 obtain ⟨ρ,xs,G⟩:=I'
 have fin:nY P S' rs.toList (fun hs=>qS6 st g g' S' (vE hs) R)→mA P l' w' rs.toList fun vs=>∃ h st' g' ρ' xs',(∀ i r,rlk st' i=some r→i < 8)∧(∀ j,nS (rlk st j)→nS (rlk st' j))∧(∃ m,bsL g'=bsL g ++ m)∧R h st' g'∧Good c ⟨[],st'⟩ (fun _=>none) w' ρ' xs'∧MsOk P c w' g'∧RepH w' (c.A ρ' st') c.n0 ρ' (tup vs) h:=fun hr =>
  resH_resE.resE_mono (resH_resE G _ _ hr) fun vs ⟨hs,⟨hm,hR⟩,hv⟩=>by
   obtain ⟨h,st',ρ',xs',a,b,q,r1,r2⟩:=qP5 G (qLl hv) hR;exact ⟨h,st',g',ρ',xs',a,b,hm,q,r1,M',r2⟩
 cases e with
|normal=>exact fin q
|ret=>exact fin q
|_=>exact q.elim
theorem zMe {x:Code} {Qh:gF} (h:HWM P N x (fun e _ S=>Qh e S) [] S):HW P N x Qh S:=fun c l w I =>
 (h c l w I ⟨fun i m hi=>by simp at hi,fun i j m m' b _ hi=>by simp at hi,fun i m b hi=>by simp at hi⟩).mono fun e l' w' ⟨S',g',I',_,q⟩=>⟨S',I',q⟩
theorem bT {all more:List Oper} {o:Oper} {f:FuncId} {args args':List HV} {st:aJ} {R:HV→aJ→MS→Prop} {x:Operand} {ay:Array Operand} {ats:Array TypeId} (n:Nat) (ids:List Nat) (hc:aK P f=true) (H:HFunM P f args' st g R)
  (hop:o.op=.call ⟨.value x,ay,ats⟩) (hg:gOK S.env (cN all) o.guard=true) (hd:eQ N o.dst=true) (hfn:fnH (hev S.env x)=some f) (has:mS S.env ay.toList=some args)
  (hdup:dup ids=false) (hlen:ids.length≤8) (hids:∀ i ∈ ids,dH n i=false) (hst:jE (pos ids) S.st 0 ids=st) (hargs:args.map (HV.ren (pos ids))=args')
  (h:∀ h st' g',R h st' g'→HVM P N all Q more g' ((S.swap ids n st').set o.dst (h.ren (sh2 ids n)))):HVM P N all Q (o :: more) g S:=fun c F l w hk I M=>by
 have hd:=gE hd
 have I0:=I
 obtain ⟨ρ,xs,G⟩:=I
 have hk':∀ v,bX N (stp o.dst v l)=true:=fun v=>fP hk (fun k e=>by rw [e] at hd;exact hd)
 unfold wpListIn;rw [mU I0 F hk hg,if_pos rfl];obtain ⟨vs,e1,e2,e3⟩:=G.evs (bJ _ _) has;subst hst;subst hargs;obtain ⟨c1,ρ1,xs1,hw1,hT,hnT,hfT,G1,R1,back⟩:=qAr n ids hdup hlen hids (fun b=>b ∈ bsL g) G (fun b hb=>by
  obtain ⟨m,hm,hb⟩:=List.mem_flatMap.1 hb;obtain ⟨i,hi⟩:=List.mem_iff_getElem?.1 hm;exact ⟨M.dull hi hb,M.foot i m b hi hb⟩) (R:=(⟨e2,e3⟩:oB w (c.A ρ S.st) c.n0 ρ vs args))
 have M1:MsOk P c1 w g:=⟨M.ok,M.nd,fun i m b hi hb=>.inr (hT b (List.mem_flatMap.2 ⟨m,List.mem_iff_getElem?.2 ⟨i,hi⟩,hb⟩))⟩
 have hcall:=H c1 w ρ1 xs1 vs hw1 G1 M1 R1
 have hv:bQ P l o.op o.type w (fun u w2=>∃ h st' g',R h st' g'∧InvV c (S.swap ids n st') (h.ren (sh2 ids n)) u (lk l) w2∧MsOk P c w2 g') (fun u w2=>∃ h st' g',R h st' g'∧InvV c (S.swap ids n st') (h.ren (sh2 ids n)) u (lk l) w2∧MsOk P c w2 g'):=by
  rw [hop];unfold bQ;simp only [aY,cC,e1,G.fn (bJ _ _) hfn];refine ⟨hc,Ret.mono hcall fun u w2 ⟨h,st2,g2,ρ2,xs2,h8,hbx,⟨m,hm⟩,q,G2,M2,hr⟩=>⟨h,st2,g2,q,back u w2 h st2 ρ2 xs2 h8 hbx (fun b hb=>?_) G2 hr,M2.ok,M2.nd,fun i m b hi hb=>?_⟩⟩
  ·have:b ∈ bsL g2:=by rw [hm];exact List.mem_append_left _ hb
   obtain ⟨m',hm',hb'⟩:=List.mem_flatMap.1 this;obtain ⟨i,hi⟩:=List.mem_iff_getElem?.1 hm';exact M2.dull hi hb'
  ·rcases M2.foot i m b hi hb with h|h
   ·rw [hw1] at h
    have:=G.kept.size
    exact .inl (by omega)
   ·exact hfT b h
 refine (cX ((fV (fun x X hx=>lW F hk hx) hv).mono fun u w2 ⟨h',st',g',q,I2,M2⟩=>?_))
 rw [mK];exact h h' st' g' q c F _ _ (hk' _) (I2.set o.dst) M2
end
end Go.Eng
end
section
namespace Go.Eng
open Go Go.RowKit Go.Maps
theorem aE (v:Option Value) (z:Value):rF v z true=.tup [qDv (v.getD z),.v (.bool v.isSome)]:=nr rfl
theorem aD (v:Option Value) (z:Value):rF v z false=qDv (v.getD z):=nr rfl
theorem qMn (r:Option Nat):dQ (.v (.map r))=some [.v (.map r)]:=nr rfl
theorem zBq (r:Option Nat):(Value.map r).oneCell'=true:=nr rfl
theorem aF (P:Program) (rs:List ResultVar) (st0:aJ) (g0:MS) (R:HV→aJ→MS→Prop) (g:MS) (S:HS):zAa P rs st0 g0 R .normal g S=nY P S rs fun hs=>qS6 st0 g0 g S (vE hs) R:=nr rfl
theorem aN (P:Program) (rs:List ResultVar) (st0:aJ) (g0:MS) (R:HV→aJ→MS→Prop) (g:MS) (S:HS):zAa P rs st0 g0 R .ret g S=nY P S rs fun hs=>qS6 st0 g0 g S (vE hs) R:=nr rfl
theorem bV (ids more:List Nat) {st0:aJ} {g0 g:MS} {S:HS} {h:HV} {R:HV→aJ→MS→Prop} (hm:bsL g=bsL g0 ++ more) (h1:ids.length≤8) (h2:dup ids=false) (h3:qHc S.st 0 ids) (h4:pR ids S.st st0) {h':HV} {st':aJ} (h5:h.ren (pos ids)=h') (h6:jX (pos ids) S.st 0 ids=st') (q:R h' st' g):qS6 st0 g0 g S h R :=
 ⟨⟨more,hm⟩,ids,h1,h2,h3,h4,by rw [h5,h6];exact q⟩
end Go.Eng
end
section
namespace Go.Dk
open Go Go.Tr Go.Eng
structure Itm where
 dir:Bool
 data:ByteArray
 kept:ByteArray
 loose:Bool
 anew:Bool
 stamp:Int
def Itm.val (x:Itm):Value:=.agg #[.bool x.dir,.string x.data,.string x.kept,.bool x.loose,.bool x.anew,.int .i64 x.stamp]
def Itm.hv (x:Itm):HV:=.agg [.v (.bool x.dir),.v (.string x.data),.v (.string x.kept),.v (.bool x.loose),.v (.bool x.anew),.v (.int .i64 x.stamp)]
def itm0:Itm:=⟨false,ByteArray.empty,ByteArray.empty,false,false,0⟩
def qFi:Itm:=⟨true,ByteArray.empty,ByteArray.empty,false,false,0⟩
section
variable {α:Type}
def aS:List (ByteArray × α)→ByteArray→Option α
|[],_=>none
|(t,x) :: r,s=>if t=s then some x else aS r s
def zQ2 (a b:ByteArray):Bool:=Op.bytesLess a.data.toList b.data.toList
theorem rX (a b:ByteArray):zQ2 a b=blt a b:=by rw [blt,zQ2,Lib.toList_data,Lib.toList_data]
def put (s:ByteArray) (x:α):List (ByteArray × α)→List (ByteArray × α)
|[]=>[(s,x)]
|(t,y) :: r=>if t=s then (s,x) :: r else if zQ2 s t then (s,x) :: (t,y) :: r else (t,y) :: put s x r
def del (s:ByteArray):List (ByteArray × α)→List (ByteArray × α)
|[]=>[]
|(t,y) :: r=>if t=s then del s r else (t,y) :: del s r
theorem kA (s:ByteArray) (x:α) (u:ByteArray):∀ (L:List (ByteArray × α)),aS (put s x L) u=if u=s then some x else aS L u
|[]=>by
  simp only [put,aS]
  by_cases e:u=s
  ·subst e;simp
  ·rw [if_neg (fun h=>e h.symm),if_neg e]
|(t,y) :: r=>by
  simp only [put]
  by_cases h1:t=s
  ·subst h1;rw [if_pos rfl];simp only [aS]
   by_cases e:t=u
   ·subst e;simp
   ·rw [if_neg e,if_neg (fun h=>e h.symm),if_neg e]
  ·rw [if_neg h1];split
   ·simp only [aS]
    by_cases e:s=u
    ·subst e;simp
    ·rw [if_neg e,if_neg (show ¬ u=s from fun h=>e h.symm)]
   ·simp only [aS];rw [kA s x u r]
    by_cases e:t=u
    ·subst e;simp [h1]
    ·rw [if_neg e,if_neg e]
theorem nN (s u:ByteArray):∀ (L:List (ByteArray × α)),aS (del s L) u=if u=s then none else aS L u
|[]=>by simp [del,aS]
|(t,y) :: r=>by
  simp only [del]
  by_cases h1:t=s
  ·subst h1;rw [if_pos rfl,nN t u r];simp only [aS]
   by_cases e:t=u
   ·subst e;simp
   ·rw [if_neg (fun h=>e h.symm),if_neg (fun h=>e h.symm),if_neg e]
  ·rw [if_neg h1];simp only [aS];rw [nN s u r]
   by_cases e:t=u
   ·subst e;simp [h1]
   ·rw [if_neg e,if_neg e]
def tab (f:α→Value) (L:List (ByteArray × α)):MTab:=fun s=>(aS L (mkB s)).map f
theorem qBq (f:α→Value) (L:List (ByteArray × α)) (s:ByteArray):tab f L s.data.toList=(aS L s).map f:=by rw [tab,iZ]
theorem qLb {q:List UInt8} {s:ByteArray}:mkB q=s↔q=s.data.toList:=by
 constructor
 ·rintro rfl;rfl
 ·rintro rfl;exact iZ s
theorem qCg (f:α→Value) (L:List (ByteArray × α)) (s:ByteArray) (x:α):(tab f L).put s.data.toList (f x)=tab f (put s x L):=by
 funext q
 simp only [MTab.put,tab,kA]
 by_cases e:q=s.data.toList
 ·rw [if_pos e,if_pos (qLb.2 e)];rfl
 ·rw [if_neg e,if_neg (fun h=>e (qLb.1 h))]
theorem zAw (f:α→Value) (L:List (ByteArray × α)) (s:ByteArray):(tab f L).del s.data.toList=tab f (del s L):=by
 funext q
 simp only [MTab.del,tab,nN]
 by_cases e:q=s.data.toList
 ·rw [if_pos e,if_pos (qLb.2 e)];rfl
 ·rw [if_neg e,if_neg (fun h=>e (qLb.1 h))]
end
def jL (n:Int):Value:=.int .i64 n
theorem gS (L:List (ByteArray × Itm)) (s:ByteArray):qDv ((tab Itm.val L s.data.toList).getD itm0.val)=((aS L s).getD itm0).hv:=by
 rw [qBq]
 cases aS L s <;> rfl
theorem nR (L:List (ByteArray × Itm)) (s:ByteArray):(tab Itm.val L s.data.toList).isSome=(aS L s).isSome:=by rw [qBq,Option.isSome_map]
theorem qV7 (L:List (ByteArray × Int)) (s:ByteArray):qDv ((tab jL L s.data.toList).getD (.int .i64 0))=.v (.int .i64 ((aS L s).getD 0)):=by
 rw [qBq]
 cases aS L s <;> rfl
theorem zH5 (L:List (ByteArray × Int)) (s:ByteArray):(tab jL L s.data.toList).isSome=(aS L s).isSome:=by rw [qBq,Option.isSome_map]
theorem gT (x:Itm):x.hv=.agg [.v (.bool x.dir),.v (.string x.data),.v (.string x.kept),.v (.bool x.loose),.v (.bool x.anew),.v (.int .i64 x.stamp)]:=(fun h=>h) rfl
structure Dk where
 L:List (ByteArray × Itm)
 R:List (ByteArray × Int)
 steps:Int
 stamps:Int
 armed:Int
 down:Bool
 n:Nat
 m:Nat
def Dk.new:Dk:=⟨[],[],0,0,-1,false,0,0⟩
def Dk.cells (d:Dk) (r1 r2:Nat):List HV:=[.v (.map (some r1)),.v (.map (some r2)),.v (.int .i64 d.steps),.v (.int .i64 d.stamps),.v (.int .i64 d.armed),.v (.bool d.down)]
theorem bM (d:Dk) (r1 r2:Nat):d.cells r1 r2=[.v (.map (some r1)),.v (.map (some r2)),.v (.int .i64 d.steps),.v (.int .i64 d.stamps),.v (.int .i64 d.armed),.v (.bool d.down)]:=(fun h=>h) rfl
def Dk.maps (d:Dk) (k r1 r2:Nat):MS:=[.map r1 k d.n (tab Itm.val d.L),.map r2 k d.m (tab jL d.R)]
def qFo (p:ByteArray):Int:=if p={ data:=#[] } then 0 else (p.data.toList.count 47:Nat) + 1
def may (d:Dk) (p:ByteArray) (names:Int):Int:=if d.down then 14 else if pOk p 6=false∨qFo p≤names then 10 else 0
def aW (d:Dk):Int × Dk:=if d.armed=0 then (14,{ d with down:=true,armed:=-1 }) else (0,{ d with armed:=if 0 < d.armed then d.armed - 1 else d.armed,steps:=d.steps + 1 })
def aP (d:Dk) (p:ByteArray):Itm:=(aS d.L p).getD itm0
def has (d:Dk) (p:ByteArray):Bool:=(aS d.L p).isSome
def fF (d:Dk) (p:ByteArray):Bool:=decide (qFo p=1) || (aP d (par p)).dir
def jJ (d:Dk) (p:ByteArray) (x:Itm):Dk:={ d with stamps:=d.stamps + 1,L:=put p { x with stamp:=d.stamps + 1 } d.L,n:=d.n + 1 }
def qB9:List UInt8→Nat
|[]=>0
|c :: r=>if c=47 then 0 else qB9 r + 1
def vol (p:ByteArray):ByteArray:=p.extract 0 (qB9 p.data.toList)
def qK (v:ByteArray):List (ByteArray × Itm)→Int
|[]=>0
|(p,x) :: r=>(if vol p=v then (x.data.size:Int) else 0) + qK v r
def used (d:Dk) (v:ByteArray):Int:=qK v d.L
def jY (d:Dk) (p:ByteArray) (more:Int):Bool:=match aS d.R (vol p) with
|none=>true
|some n=>decide (more≤0) || decide (used d (vol p) + more≤n)
def eG (d:Dk) (p:ByteArray):Int × Dk :=
 if may d p 0≠0 then (may d p 0,d) else if fF d p=false then (11,d) else if has d p=true∧(aP d p).dir=false then (12,d) else
  if (aW d).1≠0 then aW d else (0,{ (aW d).2 with L:=put p qFi d.L,n:=d.n + 1 })
def dR (d:Dk) (p s:ByteArray):Int × Dk :=
 if may d p 1≠0 then (may d p 1,d) else if fF d p=false then (11,d) else if (aP d p).dir=true then (12,d) else if jY d p ((s.size:Int) - (aP d p).data.size)=false then (13,d) else
  if (aW d).1≠0 then aW d else (0,jJ (aW d).2 p { aP d p with data:=s,loose:=true,anew:=true })
def gH (d:Dk) (p:ByteArray):Int:=if may d p 1≠0 then may d p 1 else if has d p=false then 11 else if (aP d p).dir=true then 12 else 0
def append (d:Dk) (p s:ByteArray):Int × Dk :=
 if gH d p≠0 then (gH d p,d) else if jY d p s.size=false then (13,d) else if (aW d).1≠0 then aW d else
  (0,jJ (aW d).2 p { aP d p with data:=(aP d p).data ++ s,loose:=true })
def zRy (d:Dk) (p:ByteArray):Int × Dk :=
 if gH d p≠0 then (gH d p,d) else if (aW d).1≠0 then aW d else
  (0,{ (aW d).2 with L:=put p { aP d p with kept:=(aP d p).data,loose:=false,anew:=false } d.L,n:=d.n + 1 })
def eC (d:Dk) (a b:ByteArray):Int × Dk :=
 let e:=if may d a 1=0 then may d b 1 else may d a 1
 if e≠0 then (e,d) else
  let x:=aP d a
  let y:=aP d b
  let more:Int:=if vol a=vol b then -(y.data.size:Int) else x.data.size - y.data.size
  if has d a=false∨fF d b=false then (11,d) else if x.dir=true∨y.dir=true then (12,d) else if a≠b∧jY d b more=false then (13,d) else
   if (aW d).1≠0 then aW d else (0,jJ { (aW d).2 with L:=del a d.L } b x)
def zPl (d:Dk) (v:ByteArray) (k:Int):Int × Dk:=if k < 0 then (1,d) else if pOk v 1=false then (10,d) else (0,{ d with R:=put v k d.R,m:=d.m + 1 })
def nH (d:Dk) (p:ByteArray):ByteArray × Int:=if d.down then (ByteArray.empty,14) else if has d p=false then (ByteArray.empty,11) else if (aP d p).dir=true then (ByteArray.empty,12) else ((aP d p).data,0)
def fD (d:Dk) (p:ByteArray):Int:=if has d p=false then 0 else if (aP d p).dir=true then 1 else 2
section
variable {α:Type}
def eU (L:List (ByteArray × α)):Prop:=L.Pairwise fun a b=>blt a.1 b.1=true
theorem qAf {s:ByteArray} {x:α} {e:ByteArray × α}:∀ {L:List (ByteArray × α)},e ∈ put s x L→e=(s,x)∨e ∈ L
|[],h=>by simp only [put,List.mem_singleton] at h;exact .inl h
|(t,y) :: r,h=>by
  simp only [put] at h;split at h
  ·rcases List.mem_cons.1 h with h|h
   ·exact .inl h
   ·exact .inr (List.mem_cons_of_mem _ h)
  ·split at h
   ·rcases List.mem_cons.1 h with h|h
    ·exact .inl h
    ·exact .inr h
   ·rcases List.mem_cons.1 h with h|h
    ·exact .inr (by simp [h])
    ·rcases qAf h with h|h
     ·exact .inl h
     ·exact .inr (List.mem_cons_of_mem _ h)
theorem qHv {s:ByteArray} {e:ByteArray × α}:∀ {L:List (ByteArray × α)},e ∈ del s L→e ∈ L
|[],h=>by simp [del] at h
|(t,y) :: r,h=>by
  simp only [del] at h;split at h
  ·exact List.mem_cons_of_mem _ (qHv h)
  ·rcases List.mem_cons.1 h with h|h
   ·simp [h]
   ·exact List.mem_cons_of_mem _ (qHv h)
theorem nF (s:ByteArray) (x:α):∀ {L:List (ByteArray × α)},eU L→eU (put s x L)
|[],_=>by simp [put,eU]
|(t,y) :: r,h=>by
  obtain ⟨h1,h2⟩:=List.pairwise_cons.1 h;simp only [put];split
  ·rename_i e;subst e;exact List.pairwise_cons.2 ⟨h1,h2⟩
  ·rename_i hne;split
   ·rename_i hb;refine List.pairwise_cons.2 ⟨fun e he=>?_,h⟩
    rw [rX] at hb
    rcases List.mem_cons.1 he with rfl|he
    ·exact hb
    ·exact sX hb (h1 e he)
   ·rename_i hb;rw [rX] at hb;refine List.pairwise_cons.2 ⟨fun e he=>?_,nF s x h2⟩
    rcases qAf he with rfl|he
    ·rcases qH7 t s with h|h|h
     ·exact h
     ·exact absurd h hne
     ·exact absurd h hb
    ·exact h1 e he
theorem qCw (s:ByteArray):∀ {L:List (ByteArray × α)},eU L→eU (del s L)
|[],_=>by simp [del,eU]
|(t,y) :: r,h=>by
  obtain ⟨h1,h2⟩:=List.pairwise_cons.1 h;simp only [del];split
  ·exact qCw s h2
  ·exact List.pairwise_cons.2 ⟨fun e he=>h1 e (qHv he),qCw s h2⟩
theorem cP {s:ByteArray} {x:α}:∀ {L:List (ByteArray × α)},aS L s=some x→(s,x) ∈ L
|[],h=>by simp [aS] at h
|(t,y) :: r,h=>by
  simp only [aS] at h;split at h
  ·rename_i e;subst e;simp only [Option.some.injEq] at h;simp [h]
  ·exact List.mem_cons_of_mem _ (cP h)
theorem dX {s:ByteArray} {x:α}:∀ {L:List (ByteArray × α)},eU L→(s,x) ∈ L→aS L s=some x
|[],_,h=>by simp at h
|(t,y) :: r,hR,h=>by
  obtain ⟨h1,h2⟩:=List.pairwise_cons.1 hR;simp only [aS]
  rcases List.mem_cons.1 h with h|h
  ·cases h;rw [if_pos rfl]
  ·rw [if_neg (fun e=>by subst e;have:=h1 _ h;rw [jT] at this;cases this)]
   exact dX h2 h
end
theorem qUb (x:Itm):qDv x.val=x.hv:=rfl
def tot:List (ByteArray × Itm)→Int
|[]=>0
|(_,x) :: r=>(x.data.size:Int) + tot r
def mC (left:List UInt8→Bool) (v:ByteArray):List (ByteArray × Itm)→Int
|[]=>0
|(p,x) :: r=>(if left p.data.toList=false∧vol p=v then (x.data.size:Int) else 0) + mC left v r
theorem qBp:∀ L,0≤tot L
|[]=>Int.le_refl _
|(_,x) :: r=>by have:=qBp r;rw [tot];omega
theorem qCa (left:List UInt8→Bool) (v:ByteArray):∀ L,0≤mC left v L∧mC left v L≤tot L
|[]=>⟨Int.le_refl _,Int.le_refl _⟩
|(p,x) :: r=>by
  have:=qCa left v r
  rw [mC,tot];split <;> omega
theorem qJd {left:List UInt8→Bool} (v:ByteArray):∀ {L:List (ByteArray × Itm)},(∀ e ∈ L,left e.1.data.toList=true)→mC left v L=0
|[],_=>rfl
|(p,x) :: r,h=>by
  rw [mC,qJd v fun e he=>h e (List.mem_cons_of_mem _ he),if_neg (by simp [h (p,x) (by simp)])];rfl
theorem qEv {left:List UInt8→Bool} (v:ByteArray) (h:∀ s,left s=false):∀ (L:List (ByteArray × Itm)),mC left v L=qK v L
|[]=>rfl
|(p,x) :: r=>by
  rw [mC,qK,qEv v h r];simp [h]
theorem kE {a b:ByteArray} (h:a.data.toList=b.data.toList):a=b:=by rw [← iZ a,← iZ b,h]
theorem qJc {left:List UInt8→Bool} {s v:ByteArray}:∀ {L:List (ByteArray × Itm)},(∀ e ∈ L,e.1≠s)→mC (fun q=>left q && !(q == s.data.toList)) v L=mC left v L
|[],_=>rfl
|(p,x) :: r,h=>by
  rw [mC,mC,qJc fun e he=>h e (List.mem_cons_of_mem _ he)]
  have:(p.data.toList == s.data.toList)=false:=beq_eq_false_iff_ne.2 fun e=>h (p,x) (by simp) (kE e)
  simp [this]
theorem qJb {left:List UInt8→Bool} {s v:ByteArray} {x:Itm} (hl:left s.data.toList=true):∀ {L:List (ByteArray × Itm)},eU L→(s,x) ∈ L →
  mC (fun q=>left q && !(q == s.data.toList)) v L=mC left v L + (if vol s=v then (x.data.size:Int) else 0)
|[],_,h=>by simp at h
|(p,y) :: r,hR,h=>by
  obtain ⟨h1,h2⟩:=List.pairwise_cons.1 hR;rw [mC,mC]
  by_cases e:p=s
  ·subst e
   have hm:(p,x)=(p,y):=by
    rcases List.mem_cons.1 h with h|h
    ·exact h
    ·have:=h1 _ h;rw [jT] at this;cases this
   cases hm
   rw [qJc fun e he=>fun e'=>by have:=h1 e he;rw [e',jT] at this;cases this]
   simp [hl];omega
  ·have hm:(s,x) ∈ r:=by
    rcases List.mem_cons.1 h with h|h
    ·cases h;exact absurd rfl e
    ·exact h
   rw [qJb hl h2 hm]
   have:(p.data.toList == s.data.toList)=false:=beq_eq_false_iff_ne.2 fun e'=>e (kE e')
   simp [this];omega
theorem zAu {s:ByteArray} {x:Itm}:∀ {L:List (ByteArray × Itm)},(s,x) ∈ L→(x.data.size:Int)≤tot L
|[],h=>by simp at h
|(p,y) :: r,h=>by
  have:=qBp r
  rcases List.mem_cons.1 h with h|h
  ·cases h;rw [tot];omega
  ·have:=zAu h;rw [tot];omega
theorem lF (d:Dk) (p:ByteArray):((aP d p).data.size:Int)≤tot d.L:=by
 unfold aP
 cases h:aS d.L p with
|none=>exact qBp _
|some x=>exact zAu (cP h)
structure Dk.Ok (d:Dk) (B:Int):Prop where
 rise:eU d.L
 keys:∀ e ∈ d.L,e.1.size≤1048576
 size:tot d.L≤B
 n:(d.n:Int)≤B
 m:(d.m:Int)≤B
 steps:0≤d.steps∧d.steps≤B
 stamps:0≤d.stamps∧d.stamps≤B
 armed:-1≤d.armed∧d.armed≤9223372036854775807
end Go.Dk
end
