/- What the walk of the law stands on. -/
import Derived.Test.YtjljkgeeimploaaGreatDoorQf
import Derived.Laws.RangeAny
import Derived.Shelf.SlSortCmp.WholeK
import Derived.Shelf.SlSortCmp.NoneTotal
set_option linter.defProp false
set_option maxRecDepth 20000
set_option maxHeartbeats 8000000
namespace Go.Eng
open Go Go.RowKit Go.Maps
section
variable {P:Program} {N:Nat} {c:Ctx} {S S':HS} {g g':MS} {Q Q':uF} {l:Env} {look:Nat→Option Value} {w w':World} {ρ ρ':Nat→Value} {xs:Nat→List Value} {A A':Nat→Prop} {n0 n1:Nat}
end
def HWM (P:Program) (N:Nat) (x:Code) (Q:uF) (g:MS) (S:HS):Prop :=
 ∀ (c:Ctx) (l:Env) (w:World),Inv c S (lk l) w→MsOk P c w g→W P N x (fun e l' w'=>∃ S' g',Inv c S' (lk l') w'∧MsOk P c w' g'∧Q e g' S') l w
def msQ (K:MS→HS→Prop) (Q:uF):uF
|.normal,g,S=>K g S
|e,g,S=>Q e g S
def mbQ (id:Nat) (Q:uF):uF
|.exit id',g,S=>if id'=id then Q .normal g S else Q (.exit id') g S
|e,g,S=>Q e g S
section
variable {P:Program} {N:Nat} {S S':HS} {g g':MS} {Q Q':uF}
theorem HWM.mono {x:Code} (h:HWM P N x Q g S) (hq:∀ e g S,Q e g S→Q' e g S):HWM P N x Q' g S:=fun c l w I M =>
 (h c l w I M).mono fun e' l' w' ⟨S',g',I',M',q⟩=>⟨S',g',I',M',hq _ _ _ q⟩
theorem qW5 {x:Code} (h:HW P N x (fun e S'=>Q e g S') S):HWM P N x Q g S:=fun c l w I M=>by
 obtain ⟨c1,I1,back⟩:=qNn I M;exact (h c1 l w I1).mono fun e' l' w' ⟨S',I',q⟩=>by
  obtain ⟨I2,M2⟩:=back S' _ _ I';exact ⟨S',g,I2,M2,q⟩
theorem qSq {id:Nat} {ops:List Oper} (h:HVM P N ops Q ops g S):HWM P N (.region id ops.toArray false) Q g S:=fun c l w I M hk F=>wpIn_region_lit (h c F l w hk I M)
theorem dG {id:Nat} {ops:List Oper} (h:∀ K:HS→Prop,(∀ S',Q .normal g S'→K S')→HV2 P N (cJ ops) K ops S):HWM P N (.region id ops.toArray false) Q g S :=
 qW5 (zJ fun K hK=>h K hK)
theorem bD {x y:Code} (h:HWM P N x (msQ (fun g S=>HWM P N y Q g S) Q) g S):HWM P N (.seq x y) Q g S:=fun c l w I M =>
 aF ((h c l w I M).mono fun e' l' w' ⟨S',g',I',M',q⟩=>by
  cases e' with
 |normal=>exact q c l' w' I' M'
 |_=>exact ⟨S',g',I',M',q⟩)
theorem bC {id:Nat} {x:Code} (h:HWM P N x (mbQ id Q) g S):HWM P N (.block id x) Q g S:=fun c l w I M =>
 eC ((h c l w I M).mono fun e' l' w' ⟨S',g',I',M',q⟩=>by
  cases e' with
 |exit id' =>
   simp only [qMi];simp only [mbQ] at q;split
   ·rename_i e1;rw [g8 e1] at q;exact ⟨S',g',I',M',q⟩
   ·rename_i e1;rw [b7 e1] at q;exact ⟨S',g',I',M',q⟩
 |_=>exact ⟨S',g',I',M',q⟩)
theorem qW6 {x:Operand} {a b:Code} {t:Bool} (hx:hev S.env x=some (.v (.bool t))) (ht:t=true→HWM P N a Q g S) (hf:t=false→HWM P N b Q g S):HWM P N (.cond x a b) Q g S:=fun c l w ⟨ρ,xs,G⟩ M=>by
 obtain ⟨v,h1,h2⟩:=G.ev (bM _ l) hx
 have:=bL h2
 subst this;exact dZ h1 (fun e1=>ht e1 c l w ⟨ρ,xs,G⟩ M) (fun e1=>hf e1 c l w ⟨ρ,xs,G⟩ M)
theorem qBc {x:Operand} {a b:Code} (hx:hev S.env x=some (.v (.bool true))) (ht:HWM P N a Q g S):HWM P N (.cond x a b) Q g S:=qW6 hx (fun _=>ht) (fun h=>by cases h)
theorem qY {x:Operand} {a b:Code} (hx:hev S.env x=some (.v (.bool false))) (hf:HWM P N b Q g S):HWM P N (.cond x a b) Q g S:=qW6 hx (fun h=>by cases h) (fun _=>hf)
theorem sT {x:Code} (ks ids:List Nat) {S':HS} (he:S.keep ks ids=S') (h:HWM P N x Q g S'):HWM P N x Q g S:=fun c l w I M=>h c l w (by rw [← he];exact I.keep ks ids) M
theorem aX (h:Q .normal g S):HWM P N .skip Q g S:=fun c l w I M=>aA ⟨S,g,I,M,h⟩
theorem gN {id:Nat} (h:Q (.exit id) g S):HWM P N (.exit id) Q g S:=fun c l w I M=>bW ⟨S,g,I,M,h⟩
theorem jR (h:Q .ret g S):HWM P N .ret Q g S:=fun c l w I M=>dB ⟨S,g,I,M,h⟩
theorem aL {K:MS→HS→Prop} (h:K g S):msQ K Q .normal g S:=h
theorem jK {K:MS→HS→Prop} (h:Q .ret g S):msQ K Q .ret g S:=h
theorem gG {K:MS→HS→Prop} {id:Nat} (h:Q (.exit id) g S):msQ K Q (.exit id) g S:=h
theorem aM {id:Nat} (h:Q .normal g S):mbQ id Q .normal g S:=h
theorem jL {id:Nat} (h:Q .ret g S):mbQ id Q .ret g S:=h
theorem gJ {id:Nat} (h:Q .normal g S):mbQ id Q (.exit id) g S:=by simp only [mbQ,bBm];exact h
theorem fA {id id':Nat} (hne:(id' == id)=false) (h:Q (.exit id') g S):mbQ id Q (.exit id') g S:=by simp only [mbQ];rw [b7 (by simpa using hne)];exact h
theorem qMo {ι:Type} {x:Code} (E:ι→HS) (G:ι→MS) (J:ι→Prop) (μ:ι→Nat) (ks ids:List Nat) (i:ι) (h0:S.keep ks ids=E i) (hg:g=G i) (hI:J i)
  (round:∀ i,J i→HWM P N x (msQ (fun g' S'=>∃ j,S'.keep ks ids=E j∧g'=G j∧J j∧μ j < μ i) Q) (G i) (E i)):HWM P N (.loop x) Q g S:=fun c l w Iv M=>by
 refine oU (ι:=ι × Env) (fun p=>p.2) (fun p w=>Inv c (E p.1) (lk p.2) w∧MsOk P c w (G p.1)∧J p.1) (fun p=>μ p.1) ks (i,keep ks l) rfl ⟨?_,by rw [← hg];exact M,hI⟩ ?_
 ·rw [← h0];exact (Iv.keep ks ids).agree fun k h hk=>oX (oM hk).1
 ·rintro ⟨j,l1⟩ w1 ⟨I1,M1,hj⟩;refine (round j hj c l1 w1 I1 M1).mono fun e' l' w' ⟨S',g',I',M',q⟩=>?_
  cases e' with
 |normal =>
   obtain ⟨j',hE,hG,hI',hμ⟩:=q;refine ⟨(j',keep ks l'),rfl,⟨?_,by rw [← hG];exact M',hI'⟩,hμ⟩
   rw [← hE];exact (I'.keep ks ids).agree fun k h hk=>oX (oM hk).1
 |_=>exact ⟨S',g',I',M',q⟩
end
section
variable {P:Program} {N:Nat} {S:HS} {g:MS} {Q:uF}
theorem zTo {Qp:qBa} {l:Env} {w:World} {id:Nat} {ops:List Oper} (keys:List Nat) (n:Nat) (hm:P.follows .mixedOrders=true) (cN:tN l=keys) (hok:yY keys ops n=true) (hlt:DLt N ops n)
  {C:World→Prop} {R:Nat→Value→World→Prop} (hC:C w.drew) {Le:Nat→World→World→Prop} (hLe:∀ i w,Le i w w) (hS:∀ j i u w w',j < n→i < n→j≠i→C w→R j u w→Le i w w'→R j u w')
  (H:∀ i o,i < n→ops[i]?=some o→∀ (vs:Nat→Value) (w:World),C w→(∀ j t,j < i→aZ ops j=some t→t ∈ o.looksAt ops.toArray→R j (vs j) w) →
   ∃ b,gd (iG l ops vs i) (cJ ops) o.guard (·=b)∧(b=true→Yields P (execOp (evD (iG l ops vs i)) o) w fun u w'=>R i u w'∧C w'∧Le i w w')∧(b=false→R i undef w))
  (hT:∀ (F:Fr N) (vs:Nat→Value) (w:World),cC N (iG l ops vs n)=true→C w→(∀ j,j < n→R j (vs j) w)→wpListIn (FW F.ds.2) 0 P ops.toArray (qZw N F.ds Qp) (ops.drop n) (mk F (iG l ops vs n)) w):W P N (.region id ops.toArray true) Qp l w:=fun hk F=>by
 have ok:=rK hok
 refine bEg hm ?_
 have:=qPw ok F hk (fun t ht=>vS (by rw [cN];exact ht)) hlt hLe hS H (Q:=qZw N F.ds Qp)
  (fun vs w' hw' hR=>hT F vs w' (qCf hlt hk n (a7 _)) hw' hR)
  ops.length (Array.replicate ops.length false) (mk F l) w.drew (fun _=>undef) (oW _)
  ⟨by simp,(fun i j hi=>by rw [x9] at hi;cases hi),(fun i hi=>by rw [x9] at hi;cases hi),rfl,by simp [mk,mN,F.hN],(fun j t _ hl=>by rw [x9] at hl;cases hl),fun t _=>rfl,hC⟩
  (fun j _ hl=>by rw [x9] at hl;cases hl)
 simpa using this
theorem zZy {id:Nat} {ops:List Oper} (n:Nat) (hm:P.follows .mixedOrders=true) (hok:yY (cN S.env) ops n=true)
  (h:∀ K1:HS→Prop,(∀ S',HVM P N ops Q (ops.drop n) g S'→K1 S')→HVr P N (cJ ops) K1 (ops.take n) S):HWM P N (.region id ops.toArray true) Q g S:=fun c l w I M=>by
 have hks:∀ k ∈ cN S.env,∃ v,lk l k=some v:=fun k hk=>by
  obtain ⟨x,hx⟩:=wM hk;obtain ⟨ρ,xs,G⟩:=I;obtain ⟨v,h1,-⟩:=G.env k x hx;exact ⟨v,h1⟩
 refine qGz (cN S.env) ?_
 have I':Inv c S (lk (keep (cN S.env) l)) w:=I.agree fun k x hk=>oX (qCb hk)
 have hkk:tN (keep (cN S.env) l)=cN S.env:=xR hks
 generalize keep (cN S.env) l=l' at I' hkk;obtain ⟨ρ,xs,G⟩:=I'
 have ok:=rK hok
 have hlen:(ops.take n).length=n:=by rw [l7];have:=ok.hn;omega
 have get_take:∀ {i:Nat} {o:Oper},(ops.take n)[i]?=some o→i < n∧ops[i]?=some o:=fun {i o} h=>by
  have hi:=(i5.1 h).1
  rw [hlen] at hi;rw [o6 hi] at h;exact ⟨hi,h⟩
 obtain ⟨hs,-,heads,S1,e1,F1,h1⟩:=qG0 (E0:=S.env) (st:=S.st) (ops.take n) 0 S (fun _=>.junk) (fun k o hk=>by rw [s7];exact (get_take hk).2) rfl (fun t x hx=>.inr ⟨fun j hj=>absurd hj (y5 _),hx⟩) (h _ fun _ h=>h)
 rw [hlen,s7] at F1
 have head:∀ i o,i < n→ops[i]?=some o→HeadOk P N ops S.env S.st hs i o:=fun i o hi ho=>by
  have:=heads i o (by rw [o6 hi];exact ho)
  rw [s7] at this;exact this
 have uniq:∀ i j t,i < n→j < n→aZ ops i=some t→aZ ops j=some t→i=j:=by
  intro i j t hi hj h1 h2
  rcases bAw i j with h|h|h
  ·rcases ok.uniq j i hj h with e|e
   ·rw [h2] at e;cases e
   ·exact absurd (h2.trans h1.symm) e
  ·exact h
  ·rcases ok.uniq i j hi h with e|e
   ·rw [h1] at e;cases e
   ·exact absurd (h1.trans h2.symm) e
 have hlt:DLt N ops n:=fun i t hi hd=>by
  obtain ⟨o,ho,hod⟩:=xW hd
  have:=(head i o hi ho).lt
  rw [hod] at this;exact this
 have frame:∀ (vs:Nat→Value) (w':World) (i:Nat) (E:aT),i≤n→Below w.heap.size w w'→FrOk ops S.env hs i E →
   (∀ j t x,j < i→aZ ops j=some t→hlk E t=some x→RepH w' (c.A ρ S.st) c.n0 ρ (vs j) (hs j))→Good c ⟨E,S.st⟩ (lk (iG l' ops vs i)) w' ρ xs:=fun vs w' i E hi hB F hv=>by
  have GB:=G.below hB
  refine ⟨GB.rows,GB.apart,fun k x hk=>?_,GB.kept,GB.a0⟩
  rcases F k x hk with ⟨j,a,b,d⟩|⟨a,b⟩
  ·refine ⟨vs j,(nN (l:=l') (vs:=vs) hlt (base:=Array.replicate N undef) (by simp) b (fun q hq hne e=>hne (uniq q j k hq (by omega) e b)) i hi a).1,?_⟩
   rw [← d];exact hv j k x a b hk
  ·obtain ⟨v,v1,v2⟩:=GB.env k x b;exact ⟨v,by rw [(pN (l:=l') (vs:=vs) #[] k i a).1];exact v1,v2⟩
 refine zTo (cN S.env) n hm hkk hok hlt (C:=fun w'=>Below w.heap.size w w') (R:=fun j u w'=>RepH w' (c.A ρ S.st) c.n0 ρ u (hs j)) (Below.refl _ _).drew (Le:=fun _ w w'=>Below w.heap.size w w') (fun _ w=>Below.refl _ _) (fun j _ u w1 w2 _ _ _ _ hr hB=>hr.above hB) ?_ ?_
 ·intro i o hi ho vs w1 hC hR;obtain ⟨T,TF,TS,run⟩:=(head i o hi ho).head
  have GT:Good c ⟨T,S.st⟩ (lk (iG l' ops vs i)) w1 ρ xs:=frame vs w1 i T (by omega) hC TF fun j t x hj hd hx=>hR j t hj hd (tJ (TS t x hx))
  obtain ⟨b,b1,b2,b3⟩:=run c _ w1 ρ xs GT;refine ⟨b,b1,fun hb=>?_,fun hb=>?_⟩
  ·exact (oV (fun x X hx=>by simp [evD,hx]) (b2 hb)).mono fun u w2 ⟨hu,hB⟩=>⟨hu,hC.trans (hB.mono hC.size),hB⟩
  ·rw [b3 hb];exact .v _
 ·intro F vs w1 hk1 hC hR;obtain ⟨E1,st1⟩:=S1
  have e1:st1=S.st:=e1
  subst e1
  have G1:=frame vs w1 n E1 (a7 _) hC F1 fun j t x hj _ _=>hR j hj
  exact h1 c F _ w1 hk1 ⟨ρ,xs,G1⟩ (M.block fun b hb _=>hC.block b hb.lt)
def bsL (g:MS):List Nat:=g.flatMap MO.bs
def HFunM (P:Program) (f:FuncId) (args:List HV) (st:aC) (g:MS) (Q:HV→aC→MS→Prop):Prop :=
 ∀ (c:Ctx) (w:World) (ρ:Nat→Value) (xs:Nat→List Value) (vs:List Value),c.w0=w→Good c ⟨[],st⟩ (fun _=>none) w ρ xs→MsOk P c w g→pX w (c.A ρ st) c.n0 ρ vs args →
  Calls P f vs.toArray w (Ret fun v w'=>∃ h st' g' ρ' xs',(∀ i r,rlk st' i=some r→i < 8)∧(∀ j,uP (rlk st j)→uP (rlk st' j))∧(∃ m,bsL g'=bsL g ++ m)∧Q h st' g'∧Good c ⟨[],st'⟩ (fun _=>none) w' ρ' xs'∧MsOk P c w' g'∧RepH w' (c.A ρ' st') c.n0 ρ' v h)
theorem HFunM.mono {f:FuncId} {args:List HV} {st:aC} {R R':HV→aC→MS→Prop} (h:HFunM P f args st g R) (hq:∀ h st g,R h st g→R' h st g):HFunM P f args st g R' :=
 fun c w ρ xs vs hw G M hr=>Ret.mono (h c w ρ xs vs hw G M hr) fun v w' ⟨x,st',g',ρ',xs',a,b,d,q,r⟩=>⟨x,st',g',ρ',xs',a,b,d,hq _ _ _ q,r⟩
theorem yEg {x:Code} {Qh:dP} (h:HWM P N x (fun e _ S=>Qh e S) [] S):HW P N x Qh S:=fun c l w I =>
 (h c l w I ⟨fun i m hi=>by simp at hi,fun i j m m' b _ hi=>by simp at hi,fun i m b hi=>by simp at hi⟩).mono fun e l' w' ⟨S',g',I',_,q⟩=>⟨S',I',q⟩
end
end Go.Eng
namespace Go.Eng
open Go Go.RowKit
inductive PlainH:HV→Prop
|v (x:Value):PlainH (.v x)
|tup (xs:List Value):PlainH (.tup (xs.map .v))
section
variable {P:Program} {N:Nat} {w w':World} {A A':Nat→Prop} {n0 n1:Nat} {ρ ρ':Nat→Value}
theorem RepH.plain {v:Value} {h:HV} (hr:RepH w A n0 ρ v h) (hp:PlainH h):RepH w' A' n1 ρ' v h:=by
 cases hp with
|v x=>have:=bL hr;subst this;exact .v _
|tup xs =>
  cases hr with
 |tup hn h =>
  refine .tup hn fun j a b=>?_
  have:=h j a b
  simp only [d9] at this ⊢
  have e:=bL this
  rw [e];exact .v _
end
section
variable {P:Program} {N:Nat} {c:Ctx} {S:HS} {look:Nat→Option Value} {w w':World} {ρ:Nat→Value} {xs:Nat→List Value}
theorem Good.upds (h:Good c S look w ρ xs) (id:Nat) (r0 r:Row) (ys:List Value) (hs:w.heap.size≤w'.heap.size) (hos:w'.os=w.os) (htape:w'.tape=w.tape) (hout:w'.output=w.output)
  (hr0:rlk S.st id=some r0) (hnw:r.nw=r0.nw) (hb:∀ b,b < w.heap.size→(ρ id).ownBlock≠some b→w'.heap[b]?=w.heap[b]?)
  (st':aC) (hst:∀ i,rlk st' i=if i=id then some r else rlk S.st i)
  (hrow:RowOk w' (c.A ρ st') c ρ id r ys) :
  Good c ⟨S.env,st'⟩ look w' ρ (fun i=>if i=id then ys else xs i):=by
 have hA:∀ b,c.A ρ st' b→c.A ρ S.st b:=by
  rintro b (h0|⟨i,s,hi,hbi⟩)
  ·exact .inl h0
  ·right
   rw [hst] at hi
   by_cases e:i=id
   ·subst e;exact ⟨i,r0,hr0,hbi⟩
   ·rw [b7 e] at hi;exact ⟨i,s,hi,hbi⟩
 have hb':∀ b,b < w.heap.size→¬ c.A ρ S.st b→w'.heap[b]?=w.heap[b]?:=fun b hl hn=>hb b hl fun e=>hn (.inr ⟨id,r0,hr0,e⟩)
 have tr:∀ v x,RepH w (c.A ρ S.st) c.n0 ρ v x→RepH w' (c.A ρ st') c.n0 ρ v x:=fun v x hv=>hv.up hs hb' (fun b _=>hA b) (a7 _)
 have back:∀ i s,rlk st' i=some s→∃ s0,rlk S.st i=some s0:=by
  intro i s hi;rw [hst] at hi
  by_cases e:i=id
  ·subst e;exact ⟨r0,hr0⟩
  ·rw [b7 e] at hi;exact ⟨s,hi⟩
 refine ⟨?_,?_,?_,?_,h.a0⟩
 ·intro i s hi;rw [hst] at hi
  by_cases e:i=id
  ·subst e;rw [g8 rfl] at hi;simp only [a6] at hi;subst hi;rw [g8 rfl];exact hrow
  ·rw [b7 e] at hi;rw [b7 e];exact (h.rows i s hi).up hs hb' (fun b _=>hA b) (fun b hbi=>hb b (h.lt hi hbi) fun e2=>h.apart i id s r0 b e hi hr0 hbi e2)
 ·intro i j ri rj b hne hi hj hbi hbj;obtain ⟨s0,h1⟩:=back i ri hi;obtain ⟨s1,h2⟩:=back j rj hj;exact h.apart i j s0 s1 b hne h1 h2 hbi hbj
 ·intro k x hk;obtain ⟨v,h1,h2⟩:=h.env k x hk;exact ⟨v,h1,tr v x h2⟩
 ·refine h.kept.trans (T':=fun b=>(ρ id).ownBlock=some b) ⟨hos,htape,hout,hs,fun b hlt hn=>hb b hlt hn⟩ fun b hlt e=>?_
  rcases ((h.rows id r0 hr0).new b e).1 with hge|hT
  ·omega
  ·exact hT
theorem qH8 {f:FuncId} {args args':List HV} {xs:List Value} {K:HV→HS→Prop} (hc:aB P f=true) (H:HFun P f args' (fun h st=>h=.tup (xs.map .v))) (hl:Lends S.st args args') (hK:K (.tup (xs.map .v)) S):HAt P f args S K :=
 ⟨hc,fun c look w ρ xs' vs G R=>Ret.mono (H w vs (mR G R hl)) fun v w' ⟨B,h,st,h8,q,ρ',xs',G',hr⟩=>⟨_,_,hK,ρ,_,G.below B,by subst q;exact hr.plain (.tup xs)⟩⟩
end
end Go.Eng
namespace Go.Proofs.Y
open Go Go.Eng Go.RowKit Go.Tr
def zMj (t:List Ent) (p:Ba) (hr:rise t) (hl:t.length≤140737488355328):HFun Tryz.prog 56 [.lst false (aG t),.v (.string p),.v (.func (.func 57) #[] #[])] (fun h st=>h=.tup [.v (.int .i64 (dE t p)),.v (.bool (nV t p))]):=by
 refine bP (N:=49) Tryz.func56 rfl Tryz.ntmps56 Tryz.results56 (by simp) ?_
 obtain ⟨p1,p2⟩:=qDh hr p
 have pl:=zPf t p
 refine goA 7 ?_;push_cast[yV];refine goL (fun x:Nat × Nat=>⟨[(0,.lst false (aG t)),(1,.v (.string p)),(2,.v (.func (.func 57) #[] #[])),(8,.v (.int .i64 t.length)),(9,.v (.int .i64 x.1)),(10,.v (.int .i64 x.2))],[]⟩)
  (fun x=>x.1≤dE t p∧dE t p≤x.2∧x.2≤t.length) (fun x=>x.2 - x.1) [0,1,2,8,9,10] [] (0,t.length) rfl ⟨g7 _,pl,a7 _⟩ ?_
 rintro ⟨i,j⟩ ⟨h1,h2,h3⟩;simp only at h1 h2 h3
 by_cases hlt:i < j
 ·refine goA 3 ?_;push_cast(disch:=omega);obtain ⟨m,hm⟩:∃ m,m=(i + j) / 2:=⟨_,rfl⟩
  have he:IntKind.i64.wrap ((IntKind.u64.wrap ((i:Int) + j)).fdiv (2 ^ min 1 IntKind.u64.bits))=(m:Int):=by
   have hw:IntKind.u64.wrap ((i:Int) + j)=(i:Int) + j:=by rw [IntKind.wrap_u64];omega
   rw [hw,show (2 ^ min 1 IntKind.u64.bits:Int)=2 from rfl,Int.fdiv_eq_ediv_of_nonneg _ (by omega)]
   rw [show ((i:Int) + j) / 2=(m:Int) by omega]
   exact qD0 (by omega) (by omega)
  have hmt:m < t.length:=by omega
  refine goA 3 ?_;push_cast(disch:=omega);rw [he];clear he;refine goA 3 ?_;push_cast(disch:=omega)[yV,yU,yW hmt];refine cVt yD2 (qMa t[m] p) (.cons (qLe _) (.cons (.v _) .nil)) ?_
  have hb:=qFi t[m].1 p
  cases hc:blt t[m].1 p with
 |true =>
   rw [hc,bB7] at hb
   have:m < dE t p:=by
    rcases s4 m (dE t p) with h|h
    ·exact h
    ·rw [p2 m hmt h] at hc;cases hc
   push_cast(disch:=omega);refine goA 3 ?_;push_cast(disch:=omega);exact ⟨(m + 1,j),rfl,⟨by dsimp only;omega,h2,h3⟩,by dsimp only;omega⟩
 |false =>
   rw [hc,bA3] at hb
   have:dE t p≤m:=by
    rcases s4 m (dE t p) with h|h
    ·rw [p1 m hmt h] at hc;cases hc
    ·exact h
   push_cast(disch:=omega);refine goA 3 ?_;push_cast;exact ⟨(i,m),rfl,⟨h1,this,by dsimp only;omega⟩,by dsimp only;omega⟩
 ·have hij:i=dE t p∧j=dE t p:=by omega
  obtain ⟨rfl,rfl⟩:=hij;refine goA 3 ?_;push_cast(disch:=omega)
  have th:=pB hr p
  by_cases hp:dE t p < t.length
  ·have hb:=zZm t[dE t p].1 p
   by_cases hc:t[dE t p].1=p
   ·rw [i7 hc,bB7] at hb;rw [i7 ⟨hp,hc⟩] at th;rw [th];refine goA 3 ?_;push_cast(disch:=omega)[yV,yU,yW hp];refine cVt yD2 (qMa t[dE t p] p) (.cons (qLe _) (.cons (.v _) .nil)) ?_;push_cast(disch:=omega);exact lU rfl
   ·rw [b9 hc,bA3] at hb;rw [b9 (fun ⟨_,h⟩=>hc h)] at th
    rw [th];refine goA 3 ?_;push_cast(disch:=omega)[yV,yU,yW hp];refine cVt yD2 (qMa t[dE t p] p) (.cons (qLe _) (.cons (.v _) .nil)) ?_;push_cast(disch:=omega);exact lU rfl
  ·rw [b9 (fun ⟨h,_⟩=>hp h)] at th
   rw [th];refine goA 3 ?_;push_cast(disch:=omega);exact lU rfl
def yDn (t:List Ent) (p:Ba) (hr:rise t) (hl:t.length≤140737488355328):HFun Tryz.prog 41 [.lst false (aG t),.v (.string p)] (fun h st=>h=.tup [.v (.int .i64 (dE t p)),.v (.bool (nV t p))]):=by
 refine bP (N:=11) Tryz.func41 rfl Tryz.ntmps41 Tryz.results41 (by simp) ?_
 refine goA 5 ?_;push_cast;refine qH8 (xs:=[.int .i64 (dE t p),.bool (nV t p)]) yKu (zMj t p hr hl) (.cons (aD (yT _)) (.cons (.v _) (.cons (.v _) .nil))) ?_;with_reducible refine aS ?_;push_cast
 exact lU rfl
def mU (t:List Ent) (p:Ba) (hr:rise t) (hl:t.length≤140737488355328):HFun Tryz.prog 25 [.lst false (aG t),.v (.string p)] (fun h st=>h=cY (aV t p)∧st=[]):=by
 refine bP (N:=20) Tryz.func25 rfl Tryz.ntmps25 Tryz.results25 (by simp) ?_
 rw [zCu hr p];refine goA 7 ?_;push_cast;refine qH8 (xs:=[.int .i64 (dE t p),.bool (nV t p)]) yK6 (yDn t p hr hl) (.cons (aD (yT _)) (.cons (.v _) .nil)) ?_;with_reducible refine aS ?_;push_cast
 have tp:=pB hr p
 by_cases h:dE t p < t.length∧nV t p=true
 ·rw [dif_pos h]
  have hlt:=h.1
  have ht:=h.2
  (try refine tR (fun _=>?_) (fun e=>by rw [ht] at e;cases e))
  refine goA 3 ?_;push_cast(disch:=omega)[yV,yU,yW hlt];exact qCa (n:=t[dE t p].2) ⟨rfl,rfl⟩
 ·rw [dif_neg h]
  have ht:nV t p=false:=by
   cases e:nV t p with
  |false=>rfl
  |true =>
    have tp:=pB hr p
    rw [e] at tp;exact (h ⟨(bB7.1 tp.symm).1,e⟩).elim
  (try refine tR (fun e=>by rw [ht] at e;cases e) (fun _=>?_))
  refine goA 3 ?_;push_cast;exact qCa (n:=qZl) ⟨rfl,rfl⟩
end Go.Proofs.Y
namespace Go.Tr
open Go Go.Eng Go.RowKit Go.Lib
def qZb {s:Ba} (h:s.data.toList.count 47=0):parts s=[s]:=by
 rw [← qD,show countB s stroke=s.data.toList.count 47 from count_one 47 _,h];rfl
def qZa {s:Ba} {k:Nat} (h:s.data.toList.count 47=k + 1):∃ i:Nat,indexByte s.data.toList 47=i∧i < s.size∧parts s=s.extract 0 i :: parts (s.extract (i + 1) s.size)∧(s.extract (i + 1) s.size).data.toList.count 47=k:=by
 have hc:countB s stroke=k + 1:=(count_one 47 _).trans h
 have hi:indexB s stroke=indexByte s.data.toList 47:=index_one _ _
 have h1:1≤stroke.size:=by decide
 rcases indexB_cases s stroke with hx|⟨i,hx,hs⟩
 ·rw [countB_miss s stroke hx] at hc;omega
 ·have hk:=countB_hit s stroke i h1 hx
  have e1:stroke.size=1:=rfl
  rw [e1] at hk hs;rw [hc] at hk
  have hk2:countB (s.extract (i + 1) s.size) stroke=k:=by omega
  refine ⟨i,by rw [← hi];exact hx,by omega,?_,(count_one 47 _).symm.trans hk2⟩
  rw [← qD,← qD,hc,hk2,splitB_hit stroke 0 k s i hx,e1];rfl
def qN7 (s:Ba):(parts s).length=s.data.toList.count 47 + 1:=by
 rw [← qD,splitB_all stroke (by decide) 0 _ s rfl]
 exact congrArg (· + 1) (count_one 47 _)
def qEe (s:Ba):(parts s).length≤s.size + 1:=by
 rw [qN7]
 have:=bD7 (a:=(47:UInt8)) (l:=s.data.toList)
 rw [Lib.size_eq];omega
end Go.Tr
namespace Go.Proofs.Y
open Go Go.Eng Go.RowKit Go.Tr
def qVd (s:Ba):HFun Tryz.prog 100 [.v (.string s),.v (.int .u8 47)] (fun h st=>h=.v (.int .i64 (Lib.indexByte s.data.toList 47))):=by
 refine (pK fun w vs R=>?_).mono fun h st q=>q.1
 obtain ⟨r1,r2⟩:=R
 match vs,r1 with
|[a,b],_ =>
 have ha:=bL (r2 0 (by simp) (by simp))
 have hb:=bL (r2 1 (by simp) (by simp))
 simp only [l6,bAe] at ha hb;subst ha;subst hb;refine (Tryz.stringslite_IndexByte s 47 w).mono ?_;rintro e w' ⟨rfl,rfl⟩;exact kX ⟨rfl,Below.refl _ _⟩
def zY8 (s:Ba):HFun Tryz.prog 144 [.v (.string s),.v (.string { data:=#[47] })] (fun h st=>h=.v (.int .i64 (s.data.toList.count 47:Nat))):=by
 refine (pK fun w vs R=>?_).mono fun h st q=>q.1
 obtain ⟨r1,r2⟩:=R
 match vs,r1 with
|[a,b],_ =>
 have ha:=bL (r2 0 (by simp) (by simp))
 have hb:=bL (r2 1 (by simp) (by simp))
 simp only [l6,bAe] at ha hb;subst ha;subst hb;refine (Tryz.strings_Count_one s 47 w).mono ?_;rintro e w' ⟨rfl,rfl⟩;exact kX ⟨rfl,Below.refl _ _⟩
theorem sY:(({ data:=#[47] }:Ba).size:Int)=1:=rfl
theorem zF7:dK { data:=#[47] } 0=47:=rfl
def qTm (s:Ba):HFun Tryz.prog 80 [.v (.string s),.v (.string { data:=#[47] })] (fun h st=>h=.v (.int .i64 (Lib.indexByte s.data.toList 47))):=by
 refine bP (N:=143) Tryz.func80 rfl Tryz.ntmps80 Tryz.results80 (by simp) ?_
 refine goA 5 ?_;push_cast[sY]
 by_cases h0:({ data:=#[47] }:Ba)=s
 ·have hd:decide (({ data:=#[47] }:Ba)=s)=true:=i7 h0
  refine goA 5 ?_;push_cast[hd];refine aQ ?_;rw [← h0];rfl
 ·have hd:decide (({ data:=#[47] }:Ba)=s)=false:=b9 h0
  refine goA 7 ?_;push_cast[hd,sY,zF7]
  skip
  refine cVt yHj (qVd s) (.cons (.v _) (.cons (.v _) .nil)) ?_;push_cast;exact aQ rfl
def zW5 (s:Ba):HFun Tryz.prog 145 [.v (.string s),.v (.string { data:=#[47] })] (fun h st=>h=.v (.int .i64 (Lib.indexByte s.data.toList 47))):=by
 refine bP (N:=8) Tryz.func145 rfl Tryz.ntmps145 Tryz.results145 (by simp) ?_
 refine goA 5 ?_;push_cast;refine cVt yDz (qTm s) (.cons (.v _) (.cons (.v _) .nil)) ?_;push_cast;exact aQ rfl
def qVh {S:HS} {xs:List (List FV)} {Q:HV→aC→Prop} (hf:∀ x ∈ xs,∀ f ∈ x,FreshF f) (q:Q (.lst true xs) []):qBf S (.lst true xs) Q :=
 ⟨[],by simp,rfl,.lst (.lst hf),fun id h=>by simp at h,by rw [HV.ren];exact q⟩
def zF6:decide (({ data:=#[47] }:Ba)={ data:=#[] })=false:=by decide
def qAc (done:List Ba) (n:Nat):List Ba:=done ++ List.replicate n ByteArray.empty
def zC3 (n:Nat):List.replicate n [FV.v (.string ByteArray.empty)]=aR (qAc [] n):=by simp [qAc,aR,uJ]
def qPs (done:List Ba) (n:Nat):(aR (qAc done n)).length=done.length + n:=by simp [qAc,aR]
def qPr (done:List Ba) (n:Nat) (x:Ba):(aR (qAc done (n + 1))).set done.length [.v (.string x)]=aR (qAc (done ++ [x]) n):=by
 simp [qAc,aR,uJ,bCn]
def qPt (done:List Ba) (n:Nat) {d:List FV}:(aR (qAc done (n + 1))).getD done.length d=[.v (.string ByteArray.empty)]:=by
 simp [qAc,aR,uJ,bCn,b6]
def zCv (s:Ba) (hs:s.size≤1048576):HFun Tryz.prog 115 [.v (.string s),.v (.string { data:=#[47] }),.v (.int .i64 0),.v (.int .i64 (-1))] (fun h st=>h=.lst true (aR (parts s))∧st=[]):=by
 refine bP (N:=66) Tryz.func115 rfl Tryz.ntmps115 Tryz.results115 (by simp) ?_
 obtain ⟨k,hk⟩:∃ k,s.data.toList.count 47=k:=⟨_,rfl⟩
 have hkl:k≤s.size:=by rw [← hk,Lib.size_eq];exact bD7
 have hc:=zY8 s
 rw [hk] at hc;refine goA 13 ?_;push_cast[zF6];refine cVt yAj hc (.cons (.v _) (.cons (.v _) .nil)) ?_;push_cast(disch:=omega);rw [b7 (show ¬ (s.size:Int) + 1 < (k:Int) + 1 by omega)]
 refine goP [0,1,2,3] [] ?_;refine goA 3 ?_;push_cast[zC3];refine ⟨⟨by omega,by omega,by simp only [maxLen];omega⟩,?_⟩
 have ek:(k:Int) + 1 - 1=k:=by omega
 refine goA 5 ?_;push_cast(disch:=omega)[ek];refine goL (fun x:List Ba × Ba=>⟨[(0,.v (.string x.2)),(1,.v (.string { data:=#[47] })),(2,.v (.int .i64 0)),(3,.v (.int .i64 k)),(9,.own 248),(10,.v (.int .i64 x.1.length))],[(248,.sl true 9 1 (aR (qAc x.1 (k + 1 - x.1.length))))]⟩)
  (fun x=>x.1.length≤k∧parts s=x.1 ++ parts x.2∧x.2.data.toList.count 47=k - x.1.length∧x.2.size≤s.size) (fun x=>k - x.1.length) [0,1,2,3,9,10] [248] ([],s) (by push_cast <;> rfl) ⟨g7 _,rfl,by simpa using hk,a7 _⟩ ?_
 rintro ⟨done,r⟩ ⟨h1,h2,h3,h4⟩;simp only at h1 h2 h3 h4
 by_cases hlt:done.length < k
 ·obtain ⟨m,hm⟩:∃ m,k - done.length=m + 1:=⟨k - done.length - 1,by omega⟩
  rw [hm] at h3;obtain ⟨i,i1,i2,i3,i4⟩:=qZa h3
  have ix:=zW5 r
  rw [i1] at ix;refine goA 7 ?_;push_cast(disch:=omega);refine cVt yHc ix (.cons (.v _) (.cons (.v _) .nil)) ?_;push_cast(disch:=omega);rw [show k + 1 - done.length=(m + 1) + 1 by omega]
  refine goA 7 ?_;push_cast(disch:=omega)[qPs,qPr,qPt,Int.add_zero,sY];(repeat ((with_reducible constructor);focus first|omega|decide))
  refine ⟨(done ++ [r.extract 0 i],r.extract (i + 1) r.size),?_,⟨?_,?_,?_,?_⟩,?_⟩
  ·simp only [i8,t7];rw [show k + 1 - (done.length + 1)=m + 1 by omega]
   push_cast
   try rfl
  ·dsimp only;simp;omega
  ·dsimp only;rw [h2,i3];simp
  ·dsimp only;rw [i4];simp;omega
  ·dsimp only;rw [bAl];omega
  ·dsimp only;simp;omega
 ·have hk1:done.length=k:=by omega
  rw [hk1,bBn] at h3
  have hp:=qZb h3
  rw [hp] at h2;refine goA 3 ?_;push_cast(disch:=omega);obtain rfl:=hk1;rw [show done.length + 1 - done.length=0 + 1 by omega]
  refine goA 3 ?_;push_cast(disch:=omega)[qPs,qPr,qPt]
  have e0:qAc (done ++ [r]) 0=parts s:=by rw [h2];simp [qAc]
  rw [e0];refine goR 248 rfl ?_
  have pl:(parts s).length=done.length + 1:=by rw [h2];simp
  have pt:(aR (parts s)).take (done.length + 1)=aR (parts s):=by rw [mJ,m9 (by omega)]
  refine goA 3 ?_;push_cast(disch:=omega)[aJ,bK,pl,pt];exact qVh (fB _) ⟨rfl,rfl⟩
def yA0 (s:Ba) (hs:s.size≤1048576):HFun Tryz.prog 84 [.v (.string s),.v (.string { data:=#[47] })] (fun h st=>h=.lst true (aR (parts s))∧st=[]):=by
 refine bP (N:=8) Tryz.func84 rfl Tryz.ntmps84 Tryz.results84 (by simp) ?_
 refine goA 5 ?_;push_cast;refine cUt 56 yHi (zCv s hs) (.cons (.v _) (.cons (.v _) (.cons (.v _) (.cons (.v _) .nil)))) ?_;push_cast;exact qVh (fB _) ⟨rfl,rfl⟩
end Go.Proofs.Y
namespace Go.Tr
open Go
def zEj (c:UInt8):okC c=(decide (97≤c.toNat∧c.toNat≤122) || decide (48≤c.toNat∧c.toNat≤57) || decide (c.toNat=95)):=by
 have e:∀ a b:UInt8,decide (a≤b)=decide (a.toNat≤b.toNat):=fun a b=>rfl
 have e2:decide (c=95)=decide (c.toNat=95):=by
  rw [bDh];exact ⟨fun h=>by rw [h];rfl,fun h=>bC5.1 h⟩
 rw [okC,e2,Bool.decide_and,Bool.decide_and,e,e,e,e];rfl
def qM (r:Int):Bool:=((decide (r < 97) || decide (122 < r)) && (decide (r < 48) || decide (57 < r))) && !decide (r=95)
def zFg (c:UInt8):qM (c.toNat:Int)=!okC c:=by
 rw [zEj,qM];rw [bAv];simp;omega
def zMm {r:Nat} (h:128≤r):qM (r:Int)=true:=by
 rw [qM];simp;omega
end Go.Tr
namespace Go.Proofs.Y
open Go Go.Eng Go.RowKit Go.Tr
attribute [local push_cast] qGb qB4
theorem zN4 (P:Program) (l:Env) (t:TypeId) (x:Operand):aP P l (.range t x)=none:=rfl
theorem zJw (P:Program) (l:Env) (w:World) (t:TypeId) (x:Operand):imm P l (.range t x) w=.eff:=rfl
theorem zEd (P:Program) (l:Env) (x:Operand) (b:Bool):aP P l (.next x b)=none:=rfl
theorem qVe (P:Program) (l:Env) (w:World) (x:Operand) (b:Bool):imm P l (.next x b) w=.eff:=rfl
def zSs {P:Program} {l:Env} {t ty:TypeId} {x:Operand} {s:Ba} {w:World} {K KL:Value→World→Prop} (hu:qAf P t=true) (hx:ev l x=some (.string s)) (h:KL (.pointer (some ⟨w.heap.size,0,none⟩)) (w.iter s 0)):bZ P l (.range t x) ty w K KL:=by
 refine ⟨fun y hy=>?_,.pointer (some ⟨w.heap.size,0,none⟩),w.iter s 0,?_,h⟩
 ·simp [Op.operands] at hy;subst hy;rw [hx];rfl
 ·have:=run_range_string w t s (qN hu)
  simp [execOp,qNa,evD,hx,this]
def zE6 {P:Program} {l:Env} {ty:TypeId} {x:Operand} {p v:Value} {w w':World} {K KL:Value→World→Prop} (hr:∀ ty,(Instr.next p true ty).run P w=.ok v w') (hx:ev l x=some p) (h:KL v w'):bZ P l (.next x true) ty w K KL:=by
 refine ⟨fun y hy=>?_,v,w',?_,h⟩
 ·simp [Op.operands] at hy;subst hy;rw [hx];rfl
 ·simp [execOp,qNa,evD,hx,hr]
def sN (w:World) (s:Ba) (k:Nat):Below w.heap.size w (w.iter s k):=(Below.refl _ w).alloc (a7 _) _
theorem qP0 (s:Ba) (i:Nat) (h:i < s.size):s.data.toList[i]'(by rw [← Lib.size_eq];exact h)=s[i]:=rfl
def qZr (s:Ba) (hs:s.size≤1048576) (w:World):Calls Tryz.prog 85 #[.string s] w (Ret fun r w'=>r=.bool (eG s)∧Below w.heap.size w w'):=by
 refine nQ (args:=[_]) Tryz.func85 rfl Tryz.ntmps85 Tryz.results85 (by simp) ?_
 (repeat first|refine aF ?_|refine zV ?_|refine aA ?_|refine zY ?_);refine bF (fun K hK=>?_);push_cast;refine hK _ _ ?_;clear hK K
 by_cases h0:s={ data:=#[] }
 ·have hd:decide (s={ data:=#[] })=true:=i7 h0
  (repeat first|refine aF ?_|refine zV ?_|refine aA ?_|refine zY ?_);refine bF (fun K hK=>?_);push_cast[hd];refine hK _ _ ?_;clear hK K
  (repeat first|refine aF ?_|refine zV ?_|refine aA ?_|refine zY ?_)
  refine dZ rfl (fun _=>?_) (fun h=>by cases h)
  (repeat first|refine aF ?_|refine zV ?_|refine aA ?_|refine zY ?_);refine bF (fun K hK=>?_);push_cast;refine hK _ _ ?_;clear hK K
  (repeat first|refine yN ?_|refine yP ?_|refine yQ ?_|refine yR rfl ?_|refine yS ?_|refine zY ?_|refine aF ?_|refine zV ?_|refine aA ?_|refine bW ?_|refine dB ?_)
  simp only [qDn,jE,tup,lk,Nat.reduceEqDiff,reduceIte,reduceCtorEq];refine ⟨?_,Below.refl _ _⟩;rw [h0];rfl
 have hd:decide (s={ data:=#[] })=false:=b9 h0
 have hz:1≤s.size:=by
  rcases bAo s.size with h|h
  ·exact absurd (bBl.1 h) h0
  ·exact h
 (repeat first|refine aF ?_|refine zV ?_|refine aA ?_|refine zY ?_);refine bF (fun K hK=>?_);push_cast[hd];refine hK _ _ ?_;clear hK K
 (repeat first|refine aF ?_|refine zV ?_|refine aA ?_|refine zY ?_)
 refine dZ rfl (fun h=>?_) (fun h=>?_)
 ·(repeat first|refine aF ?_|refine zV ?_|refine aA ?_|refine zY ?_);refine bF (fun K hK=>?_);push_cast;refine hK _ _ ?_;clear hK K
  (repeat first|refine yN ?_|refine yP ?_|refine yQ ?_|refine yR rfl ?_|refine yS ?_|refine zY ?_|refine aF ?_|refine zV ?_|refine aA ?_|refine bW ?_|refine dB ?_)
  simp only [qDn,jE,tup,lk,Nat.reduceEqDiff,reduceIte,reduceCtorEq];refine ⟨?_,Below.refl _ _⟩
  have:¬ s.size≤12:=by simp at h;omega
  simp [eG,this]
 have hz2:s.size≤12:=by simp at h;omega
 (repeat first|refine aF ?_|refine zV ?_|refine aA ?_|refine zY ?_)
 (repeat first|refine aF ?_|refine zV ?_|refine aA ?_|refine zY ?_);refine bF (fun K hK=>?_);push_cast[zN4,zJw]
 refine zSs st9 rfl ?_;refine v2s ?_;try push_cast
 refine hK _ _ ?_;clear hK K;refine kB (l':=_) [0,13] (by simp only [keep,lk,Nat.reduceEqDiff,reduceIte];exact rfl) ?_
 (repeat first|refine aF ?_|refine zV ?_|refine aA ?_|refine zY ?_)
 refine eC ?_;refine oU (fun i:Nat=>[(0,.string s),(13,.pointer (some ⟨w.heap.size,0,none⟩))]) (fun i w1=>i≤s.size∧w1=w.iter s i∧(s.data.toList.take i).all okC=true) (fun i=>s.size - i) [0,13] 0 rfl ⟨g7 _,rfl,rfl⟩ ?_
 rintro i _ ⟨hi,rfl,ha⟩
 by_cases hlt:i < s.size
 ·(repeat first|refine aF ?_|refine zV ?_|refine aA ?_|refine zY ?_);refine bF (fun K hK=>?_);push_cast[zEd,qVe]
  refine zE6 (fun _=>run_next_any w s i _ hlt) rfl ?_
  have hd1:1≤(Utf8.decode s i).2∧(qM (Utf8.decode s i).1=true→okC s[i]=false)∧(qM (Utf8.decode s i).1=false→(Utf8.decode s i).2=1∧okC s[i]=true):=by
   by_cases h128:(s[i]).toNat < 128
   ·rw [decode_ascii s i hlt h128];refine ⟨a7 _,fun h=>?_,fun h=>⟨rfl,?_⟩⟩ <;> rw [zFg] at h <;> simpa using h
   ·have hh:=decode_high s i hlt (by omega)
    refine ⟨hh.2,fun _=>?_,fun h=>?_⟩
    ·rw [zEj];simp;omega
    ·rw [zMm hh.1] at h;cases h
  generalize hdec:Utf8.decode s i=d at hd1 ⊢;obtain ⟨r,k⟩:=d;obtain ⟨d1,d2,d3⟩:=hd1;simp only at d1 d2 d3;refine v2s ?_;try push_cast
  refine hK _ _ ?_;clear hK K
  (repeat first|refine aF ?_|refine zV ?_|refine aA ?_|refine zY ?_)
  refine dZ rfl (fun _=>?_) (fun h=>by cases h)
  (repeat first|refine aF ?_|refine zV ?_|refine aA ?_|refine zY ?_)
  refine eC ?_
  (repeat first|refine aF ?_|refine zV ?_|refine aA ?_|refine zY ?_);refine bF (fun K hK=>?_);push_cast;refine hK _ _ ?_;clear hK K
  have bad:∀ {Q:Prop},qM r=true→(eG s=false→Q)→Q:=fun {Q} hb f=>f (by
   have hk:=d2 hb
   have hm:s[i] ∈ s.data.toList:=by
    rw [← qP0 s i hlt];exact c7 _
   have:s.data.toList.all okC=false:=by
    rw [bBy];intro hall;rw [o8.1 hall _ hm] at hk;cases hk
   rw [eG,this];simp)
  have good:qM r=false→k=1∧(s.data.toList.take (i + 1)).all okC=true:=fun hb=>by
   obtain ⟨e1,e2⟩:=d3 hb;refine ⟨e1,?_⟩;rw [d7 (by rw [← Lib.size_eq];exact hlt),bDq,ha,qP0 s i hlt]
   simp [e2]
  have cases7:(r < 48∧qM r=true)∨(48≤r∧r≤57∧qM r=false)∨(57 < r∧r < 95∧qM r=true)∨(r=95∧qM r=false)∨(r=96∧qM r=true)∨(97≤r∧r≤122∧qM r=false)∨(122 < r∧qM r=true):=by
   unfold qM;simp;omega
  rcases cases7 with ⟨c1,hb⟩|⟨c1,c2,hb⟩|⟨c1,c2,hb⟩|⟨c1,hb⟩|⟨c1,hb⟩|⟨c1,c2,hb⟩|⟨c1,hb⟩
  ·refine bad hb fun hbad=>?_
   (repeat first|refine aF ?_|refine zV ?_|refine aA ?_|refine zY ?_);refine bF (fun K hK=>?_);push_cast(disch:=omega);refine hK _ _ ?_;clear hK K
   (repeat first|refine aF ?_|refine zV ?_|refine aA ?_|refine zY ?_)
   refine dZ rfl (fun _=>?_) (fun h=>by cases h)
   (repeat first|refine aF ?_|refine zV ?_|refine aA ?_|refine zY ?_);refine bF (fun K hK=>?_);push_cast;refine hK _ _ ?_;clear hK K
   (repeat first|refine yN ?_|refine yP ?_|refine yQ ?_|refine yR rfl ?_|refine yS ?_|refine zY ?_|refine aF ?_|refine zV ?_|refine aA ?_|refine bW ?_|refine dB ?_)
   simp only [qDn,jE,tup,lk,Nat.reduceEqDiff,reduceIte,reduceCtorEq];exact ⟨by rw [hbad],sN _ _ _⟩
  ·obtain ⟨rfl,ha2⟩:=good hb
   (repeat first|refine aF ?_|refine zV ?_|refine aA ?_|refine zY ?_);refine bF (fun K hK=>?_);push_cast(disch:=omega);refine hK _ _ ?_;clear hK K
   (repeat first|refine aF ?_|refine zV ?_|refine aA ?_|refine zY ?_)
   refine dZ rfl (fun h=>by cases h) (fun _=>?_)
   (repeat first|refine yN ?_|refine yP ?_|refine yQ ?_|refine yR rfl ?_|refine yS ?_|refine zY ?_|refine aF ?_|refine zV ?_|refine aA ?_|refine bW ?_|refine dB ?_)
   exact ⟨i + 1,rfl,⟨hlt,rfl,ha2⟩,by omega⟩
  ·refine bad hb fun hbad=>?_
   (repeat first|refine aF ?_|refine zV ?_|refine aA ?_|refine zY ?_);refine bF (fun K hK=>?_);push_cast(disch:=omega);refine hK _ _ ?_;clear hK K
   (repeat first|refine aF ?_|refine zV ?_|refine aA ?_|refine zY ?_)
   refine dZ rfl (fun _=>?_) (fun h=>by cases h)
   (repeat first|refine aF ?_|refine zV ?_|refine aA ?_|refine zY ?_);refine bF (fun K hK=>?_);push_cast;refine hK _ _ ?_;clear hK K
   (repeat first|refine yN ?_|refine yP ?_|refine yQ ?_|refine yR rfl ?_|refine yS ?_|refine zY ?_|refine aF ?_|refine zV ?_|refine aA ?_|refine bW ?_|refine dB ?_)
   simp only [qDn,jE,tup,lk,Nat.reduceEqDiff,reduceIte,reduceCtorEq];exact ⟨by rw [hbad],sN _ _ _⟩
  ·obtain ⟨rfl,ha2⟩:=good hb
   (repeat first|refine aF ?_|refine zV ?_|refine aA ?_|refine zY ?_);refine bF (fun K hK=>?_);push_cast(disch:=omega);refine hK _ _ ?_;clear hK K
   (repeat first|refine aF ?_|refine zV ?_|refine aA ?_|refine zY ?_)
   refine dZ rfl (fun h=>by cases h) (fun _=>?_)
   (repeat first|refine yN ?_|refine yP ?_|refine yQ ?_|refine yR rfl ?_|refine yS ?_|refine zY ?_|refine aF ?_|refine zV ?_|refine aA ?_|refine bW ?_|refine dB ?_)
   exact ⟨i + 1,rfl,⟨hlt,rfl,ha2⟩,by omega⟩
  ·refine bad hb fun hbad=>?_
   (repeat first|refine aF ?_|refine zV ?_|refine aA ?_|refine zY ?_);refine bF (fun K hK=>?_);push_cast(disch:=omega);refine hK _ _ ?_;clear hK K
   (repeat first|refine aF ?_|refine zV ?_|refine aA ?_|refine zY ?_)
   refine dZ rfl (fun _=>?_) (fun h=>by cases h)
   (repeat first|refine aF ?_|refine zV ?_|refine aA ?_|refine zY ?_);refine bF (fun K hK=>?_);push_cast;refine hK _ _ ?_;clear hK K
   (repeat first|refine yN ?_|refine yP ?_|refine yQ ?_|refine yR rfl ?_|refine yS ?_|refine zY ?_|refine aF ?_|refine zV ?_|refine aA ?_|refine bW ?_|refine dB ?_)
   simp only [qDn,jE,tup,lk,Nat.reduceEqDiff,reduceIte,reduceCtorEq];exact ⟨by rw [hbad],sN _ _ _⟩
  ·obtain ⟨rfl,ha2⟩:=good hb
   (repeat first|refine aF ?_|refine zV ?_|refine aA ?_|refine zY ?_);refine bF (fun K hK=>?_);push_cast(disch:=omega);refine hK _ _ ?_;clear hK K
   (repeat first|refine aF ?_|refine zV ?_|refine aA ?_|refine zY ?_)
   refine dZ rfl (fun h=>by cases h) (fun _=>?_)
   (repeat first|refine yN ?_|refine yP ?_|refine yQ ?_|refine yR rfl ?_|refine yS ?_|refine zY ?_|refine aF ?_|refine zV ?_|refine aA ?_|refine bW ?_|refine dB ?_)
   exact ⟨i + 1,rfl,⟨hlt,rfl,ha2⟩,by omega⟩
  ·refine bad hb fun hbad=>?_
   (repeat first|refine aF ?_|refine zV ?_|refine aA ?_|refine zY ?_);refine bF (fun K hK=>?_);push_cast(disch:=omega);refine hK _ _ ?_;clear hK K
   (repeat first|refine aF ?_|refine zV ?_|refine aA ?_|refine zY ?_)
   refine dZ rfl (fun _=>?_) (fun h=>by cases h)
   (repeat first|refine aF ?_|refine zV ?_|refine aA ?_|refine zY ?_);refine bF (fun K hK=>?_);push_cast;refine hK _ _ ?_;clear hK K
   (repeat first|refine yN ?_|refine yP ?_|refine yQ ?_|refine yR rfl ?_|refine yS ?_|refine zY ?_|refine aF ?_|refine zV ?_|refine aA ?_|refine bW ?_|refine dB ?_)
   simp only [qDn,jE,tup,lk,Nat.reduceEqDiff,reduceIte,reduceCtorEq];exact ⟨by rw [hbad],sN _ _ _⟩
 ·have hne:i=s.size:=by omega
  subst hne
  (repeat first|refine aF ?_|refine zV ?_|refine aA ?_|refine zY ?_);refine bF (fun K hK=>?_);push_cast[zEd,qVe]
  refine zE6 (fun _=>run_next_end w s _ _ hlt) rfl ?_
  refine v2s ?_;try push_cast
  refine hK _ _ ?_;clear hK K
  (repeat first|refine aF ?_|refine zV ?_|refine aA ?_|refine zY ?_)
  refine dZ rfl (fun h=>by cases h) (fun _=>?_)
  (repeat first|refine yN ?_|refine yP ?_|refine yQ ?_|refine yR rfl ?_|refine yS ?_|refine zY ?_|refine aF ?_|refine zV ?_|refine aA ?_|refine bW ?_|refine dB ?_)
  (repeat first|refine aF ?_|refine zV ?_|refine aA ?_|refine zY ?_);refine bF (fun K hK=>?_);push_cast;refine hK _ _ ?_;clear hK K
  (repeat first|refine yN ?_|refine yP ?_|refine yQ ?_|refine yR rfl ?_|refine yS ?_|refine zY ?_|refine aF ?_|refine zV ?_|refine aA ?_|refine bW ?_|refine dB ?_)
  simp only [qDn,jE,tup,lk,Nat.reduceEqDiff,reduceIte,reduceCtorEq];refine ⟨?_,sN _ _ _⟩;rw [Lib.size_eq,t6] at ha;rw [eG,ha]
  have e1:s.size=s.data.toList.length:=Lib.size_eq s
  simp;omega
def zV8 (s:Ba) (hs:s.size≤1048576):HFun Tryz.prog 85 [.v (.string s)] (fun h st=>h=.v (.bool (eG s))):=by
 refine (pK fun w vs R=>?_).mono fun h st q=>q.1
 obtain ⟨r1,r2⟩:=R
 match vs,r1 with
|[x],_ =>
 have ha:=bL (r2 0 (by simp) (by simp))
 simp only [l6] at ha;subst ha;exact qZr s hs w
end Go.Proofs.Y
namespace Go.Tr
open Go
def qDi:∀ {s:List UInt8},fU s=none→∀ i:Nat,s[i]?≠some 47
|[],_,i=>by simp
|c :: r,h,i=>by
  rw [fU] at h;split at h
  ·cases h
  ·rename_i e;split at h
   ·cases h
   ·rename_i hc
    cases i with
   |zero=>simpa using hc
   |succ i=>simpa using qDi e i
def qZz {s:List UInt8} {i:Nat} (h:s[i]?=some 47) (h2:∀ j:Nat,i < j→s[j]?≠some 47):fU s=some i:=by
 cases e:fU s with
|none=>exact absurd h (qDi e i)
|some k =>
  have hk:=(rR e).2
  rcases bAw i k with h'|h'|h'
  ·exact absurd hk (h2 k h')
  ·rw [h']
  ·have:∀ {s:List UInt8} {k:Nat},fU s=some k→∀ j:Nat,k < j→s[j]?≠some 47:=by
    intro s
    induction s with
   |nil=>intro k h;simp [fU] at h
   |cons c r ih =>
     intro k h j hj;rw [fU] at h;split at h
     ·rename_i m hm;simp only [a6] at h;subst h
      cases j with
     |zero=>omega
     |succ j=>simpa using ih hm j (by omega)
     ·rename_i hn;split at h
      ·simp only [a6] at h;subst h
       cases j with
      |zero=>omega
      |succ j=>simpa using qDi hn j
      ·cases h
   exact absurd h (this e i h')
end Go.Tr
namespace Go.Proofs.Y
open Go Go.Eng Go.RowKit Go.Tr
def zZo (s:Ba) (i:Nat) (h:i < s.size):decide (dK s i=47)=decide (s.data.toList[i]?=some 47):=by
 have h':i < s.data.size:=h
 rw [bB6,v8 h',bDh];unfold dK;rw [bAs,v8 h'];simp only [Option.getD_some,a6];constructor
 ·intro h;apply bC5.1;have e:(47:UInt8).toNat=47:=rfl;omega
 ·intro h;rw [h];rfl
def zJe (s:Ba) (hs:s.size≤1048576):HFun Tryz.prog 149 [.v (.string s),.v (.int .u8 47)] (fun h st=>h=.v (.int .i64 (pH s.data.toList))):=by
 refine bP (N:=19) Tryz.func149 rfl Tryz.ntmps149 Tryz.results149 (by simp) ?_
 refine goA 5 ?_;push_cast(disch:=omega);refine goL (fun i:Nat=>⟨[(0,.v (.string s)),(1,.v (.int .u8 47)),(5,.v (.int .i64 ((i:Int) - 1)))],[]⟩) (fun i=>i≤s.size∧∀ j,i≤j→s.data.toList[j]?≠some 47) (fun i=>i) [0,1,5] [] s.size rfl ⟨a7 _,fun j hj=>by rw [bA1 (by rw [← Lib.size_eq];exact hj)];simp⟩ ?_
 rintro i ⟨hi,hn⟩
 cases i with
|zero =>
  have hl:pH s.data.toList=-1:=by
   unfold pH
   cases e:fU s.data.toList with
  |none=>rfl
  |some k=>exact absurd (rR e).2 (hn k (g7 _))
  rw [hl];refine goA 5 ?_;push_cast;exact aQ rfl
|succ i =>
  have e1:((i + 1:Nat):Int) - 1=i:=by omega
  rw [e1]
  have h47:=zZo s i hi
  refine goA 3 ?_;push_cast(disch:=omega)
  by_cases hc:s.data.toList[i]?=some 47
  ·rw [i7 hc] at h47
   have hl:pH s.data.toList=i:=by rw [pH,qZz hc (fun j hj=>hn j hj)]
   rw [hl];refine goA 5 ?_;push_cast[h47];(repeat ((with_reducible constructor);focus first|omega|decide))
   exact aQ rfl
  ·rw [b9 hc] at h47;refine goA 5 ?_;push_cast(disch:=omega)[h47];(repeat ((with_reducible constructor);focus first|omega|decide))
   refine ⟨i,rfl,⟨by omega,fun j hj=>?_⟩,by omega⟩
   rcases s4 i j with h|h
   ·exact hn j h
   ·have:j=i:=by omega
    subst this;exact hc
def zQj (s:Ba) (hs:s.size≤1048576):HFun Tryz.prog 124 [.v (.string s),.v (.int .u8 47)] (fun h st=>h=.v (.int .i64 (pH s.data.toList))):=by
 refine bP (N:=8) Tryz.func124 rfl Tryz.ntmps124 Tryz.results124 (by simp) ?_
 refine goA 5 ?_;push_cast;refine cVt yHb (zJe s hs) (.cons (.v _) (.cons (.v _) .nil)) ?_;push_cast;exact aQ rfl
def zJf (s:Ba):(if (0:Int) < pH s.data.toList then pH s.data.toList else 0)=(qAn s:Int)∧qAn s≤s.size:=by
 unfold pH qAn
 cases e:fU s.data.toList with
|none=>exact ⟨rfl,g7 _⟩
|some i =>
  have:=(rR e).1
  rw [← Lib.size_eq] at this;refine ⟨?_,Nat.le_of_lt this⟩;dsimp only [Option.getD_some];split <;> omega
def zPi (s:Ba) (hs:s.size≤1048576):HFun Tryz.prog 88 [.v (.string s)] (fun h st=>h=.v (.string (par s))):=by
 refine bP (N:=8) Tryz.func88 rfl Tryz.ntmps88 Tryz.results88 (by simp) ?_
 refine goA 5 ?_;push_cast;refine cVt yHh (zQj s hs) (.cons (.v _) (.cons (.v _) .nil)) ?_;obtain ⟨h1,h2⟩:=zJf s;push_cast[h1];(repeat ((with_reducible constructor);focus first|omega|decide))
 exact aQ rfl
def pre (s p:Ba):Bool:=p.data.toList.isPrefixOf s.data.toList
def zEc (s p:Ba) (h:p.size≤s.size):decide (s.extract 0 p.size=p)=pre s p:=by
 rw [pre,bAv,bB7,bAh]
 have e:(s.extract 0 p.size).data.toList=s.data.toList.take p.data.toList.length:=by rw [Lib.extract_from_zero,← Lib.size_eq]
 rw [List.prefix_iff_eq_take];constructor
 ·intro h;rw [← e,h]
 ·intro h
  apply toList_inj
  rw [Lib.toList_data,Lib.toList_data,e];exact h.symm
def qN5 {s p:Ba} (h:¬ p.size≤s.size):pre s p=false:=by
 rw [pre,bBy];intro hp
 have:=(bAh.1 hp).length_le
 rw [← Lib.size_eq,← Lib.size_eq] at this;exact h this
def qPo (s p:Ba):HFun Tryz.prog 79 [.v (.string s),.v (.string p)] (fun h st=>h=.v (.bool (pre s p))):=by
 refine bP (N:=18) Tryz.func79 rfl Tryz.ntmps79 Tryz.results79 (by simp) ?_
 refine goA 3 ?_;push_cast
 by_cases h:p.size≤s.size
 ·have e:=zEc s p h
  refine goA 3 ?_;push_cast(disch:=omega)[e];(repeat ((with_reducible constructor);focus first|omega|decide))
  exact aQ rfl
 ·rw [qN5 h];refine goA 3 ?_;push_cast(disch:=omega);exact aQ rfl
def zRq (s p:Ba):HFun Tryz.prog 59 [.v (.string s),.v (.string p)] (fun h st=>h=.v (.bool (pre s p))):=by
 refine bP (N:=8) Tryz.func59 rfl Tryz.ntmps59 Tryz.results59 (by simp) ?_
 refine goA 5 ?_;push_cast;refine cVt yD0 (qPo s p) (.cons (.v _) (.cons (.v _) .nil)) ?_;push_cast;exact aQ rfl
theorem qSu (p t:Ba):bN p t=(decide (t={ data:=#[] }) || decide (p=t) || pre p (t ++ { data:=#[47] })):=rfl
def qJb (p t:Ba) (hp:p.size≤1048576) (ht:t.size≤1048576):HFun Tryz.prog 45 [.v (.string p),.v (.string t)] (fun h st=>h=.v (.bool (bN p t))):=by
 refine bP (N:=18) Tryz.func45 rfl Tryz.ntmps45 Tryz.results45 (by simp) ?_
 rw [qSu]
 have c:=zRq p (t ++ { data:=#[47] })
 refine goA 3 ?_;push_cast
 cases e1:decide (t={ data:=#[] }) with
|true =>
  refine goA 3 ?_;push_cast[e1];exact aQ rfl
|false =>
  cases e2:decide (p=t) with
 |true =>
   refine goA 3 ?_;push_cast[e1,e2];exact aQ rfl
 |false =>
   have hsz:t.size + ({ data:=#[47] }:Ba).size≤9223372036854775807:=by have:({ data:=#[47] }:Ba).size=1:=rfl;omega
   refine goA 3 ?_;push_cast[e1,e2];refine ⟨hsz,?_⟩;refine cVt yKs c (.cons (.v _) (.cons (.v _) .nil)) ?_;push_cast;exact aQ rfl
def okN (b:Bool):Int:=bif b then 0 else 10
def qUj (p:Ba) (d:Nat) (hp:p.size≤1048576) (hd:d≤1000):HFun Tryz.prog 66 [.v (.string p),.v (.int .i64 d)] (fun h st=>h=.v (.int .i64 (okN (pOk p d)))):=by
 refine bP (N:=30) Tryz.func66 rfl Tryz.ntmps66 Tryz.results66 (by simp) ?_
 have pl:=qEe p
 have plz:1≤(parts p).length:=by have:=qN7 p;omega
 have hsz:∀ q ∈ parts p,q.size≤1048576:=fun q hq=>by
  obtain ⟨l,hl,rfl⟩:=m6.1 hq
  have:∀ (s:List UInt8),∀ l ∈ iU s,l.length≤s.length:=by
   intro s
   induction s with
  |nil=>intro l h;simp [iU] at h;subst h;simp
  |cons c r ih =>
    intro l h
    by_cases hc:c=47
    ·subst hc;rw [gK] at h
     rcases l3.1 h with rfl|h
     ·simp
     ·have:=ih l h;simp;omega
    ·cases e:iU r with
    |nil=>exact absurd e (qCj r)
    |cons a t =>
      rw [iT hc e] at h
      rcases l3.1 h with rfl|h
      ·have:=ih a (by rw [e];simp);simp;omega
      ·have:=ih l (by rw [e];simp [h]);simp;omega
  have:=this _ l hl
  rw [← Lib.size_eq] at this
  have e:(mkB l).size=l.length:=by simp [mkB,ByteArray.size]
  omega
 refine goA 3 ?_;push_cast
 by_cases h0:p={ data:=#[] }
 ·have hd0:decide (p={ data:=#[] })=true:=i7 h0
  have e:pOk p d=false:=by
   rw [bBy];intro h;exact qKz h h0
  rw [e];refine goA 5 ?_;push_cast[hd0];exact aQ rfl
 have hd0:decide (p={ data:=#[] })=false:=b9 h0
 by_cases h1:d < 1
 ·have e:pOk p d=false:=by
   rw [pOk,b9 (by omega)];rfl
  rw [e];refine goA 5 ?_;push_cast(disch:=omega)[hd0];exact aQ rfl
 refine goA 5 ?_;push_cast(disch:=omega)[hd0];refine cUt 120 yKl (yA0 p hp) (.cons (.v _) (.cons (.v _) .nil)) ?_;push_cast
 by_cases h2:d < (parts p).length
 ·have e:pOk p d=false:=by
   rw [pOk,b9 (by omega)];rfl
  rw [e];refine goA 5 ?_;push_cast(disch:=omega)[aJ];exact aQ rfl
 have e:pOk p d=(parts p).all eG:=by rw [pOk,i7 (by omega),bB4]
 rw [e];generalize parts p=L at *
 refine goA 5 ?_;push_cast(disch:=omega)[aJ];refine goL (fun i:Nat=>⟨[(20,.lst true (aR L)),(21,.v (.int .i64 L.length)),(22,.v (.int .i64 i))],[]⟩) (fun i=>i≤L.length∧(L.take i).all eG=true) (fun i=>L.length - i) [20,21,22] [] 0 rfl ⟨g7 _,rfl⟩ ?_
 rintro i ⟨hi,ha⟩
 by_cases hlt:i < L.length
 ·refine goA 7 ?_;push_cast(disch:=omega)[aJ,bK,dM hlt];refine cVt yKk (zV8 L[i] (hsz _ (c7 hlt))) (.cons (.v _) .nil) ?_
  cases hn:eG L[i] with
 |false =>
   push_cast;refine goA 3 ?_;push_cast;refine aQ ?_
   have:L.all eG=false:=by
    rw [bBy];intro h;rw [o8.1 h _ (c7 hlt)] at hn;cases hn
   rw [this];rfl
 |true =>
   push_cast;refine goA 3 ?_;push_cast(disch:=omega);refine ⟨i + 1,rfl,⟨hlt,?_⟩,by omega⟩
   rw [d7 hlt,bDq,ha];simp [hn]
 ·have hne:i=L.length:=by omega
  subst hne;rw [t6] at ha;rw [ha];refine goA 5 ?_;push_cast(disch:=omega);exact aQ rfl
end Go.Proofs.Y
namespace Go.Tr
open Go Go.Eng
def gB (out:List Ba) (one:Ba) (l:List UInt8):List Ba:=(qC6 (out.map (·.data.toList)) one.data.toList l).map mkB
def yCw (s:Ba):gB [] { data:=#[] } s.data.toList=parts s:=by rw [gB,parts];exact congrArg _ (zL3 _)
def zWq (out:List Ba):(out.map (·.data.toList)).map mkB=out:=by
 rw [bAm]
 conv=>rhs;rw [← bEv out]
 exact x7 fun s _=>pG s
def yCv (out:List Ba) (one:Ba):gB out one []=out ++ [one]:=by
 rw [gB,qC6,d6,zWq,bEk,pG]
def zLq (out:List Ba) (one:Ba) (r:List UInt8):gB out one (47 :: r)=gB (out ++ [one]) { data:=#[] } r:=by
 rw [gB,qC6,g8 rfl,gB,d6];rfl
def zSb (out:List Ba) (one x:Ba) (c:UInt8) (r:List UInt8) (hc:c≠47) (hx:x.data.toList=[c]):gB out one (c :: r)=gB out (one ++ x) r:=by
 rw [gB,qC6,b7 hc,gB]
 congr 2
 rw [ByteArray.data_append,Array.toList_append,hx]
def zYv (s:Ba) (i:Nat) (h:i < s.size):∃ c,s.data.toList[i]?=some c∧(s.extract i (i + 1)).data.toList=[c]∧s.data.toList.drop i=c :: s.data.toList.drop (i + 1):=by
 have hl:i < s.data.toList.length:=by rw [← Lib.size_eq];exact h
 refine ⟨s.data.toList[i],c9 hl,?_,l4 hl⟩;rw [bCw,bDb,bCc,l4 hl,show i + 1 - i=1 by omega];rfl
end Go.Tr
namespace Go.Proofs.Y
open Go Go.Eng Go.RowKit Go.Tr
def zNo (s:Ba) (hs:s.size≤1048576):HFun Tryz.prog 42 [.v (.string s)] (fun h st=>h=.own 0∧st=[(0,.sl true 9 1 (aR (parts s)))]):=by
 refine bP (N:=31) Tryz.func42 rfl Tryz.ntmps42 Tryz.results42 (by simp) ?_
 refine goA 9 ?_;push_cast;refine goW 3 9000 9 1 rfl ?_;refine goL (fun x:Nat × List Ba × Ba=>⟨[(0,.v (.string s)),(3,.own 9000),(4,.v (.string x.2.2)),(5,.v (.int .i64 x.1))],[(9000,.sl true 9 1 (aR x.2.1))]⟩)
  (fun x=>x.1≤s.size∧x.2.2.size≤x.1∧x.2.1.length≤x.1∧gB x.2.1 x.2.2 (s.data.toList.drop x.1)=parts s) (fun x=>s.size - x.1) [0,3,4,5] [9000] (0,[],{ data:=#[] }) (by push_cast <;> rfl) ⟨g7 _,a7 _,a7 _,yCw s⟩ ?_
 rintro ⟨i,out,one⟩ ⟨hi,h1,hl,hg⟩;simp only at hi h1 hl hg
 by_cases hlt:i < s.size
 ·obtain ⟨c,c1,c2,c3⟩:=zYv s i hlt
  have h47:=zZo s i hlt
  rw [c3] at hg;rw [c1] at h47;refine goA 3 ?_;push_cast(disch:=omega)
  by_cases hc:c=47
  ·subst hc;rw [zLq] at hg;rw [i7 rfl] at h47;refine goA 9 ?_;push_cast(disch:=omega)[h47,fY,aJ];(repeat ((with_reducible constructor);focus first|omega|decide))
   exact ⟨(i + 1,out ++ [one],{ data:=#[] }),by push_cast <;> rfl,⟨hlt,by dsimp only;exact g7 _,by dsimp only;simp;omega,hg⟩,by dsimp only;omega⟩
  ·have hne:¬ some c=some 47:=fun e=>hc (q9 e)
   rw [b9 hne] at h47;rw [zSb out one _ c _ hc c2] at hg
   have hz:(s.extract i (i + 1)).size=1:=by rw [bAl];omega
   have e1:((i:Int) + 1).toNat=i + 1:=by omega
   refine goA 7 ?_;push_cast(disch:=omega)[h47,e1,hz];(repeat ((with_reducible constructor);focus first|omega|decide))
   refine ⟨(i + 1,out,one ++ s.extract i (i + 1)),by push_cast <;> rfl,⟨hlt,?_,by dsimp only;omega,hg⟩,by dsimp only;omega⟩
   dsimp only;rw [n9,hz];omega
 ·have hne:i=s.size:=by omega
  subst hne;rw [bA8 (by rw [← Lib.size_eq];omega),yCv] at hg
  rw [← hg];refine goA 5 ?_;push_cast(disch:=omega)[fY,aJ];(repeat ((with_reducible constructor);focus first|omega|decide))
  exact iQ rfl (fB _) ⟨rfl,rfl⟩
def zHq (s:Ba) (h1:1≤s.size) (h2:s.size≤12):eG s=s.data.toList.all okC:=by
 rw [eG,i7 h1,i7 h2];rfl
def zU3 (s:Ba) (hs:s.size≤1048576):HFun Tryz.prog 43 [.v (.string s)] (fun h st=>h=.v (.bool (eG s))):=by
 refine bP (N:=41) Tryz.func43 rfl Tryz.ntmps43 Tryz.results43 (by simp) ?_
 refine goA 3 ?_;push_cast
 by_cases h1:s.size < 1
 ·have e:eG s=false:=by rw [eG,b9 (by omega)];rfl
  rw [e];refine goA 5 ?_;push_cast(disch:=omega);exact aQ rfl
 by_cases h2:12 < s.size
 ·have e:eG s=false:=by rw [eG,i7 (by omega),b9 (by omega)];rfl
  rw [e];refine goA 5 ?_;push_cast(disch:=omega);exact aQ rfl
 rw [zHq s (by omega) (by omega)]
 refine goA 5 ?_;push_cast(disch:=omega);refine goL (fun i:Nat=>⟨[(0,.v (.string s)),(3,.v (.int .i64 i))],[]⟩) (fun i=>i≤s.size∧(s.data.toList.take i).all okC=true) (fun i=>s.size - i) [0,3] [] 0 rfl ⟨g7 _,rfl⟩ ?_
 rintro i ⟨hi,ha⟩
 by_cases hlt:i < s.size
 ·have hll:i < s.data.toList.length:=by rw [← Lib.size_eq];exact hlt
  obtain ⟨r,hr,hrr⟩:∃ r:Nat,dK s i=(r:Int)∧s.data.toList[i].toNat=r:=by
   refine ⟨_,?_,rfl⟩
   have h':i < s.data.size:=hlt
   unfold dK;rw [bAs,v8 h'];rfl
  have hb:=zFg s.data.toList[i]
  rw [hrr] at hb;refine goA 5 ?_;push_cast(disch:=omega)[hr];(repeat ((with_reducible constructor);focus first|omega|decide))
  have good:okC s.data.toList[i]=true→(s.data.toList.take (i + 1)).all okC=true:=fun h=>by
   rw [d7 hll,bDq,ha,bEb,h];rfl
  have bad:okC s.data.toList[i]=false→s.data.toList.all okC=false:=fun h=>by
   rw [bBy];intro hall;rw [o8.1 hall _ (c7 hll)] at h;cases h
  have cases7:(r < 48∧qM r=true)∨(48≤r∧r≤57∧qM r=false)∨(57 < r∧r < 95∧qM r=true)∨(r=95∧qM r=false)∨(r=96∧qM r=true)∨(97≤r∧r≤122∧qM r=false)∨(122 < r∧qM r=true):=by
   unfold qM;simp;omega
  rcases cases7 with ⟨c1,hc⟩|⟨c1,c2,hc⟩|⟨c1,c2,hc⟩|⟨c1,hc⟩|⟨c1,hc⟩|⟨c1,c2,hc⟩|⟨c1,hc⟩
  ·rw [hc] at hb;rw [bad (by simpa using hb.symm)]
   refine goA 5 ?_;push_cast(disch:=omega);exact aQ rfl
  ·rw [hc] at hb
   have ha2:=good (by simpa using hb.symm)
   refine goA 5 ?_;push_cast(disch:=omega);exact ⟨i + 1,rfl,⟨hlt,ha2⟩,by omega⟩
  ·rw [hc] at hb;rw [bad (by simpa using hb.symm)]
   refine goA 5 ?_;push_cast(disch:=omega);exact aQ rfl
  ·rw [hc] at hb
   have ha2:=good (by simpa using hb.symm)
   refine goA 5 ?_;push_cast(disch:=omega);exact ⟨i + 1,rfl,⟨hlt,ha2⟩,by omega⟩
  ·rw [hc] at hb;rw [bad (by simpa using hb.symm)]
   refine goA 5 ?_;push_cast(disch:=omega);exact aQ rfl
  ·rw [hc] at hb
   have ha2:=good (by simpa using hb.symm)
   refine goA 5 ?_;push_cast(disch:=omega);exact ⟨i + 1,rfl,⟨hlt,ha2⟩,by omega⟩
  ·rw [hc] at hb;rw [bad (by simpa using hb.symm)]
   refine goA 5 ?_;push_cast(disch:=omega);exact aQ rfl
 ·have hne:i=s.size:=by omega
  subst hne;rw [Lib.size_eq,t6] at ha;rw [ha];refine goA 5 ?_;push_cast(disch:=omega);exact aQ rfl
end Go.Proofs.Y
namespace Go.Tr
def qY9 (p:Ba):∀ q ∈ parts p,q.size≤p.size:=fun q hq=>by
 obtain ⟨l,hl,rfl⟩:=m6.1 hq
 have:∀ (s:List UInt8),∀ l ∈ iU s,l.length≤s.length:=by
  intro s
  induction s with
 |nil=>intro l h;simp [iU] at h;subst h;simp
 |cons c r ih =>
   intro l h
   by_cases hc:c=47
   ·subst hc;rw [gK] at h
    rcases l3.1 h with rfl|h
    ·simp
    ·have:=ih l h;simp;omega
   ·cases e:iU r with
   |nil=>exact absurd e (qCj r)
   |cons a t =>
     rw [iT hc e] at h
     rcases l3.1 h with rfl|h
     ·have:=ih a (by rw [e];simp);simp;omega
     ·have:=ih l (by rw [e];simp [h]);simp;omega
 have:=this _ l hl
 rw [← Lib.size_eq] at this
 have e:(mkB l).size=l.length:=by simp [mkB,ByteArray.size]
 omega
end Go.Tr
namespace Go.Proofs.Y
open Go Go.Eng Go.RowKit Go.Tr
def qNx (p:Ba) (d:Nat) (hp:p.size≤1048576) (hd:d≤1000):HFun Tryz.prog 26 [.v (.string p),.v (.int .i64 d)] (fun h st=>h=.v (.int .i64 (okN (pOk p d)))):=by
 refine bP (N:=25) Tryz.func26 rfl Tryz.ntmps26 Tryz.results26 (by simp) ?_
 have pl:=qEe p
 have hsz:∀ q ∈ parts p,q.size≤1048576:=fun q hq=>by have:=qY9 p q hq;omega
 refine goA 5 ?_;push_cast;refine cUt 64 yK5 (zNo p hp) (.cons (.v _) .nil) ?_;push_cast
 by_cases h2:d < (parts p).length
 ·have e:pOk p d=false:=by
   rw [pOk,b9 (by omega)];rfl
  rw [e];refine goA 5 ?_;push_cast(disch:=omega)[aJ];exact aQ rfl
 have e:pOk p d=(parts p).all eG:=by rw [pOk,i7 (by omega),bB4]
 rw [e];generalize parts p=L at *
 refine goA 5 ?_;push_cast(disch:=omega)[aJ];refine goL (fun i:Nat=>⟨[(5,.own 64),(6,.v (.int .i64 i))],[(64,.sl true 9 1 (aR L))]⟩) (fun i=>i≤L.length∧(L.take i).all eG=true) (fun i=>L.length - i) [5,6] [64] 0 rfl ⟨g7 _,rfl⟩ ?_
 rintro i ⟨hi,ha⟩
 by_cases hlt:i < L.length
 ·refine goA 5 ?_;push_cast(disch:=omega)[aJ,bK,dM hlt];refine cVt yK4 (zU3 L[i] (hsz _ (c7 hlt))) (.cons (.v _) .nil) ?_
  cases hn:eG L[i] with
 |false =>
   push_cast;refine goA 3 ?_;push_cast;refine aQ ?_
   have:L.all eG=false:=by
    rw [bBy];intro h;rw [o8.1 h _ (c7 hlt)] at hn;cases hn
   rw [this];rfl
 |true =>
   push_cast;refine goA 3 ?_;push_cast(disch:=omega);refine ⟨i + 1,rfl,⟨hlt,?_⟩,by omega⟩
   rw [d7 hlt,bDq,ha,bEb,hn];rfl
 ·have hne:i=L.length:=by omega
  subst hne;rw [t6] at ha;rw [ha];refine goA 5 ?_;push_cast(disch:=omega)[aJ];exact aQ rfl
def qZ0 (s:List UInt8) (c:UInt8):pH (s ++ [c])=if c=47 then (s.length:Int) else pH s:=by
 rw [pH,qRs]
 by_cases h:c=47
 ·rw [g8 h,g8 h]
 ·rw [b7 h,b7 h];rfl
def zU8 (s:Ba) (hs:s.size≤1048576):HFun Tryz.prog 44 [.v (.string s)] (fun h st=>h=.v (.int .i64 (pH s.data.toList))):=by
 refine bP (N:=17) Tryz.func44 rfl Tryz.ntmps44 Tryz.results44 (by simp) ?_
 refine goA 7 ?_;push_cast;refine goL (fun i:Nat=>⟨[(0,.v (.string s)),(3,.v (.int .i64 (pH (s.data.toList.take i)))),(4,.v (.int .i64 i))],[]⟩) (fun i=>i≤s.size) (fun i=>s.size - i) [0,3,4] [] 0 rfl (g7 _) ?_
 rintro i hi
 by_cases hlt:i < s.size
 ·have hll:i < s.data.toList.length:=by rw [← Lib.size_eq];exact hlt
  have h47:=zZo s i hlt
  have hstep:pH (s.data.toList.take (i + 1))=if s.data.toList[i]=47 then (i:Int) else pH (s.data.toList.take i):=by
   rw [d7 hll,qZ0,l7,bBo (by omega)]
  rw [c9 hll] at h47;refine goA 3 ?_;push_cast(disch:=omega)
  by_cases hc:s.data.toList[i]=47
  ·have hz:some s.data.toList[i]=some (47:UInt8):=by rw [hc]
   rw [i7 hz] at h47;rw [g8 hc] at hstep;refine goA 7 ?_;push_cast(disch:=omega)[h47];(repeat ((with_reducible constructor);focus first|omega|decide))
   exact ⟨i + 1,by push_cast;rw [hstep] <;> rfl,hlt,by omega⟩
  ·have hz:¬ some s.data.toList[i]=some (47:UInt8):=fun e=>hc (q9 e)
   rw [b9 hz] at h47;rw [b7 hc] at hstep;refine goA 5 ?_;push_cast(disch:=omega)[h47];(repeat ((with_reducible constructor);focus first|omega|decide))
   exact ⟨i + 1,by push_cast;rw [hstep] <;> rfl,hlt,by omega⟩
 ·have hne:i=s.size:=by omega
  subst hne;rw [show s.data.toList.take s.size=s.data.toList by rw [Lib.size_eq,t6]]
  refine goA 5 ?_;push_cast(disch:=omega);exact aQ rfl
def qFx (s:Ba) (hs:s.size≤1048576):HFun Tryz.prog 28 [.v (.string s)] (fun h st=>h=.v (.string (par s))):=by
 refine bP (N:=10) Tryz.func28 rfl Tryz.ntmps28 Tryz.results28 (by simp) ?_
 have c:=zU8 s hs
 refine goA 3 ?_;push_cast;unfold pH at c;unfold par qAn
 cases e:fU s.data.toList with
|none =>
  rw [e] at c;refine goA 5 ?_;push_cast;refine cVt yD4 c (.cons (.v _) .nil) ?_;push_cast;refine aQ ?_
  have:s.extract 0 0={ data:=#[] }:=by apply bEa;simp
  rw [Option.getD_none,this]
|some i =>
  rw [e] at c
  have hi:=(rR e).1
  rw [← Lib.size_eq] at hi;refine goA 5 ?_;push_cast;refine cVt yD4 c (.cons (.v _) .nil) ?_;push_cast(disch:=omega);refine cVt yD4 c (.cons (.v _) .nil) ?_;push_cast;(repeat ((with_reducible constructor);focus first|omega|decide))
  exact aQ rfl
def qY1 (p t:Ba):pre p (t ++ { data:=#[47] })=(decide (t.size < p.size) && decide (p.extract 0 t.size=t) && decide (dK p t.size=47)):=by
 by_cases h:t.size < p.size
 ·rw [i7 h,bB4,zZo p t.size h,zEc p t (by omega),pre,pre,bAv]
  simp only [g9,bAh,m7];rw [ByteArray.data_append,Array.toList_append];show t.data.toList ++ [47] <+: p.data.toList↔_
  rw [Lib.size_eq t];constructor
  ·rintro ⟨r,hr⟩;refine ⟨⟨47 :: r,by rw [← hr];simp⟩,?_⟩
   rw [← hr];simp
  ·rintro ⟨⟨r,hr⟩,h2⟩;rw [← hr] at h2
   cases r with
  |nil=>simp at h2
  |cons c r =>
    simp at h2;subst h2;exact ⟨r,by rw [← hr];simp⟩
 ·rw [b9 h,bEo,bEo];refine qN5 ?_;rw [n9]
  have:({ data:=#[47] }:Ba).size=1:=rfl
  omega
def qKm (p t:Ba) (hp:p.size≤1048576) (ht:t.size≤1048576):HFun Tryz.prog 38 [.v (.string p),.v (.string t)] (fun h st=>h=.v (.bool (bN p t))):=by
 refine bP (N:=32) Tryz.func38 rfl Tryz.ntmps38 Tryz.results38 (by simp) ?_
 rw [qSu];refine goA 3 ?_;push_cast
 cases e1:decide (t={ data:=#[] }) with
|true =>
  refine goA 5 ?_;push_cast[e1];exact aQ rfl
|false =>
  cases e2:decide (p=t) with
 |true =>
   refine goA 5 ?_;push_cast[e1,e2];exact aQ rfl
 |false =>
   rw [qY1];refine goA 3 ?_;push_cast[e1,e2]
   by_cases h:t.size < p.size
   ·rw [i7 h]
    cases e3:decide (p.extract 0 t.size=t) with
   |true =>
     refine goA 3 ?_;push_cast(disch:=omega)[e3];(repeat ((with_reducible constructor);focus first|omega|decide))
     exact aQ rfl
   |false =>
     refine goA 3 ?_;push_cast(disch:=omega)[e3];(repeat ((with_reducible constructor);focus first|omega|decide))
     exact aQ rfl
   ·rw [b9 h];refine goA 3 ?_;push_cast(disch:=omega);exact aQ rfl
def i3:(sizeOf 3).run Tryz.prog=fun w=>.ok 1 w:=by funext w;kernel_rfl
def i9:(sizeOf 9).run Tryz.prog=fun w=>.ok 1 w:=by funext w;kernel_rfl
def i24:(sizeOf 42).run Tryz.prog=fun w=>.ok 2 w:=by funext w;kernel_rfl
def zSq (d:Nat) (x y:Int) (w:World):(Op.equalIn (d + 1) 3 (.int .i64 x) (.int .i64 y)).run Tryz.prog w=.ok (decide (x=y)) w:=by
 simp [Op.equalIn,o9 Tryz.underlying3]
 by_cases h:x=y <;> simp [h]
def yJs:Tryz.prog.stoodInHeld 42=false:=by kernel_rfl
def yJq:Tryz.prog.stoodInHeld 44=false:=by kernel_rfl
def zE5 (d:Nat) (x y:Ba) (w:World):(Op.equalIn (d + 1) 9 (.string x) (.string y)).run Tryz.prog w=.ok (decide (x=y)) w:=by
 unfold Op.equalIn;simp [o9 Tryz.underlying9];obtain ⟨a⟩:=x;obtain ⟨b⟩:=y;show (a == b)=_
 by_cases h:a=b <;> simp [h]
def zC5 (d:Nat) (x y:Int) (s t:Ba) (w:World):(Op.equalIn (d + 2) 42 (.agg #[.int .i64 x,.string s]) (.agg #[.int .i64 y,.string t])).run Tryz.prog w=.ok (decide (x=y∧s=t)) w:=by
 unfold Op.equalIn;simp [o9 Tryz.underlying42,yJs,i3,i9,part,cT kt3,cT kt9,zSq,zE5,s8]
 have hr:List.range' 0 2=[0,1]:=rfl
 try rw [hr]
 try simp [cT kt3,cT kt9,zSq,zE5,s8]
 by_cases h1:x=y <;> by_cases h2:s=t <;> simp [h1,h2]
def eqN (x y:Int) (s t:Ba):EqR Tryz.prog 42 [.int .i64 x,.string s].toArray [.int .i64 y,.string t].toArray (decide (x=y∧s=t)):=⟨by kernel_rfl,fun w=>zC5 _ x y s t w⟩
def eqE (p q:Ba) (x y:Int) (s t:Ba):EqR Tryz.prog 44 [.string p,.int .i64 x,.string s].toArray [.string q,.int .i64 y,.string t].toArray (decide ((p,x,s)=(q,y,t))):=by
 refine ⟨by kernel_rfl,fun w=>?_⟩
 unfold Op.equal Op.maxDepth Op.equalIn;simp [o9 Tryz.underlying44,yJq,i9,i24,part,cT kt9,jA yB7,zE5,zC5,s8]
 by_cases h0:p=q <;> by_cases h1:x=y <;> by_cases h2:s=t <;> simp [h0,h1,h2]
end Go.Proofs.Y
namespace Go.Tr
open Go
def qZ (n:Int × Ba):Bool:=if n.1=2 then decide (n.2.size≤4096) else (decide (n.1=0) || decide (n.1=1)) && decide (n.2.size=0)
def qL1 (s:Ba):decide (s={ data:=#[] })=decide (s.size=0):=by
 rw [bDh];exact bBl.symm
end Go.Tr
namespace Go.Proofs.Y
open Go Go.Eng Go.RowKit Go.Tr
def zUa (n:Int × Ba):HFun Tryz.prog 87 [cY n] (fun h st=>h=.v (.bool (qZ n))):=by
 obtain ⟨k,d⟩:=n;refine bP (N:=17) Tryz.func87 rfl Tryz.ntmps87 Tryz.results87 (by simp) ?_
 unfold qZ;dsimp only;refine goA 5 ?_;push_cast
 by_cases h0:k=0
 ·subst h0;rw [b7 (by decide)]
  have e:=qL1 d
  refine goA 5 ?_;push_cast[e];exact aQ (by first|(simp;done)|(simp;omega))
 by_cases h1:k=1
 ·subst h1;rw [b7 (by decide)]
  have e:=qL1 d
  refine goA 7 ?_;push_cast[e];exact aQ (by first|(simp;done)|(simp;omega))
 by_cases h2:k=2
 ·subst h2;rw [g8 rfl];refine goA 9 ?_;push_cast;exact aQ (by first|(simp;done)|(simp;omega))
 ·rw [b7 h2];refine goA 9 ?_;push_cast(disch:=omega);exact aQ (by simp [h0,h1])
def zNm (n:Int × Ba):HFun Tryz.prog 27 [cY n] (fun h st=>h=.v (.bool (qZ n))):=by
 obtain ⟨k,d⟩:=n;refine bP (N:=24) Tryz.func27 rfl Tryz.ntmps27 Tryz.results27 (by simp) ?_
 unfold qZ;dsimp only;refine goA 3 ?_;push_cast
 have e:decide ((d.size:Int)=0)=decide (d.size=0):=by rw [bDh];omega
 by_cases h2:k=2
 ·subst h2;rw [g8 rfl];refine goA 5 ?_;push_cast;exact aQ (by first|(simp;done)|(simp;omega))
 rw [b7 h2];refine goA 3 ?_;push_cast(disch:=omega)
 by_cases h0:k=0
 ·subst h0;refine goA 3 ?_;push_cast[e];exact aQ (by first|(simp;done)|(simp;omega))
 by_cases h1:k=1
 ·subst h1;refine goA 3 ?_;push_cast[e];exact aQ (by first|(simp;done)|(simp;omega))
 ·refine goA 3 ?_;push_cast(disch:=omega);exact aQ (by simp [h0,h1])
def pU (t:List Ent) (p:Ba) (hl:t.length≤140737488355328):HFun Tryz.prog 22 [.lst false (aG t),.v (.string p)] (fun h st=>h=cY (aV t p)∧st=[]):=by
 refine bP (N:=25) Tryz.func22 rfl Tryz.ntmps22 Tryz.results22 (by simp) ?_
 refine goA 5 ?_;push_cast;refine goL (fun i:Nat=>⟨[(0,.lst false (aG t)),(1,.v (.string p)),(4,.ptr 32 2 0 0),(5,.v (.int .i64 i))],[(32,.bx true 42 [.v (.int .i64 0),.v (.string ByteArray.empty)])]⟩) (fun i=>i≤t.length∧aV t p=aV (t.drop i) p) (fun i=>t.length - i) [0,1,4,5] [32] 0 rfl ⟨g7 _,rfl⟩ ?_
 rintro i ⟨hi,hg⟩
 by_cases hlt:i < t.length
 ·rw [l4 hlt] at hg;refine goA 3 ?_;push_cast(disch:=omega)[yV]
  by_cases he:t[i].1=p
  ·have hd:decide (t[i].1=p)=true:=i7 he
   have hg2:aV t p=t[i].2:=by rw [hg,aV,List.find?_cons,hd];rfl
   rw [hg2];refine goA 5 ?_;push_cast(disch:=omega)[yV,yU,yW hlt,hd];exact qCa (n:=t[i].2) ⟨rfl,rfl⟩
  ·have hd:decide (t[i].1=p)=false:=b9 he
   have hg2:aV t p=aV (t.drop (i + 1)) p:=by rw [hg,aV,List.find?_cons,hd];rfl
   refine goA 5 ?_;push_cast(disch:=omega)[yV,yU,yW hlt,hd];exact ⟨i + 1,rfl,⟨hlt,hg2⟩,by omega⟩
 ·rw [bA8 (by omega)] at hg
  have hg2:aV t p=qZl:=hg
  rw [hg2];refine goA 5 ?_;push_cast(disch:=omega)[yV];exact qCa (n:=qZl) ⟨rfl,rfl⟩
def qNm {α:Type} {a b:List α} {i:Nat} (h:a.take i=b.take i) (h1:i < a.length) (h2:i < b.length) (he:a[i]=b[i]):a.take (i + 1)=b.take (i + 1):=by
 rw [d7 h1,d7 h2,h,he]
def lR (a b:List Ent) (ha:a.length≤140737488355328):HFun Tryz.prog 9 [.lst false (aG a),.lst false (aG b)] (fun h st=>h=.v (.bool (decide (a=b)))):=by
 refine bP (N:=26) Tryz.func9 rfl Tryz.ntmps9 Tryz.results9 (by simp) ?_
 refine goA 3 ?_;push_cast
 by_cases hl:a.length=b.length
 ·refine goA 5 ?_;push_cast(disch:=omega)[yV];refine goL (fun i:Nat=>⟨[(0,.lst false (aG a)),(1,.lst false (aG b)),(5,.v (.int .i64 i))],[]⟩) (fun i=>i≤a.length∧a.take i=b.take i) (fun i=>a.length - i) [0,1,5] [] 0 rfl ⟨g7 _,rfl⟩ ?_
  rintro i ⟨hi,hp⟩
  by_cases hia:i < a.length
  ·have hib:i < b.length:=by omega
   refine goA 3 ?_;push_cast(disch:=omega)[yV]
   by_cases he:a[i]=b[i]
   ·have he':decide ((a[i].1,a[i].2.1,a[i].2.2)=(b[i].1,b[i].2.1,b[i].2.2))=true:=by rw [he];simp
    refine HW_drw 9 mixed (by kernel_rfl) (fun K hK=>?_);push_cast(disch:=omega)[yV,yU,yW hia,yW hib,he']
    refine ⟨_,eqE _ _ _ _ _ _,?_⟩;with_reducible refine aS ?_;push_cast[he']
    with_reducible refine aS ?_;push_cast
    refine hK _ ?_;clear hK K;refine goK 3 ?_;push_cast(disch:=omega);exact ⟨i + 1,rfl,⟨hia,qNm hp hia hib he⟩,by omega⟩
   ·have he':decide ((a[i].1,a[i].2.1,a[i].2.2)=(b[i].1,b[i].2.1,b[i].2.2))=false:=b9 he
    refine HW_drw 9 mixed (by kernel_rfl) (fun K hK=>?_);push_cast(disch:=omega)[yV,yU,yW hia,yW hib,he']
    refine ⟨_,eqE _ _ _ _ _ _,?_⟩;with_reducible refine aS ?_;push_cast[he']
    with_reducible refine aS ?_;push_cast
    refine hK _ ?_;clear hK K;refine goK 3 ?_;push_cast;refine aQ ?_;rw [b9 (fun e=>he (by subst e;rfl))]
  ·refine goA 5 ?_;push_cast(disch:=omega)[yV];refine aQ ?_;rw [m9 (by omega),m9 (by omega)] at hp
   rw [i7 hp]
 ·refine goA 5 ?_;push_cast(disch:=omega)[yV];refine aQ ?_;rw [b9 (fun e=>hl (by rw [e]))]
end Go.Proofs.Y
namespace Go.Tr
open Go
def atE (t:List Ent) (i:Nat):Ent:=t.getD i (ByteArray.empty,0,ByteArray.empty)
def mH {t:List Ent} {i:Nat} (h:i < t.length):atE t i=t[i]:=by simp [atE,b6,h]
def qCx (t:List Ent) (i:Nat):Bool:=pOk (atE t i).1 5 && (qZ (atE t i).2 && (!decide ((atE t i).2.1=0) && (decide (i=0) || blt (atE t (i - 1)).1 (atE t i).1)))
def vD (u:List Ent) (e:Ent):Bool:=decide (par e.1={ data:=#[] }) || decide ((aV u (par e.1)).1=1)
def qAg (t:List Ent) (i:Nat):Bool:=qCx t i && vD t (atE t i)
def sU (t:List Ent) (i:Nat):Bool:=qCx t i && vD (t.take i) (atE t i)
def okR (t:List Ent):Bool:=(List.range t.length).all (qAg t)
def zWi (t:List Ent):Bool:=(List.range t.length).all (sU t)
def cZ (t:List Ent):Int:=if 200 < t.length then 4 else bif okR t then 0 else 3
def kP {n:Nat} {f:Nat→Bool}:(List.range n).all f=true↔∀ i,i < n→f i=true:=by simp [o8]
def qHy {n i:Nat} {f:Nat→Bool} (hi:i < n) (h:f i=false):(List.range n).all f=false:=by
 rw [bBy];intro ha;rw [kP.1 ha i hi] at h;cases h
def zGs {t:List Ent} (h:∀ i,0 < i→(hi:i < t.length)→blt (t[i - 1]'(by omega)).1 t[i].1=true):rise t:=by
 refine bCa.2 ?_
 have:∀ (d i:Nat) (h1:i + d + 1 < t.length),blt (t[i]'(by omega)).1 (t[i + d + 1]'h1).1=true:=by
  intro d
  induction d with
 |zero=>intro i h1;exact h (i + 1) (by omega) h1
 |succ d ih =>
   intro i h1
   have a:=ih i (by omega)
   have b:=h (i + d + 1 + 1) (by omega) h1
   exact nC a b
 intro i j hi hj hij
 have:=this (j - i - 1) i (by omega)
 simpa [show i + (j - i - 1) + 1=j by omega] using this
def zNr {t:List Ent} {i:Nat} (h:qCx t i=true) (h0:0 < i) (hi:i < t.length):blt (t[i - 1]'(by omega)).1 t[i].1=true:=by
 simp only [qCx,g9,w9,m7] at h
 rcases h.2.2.2 with h|h
 ·omega
 ·rwa [mH hi,mH (by omega)] at h
def qFy {t:List Ent} {i:Nat} (h:∀ j,j < i→qCx t j=true) (hi:i≤t.length):rise (t.take i):=zGs fun j h0 hj=>by
 rw [l7] at hj
 have:=zNr (h j (by omega)) h0 (by omega)
 simpa using this
def zU1 {t:List Ent} {i:Nat} (h:qCx t i=true) (hi:i < t.length):t[i].1≠ByteArray.empty:=by
 simp only [qCx,g9] at h;rw [mH hi] at h;exact qKz h.1
def zLo {t:List Ent} (h:rise t) {i:Nat} (hi:i < t.length) {q:Ba} (hq:blt q t[i].1=true):aV t q=aV (t.take i) q:=by
 have hd:t=t.take i ++ t.drop i:=(x5 i t).symm
 have hn:((t.drop i).find? fun e=>decide (e.1=q))=none:=by
  rw [List.find?_eq_none];intro e he;obtain ⟨k,hk,rfl⟩:=p9 he;rw [y7] at hk;rw [y6,bB7];intro e
  rcases bAo k with rfl|hp
  ·simp only [bAy] at e;rw [e,nR] at hq;cases hq
  ·have:=vF h (i:=i) (j:=i + k) (by omega) (by omega)
   rw [e] at this;rw [oR this] at hq;cases hq
 unfold aV
 conv=>lhs;rw [hd,List.find?_append,hn]
 simp
def zGp {t:List Ent} (h:rise t) {i:Nat} (hi:i < t.length) (hn:t[i].1≠ByteArray.empty):vD t (atE t i)=vD (t.take i) (atE t i):=by
 rw [vD,vD,mH hi,zLo h hi (zWa hn)]
def yFw (t:List Ent):zWi t=okR t:=by
 rw [bAv,zWi,okR,kP,kP]
 have key:(∀ i,i < t.length→qCx t i=true)→∀ i,i < t.length→sU t i=qAg t i:=fun ha i hi=>by
  have hr:=qFy ha (a7 _)
  rw [t6] at hr;rw [sU,qAg,zGp hr hi (zU1 (ha i hi) hi)]
 constructor
 ·intro h
  have ha:∀ i,i < t.length→qCx t i=true:=fun i hi=>by
   have:=h i hi;simp only [sU,g9] at this;exact this.1
  exact fun i hi=>by rw [← key ha i hi];exact h i hi
 ·intro h
  have ha:∀ i,i < t.length→qCx t i=true:=fun i hi=>by
   have:=h i hi;simp only [qAg,g9] at this;exact this.1
  exact fun i hi=>by rw [key ha i hi];exact h i hi
def qK1 {t:List Ent} (h:okR t=true):rise t:=by
 have:=qFy (t:=t) (i:=t.length) (fun j hj=>by
  have:=kP.1 h j hj;simp only [qAg,g9] at this;exact this.1) (a7 _)
 rwa [t6] at this
def fZ {t:List Ent} (h:cZ t=0):t.length≤200∧okR t=true:=by
 unfold cZ at h;split at h
 ·cases h
 ·refine ⟨by omega,?_⟩
  cases e:okR t
  ·rw [e] at h;cases h
  ·rfl
end Go.Tr
namespace Go.Proofs.Y
open Go Go.Eng Go.RowKit Go.Tr
theorem zEh:okN true=0:=rfl
theorem zEi:okN false=10:=rfl
def qEc (t:List Ent) (hl:t.length≤140737488355328) (hs:∀ e ∈ t,e.1.size≤1048576):HFun Tryz.prog 14 [.lst false (aG t)] (fun h st=>h=.v (.int .i64 (cZ t))):=by
 refine bP (N:=66) Tryz.func14 rfl Tryz.ntmps14 Tryz.results14 (by simp) ?_
 unfold cZ;refine goA 3 ?_;push_cast
 by_cases h200:200 < t.length
 ·rw [g8 h200];refine goA 5 ?_;push_cast(disch:=omega)[yV];exact aQ rfl
 rw [b7 h200];refine goA 5 ?_;push_cast(disch:=omega)[yV];refine goL (fun i:Nat=>⟨[(0,.lst false (aG t)),(3,.v (.int .i64 i))],[]⟩) (fun i=>i≤t.length∧∀ j,j < i→qAg t j=true) (fun i=>t.length - i) [0,3] [] 0 rfl ⟨g7 _,fun j h=>by omega⟩ ?_
 rintro i ⟨hi,ha⟩
 by_cases hlt:i < t.length
 ·have hsz:=hs _ (c7 hlt)
  have bad:qAg t i=false→okR t=false:=fun h=>qHy hlt h
  have c34:HFun Tryz.prog 26 [.v (.string t[i].1),.v (.int .i64 5)] (fun h st=>h=.v (.int .i64 (okN (pOk t[i].1 5)))):=qNx t[i].1 5 hsz (by omega)
  have c18:=zNm t[i].2
  have hA:qCx t i=(pOk t[i].1 5 && (qZ t[i].2 && (!decide (t[i].2.1=0) && (decide (i=0) || blt (atE t (i - 1)).1 t[i].1)))):=by rw [qCx,mH hlt]
  refine goA 5 ?_;push_cast(disch:=omega)[yV,yU,yW hlt]
  have hk0:∀ (m:Nat),(m:Int) + 1 - 1=m:=fun m=>by omega
  cases hp:pOk t[i].1 5 with
 |false =>
   rw [bad (by rw [qAg,hA,hp];rfl)]
   rw [hp,zEi] at c34;refine goA 5 ?_;push_cast;refine cVt qWp c34 (.cons (.v _) (.cons (.v _) .nil)) ?_;push_cast;exact aQ rfl
 |true =>
  rw [hp,zEh] at c34
  cases hw:qZ t[i].2 with
 |false =>
   rw [bad (by rw [qAg,hA,hp,hw];rfl)]
   rw [hw] at c18;refine goA 5 ?_;push_cast;refine cVt qWp c34 (.cons (.v _) (.cons (.v _) .nil)) ?_;push_cast(disch:=omega)[yV,yU,yW hlt];refine cVt zS5 c18 (.cons (bJ (n:=t[i].2)) .nil) ?_;push_cast;exact aQ rfl
 |true =>
  rw [hw] at c18
  by_cases hk:t[i].2.1=0
  ·have hkd:decide (t[i].2.1=0)=true:=i7 hk
   rw [bad (by rw [qAg,hA,hp,hw,hkd];rfl)]
   refine goA 5 ?_;push_cast;refine cVt qWp c34 (.cons (.v _) (.cons (.v _) .nil)) ?_;push_cast(disch:=omega)[yV,yU,yW hlt];refine cVt zS5 c18 (.cons (bJ (n:=t[i].2)) .nil) ?_;push_cast(disch:=omega)[yV,yU,yW hlt];exact aQ rfl
  have hkd:decide (t[i].2.1=0)=false:=b9 hk
  rw [hp,hw,hkd] at hA;simp only [bB4,bDc] at hA
  cases hpv:(decide (i=0) || blt (atE t (i - 1)).1 t[i].1) with
 |false =>
   rw [bad (by rw [qAg,hA,hpv];rfl)]
   simp only [bAx,bA3] at hpv;obtain ⟨m,rfl⟩:∃ m,i=m + 1:=⟨i - 1,by omega⟩
   have hm:m < t.length:=by omega
   have hb:Op.bytesLess t[m].1.toList t[m + 1].1.toList=false:=by
    have:=hpv.2
    rw [bCy,mH hm] at this;exact this
   refine goA 5 ?_;push_cast[hk0];refine cVt qWp c34 (.cons (.v _) (.cons (.v _) .nil)) ?_;push_cast(disch:=omega)[yV,yU,yW hlt,hk0];refine cVt zS5 c18 (.cons (bJ (n:=t[m + 1].2)) .nil) ?_;push_cast(disch:=omega)[yV,yU,yW hlt,hk0,yW hm,hb];exact aQ rfl
 |true =>
  rw [hpv] at hA
  (repeat refine goQ ?_);refine goM (fun _:Unit=>⟨[(0,.lst false (aG t)),(3,.v (.int .i64 i)),(4,.v (.string t[i].1)),(54,.v (.bool false))],[]⟩) (fun _=>True) [0,3,4,54] [] ?_ ?_
  ·rcases bAo i with rfl|hpos
   ·refine goA 3 ?_;push_cast[hk0];refine cVt qWp c34 (.cons (.v _) (.cons (.v _) .nil)) ?_;push_cast(disch:=omega)[yV,yU,yW hlt,hk0];refine cVt zS5 c18 (.cons (bJ (n:=t[0].2)) .nil) ?_;push_cast(disch:=omega)[yV,yU,yW hlt,hk0];exact ⟨(),trivial⟩
   ·obtain ⟨m,rfl⟩:∃ m,i=m + 1:=⟨i - 1,by omega⟩
    have hm:m < t.length:=by omega
    have hb:Op.bytesLess t[m].1.toList t[m + 1].1.toList=true:=by
     simp only [w9,m7] at hpv
     rcases hpv with h|h
     ·omega
     ·rw [bCy,mH hm] at h;exact h
    refine goA 3 ?_;push_cast[hk0];refine cVt qWp c34 (.cons (.v _) (.cons (.v _) .nil)) ?_;push_cast(disch:=omega)[yV,yU,yW hlt,hk0];refine cVt zS5 c18 (.cons (bJ (n:=t[m + 1].2)) .nil) ?_;push_cast(disch:=omega)[yV,yU,yW hlt,hk0,yW hm,hb];exact ⟨(),trivial⟩
  intro S' _ hE _;refine yB [0,3,4,54] [] hE ?_;clear hE;refine goA 1 ?_;push_cast
  have cp:=qFx t[i].1 hsz
  have cg:=pU t (par t[i].1) hl
  have hP:vD t (atE t i)=(decide (par t[i].1={ data:=#[] }) || decide ((aV t (par t[i].1)).1=1)):=by rw [vD,mH hlt]
  have hR:qAg t i=vD t (atE t i):=by rw [qAg,hA,bB4]
  cases he:decide (par t[i].1={ data:=#[] }) with
 |true =>
   have hgood:qAg t i=true:=by rw [hR,hP,he];rfl
   refine goA 5 ?_;push_cast;refine cVt qWo cp (.cons (.v _) .nil) ?_;push_cast(disch:=omega)[he];exact ⟨i + 1,rfl,⟨hlt,fun j hj=>if h:j=i then h ▸ hgood else ha j (by omega)⟩,by omega⟩
 |false =>
   have hk1:∀ b,decide ((aV t (par t[i].1)).1=1)=b→qAg t i=b:=fun b hb=>by rw [hR,hP,he,hb];rfl
   generalize hg:aV t (par t[i].1)=n at cg hk1;obtain ⟨k,d⟩:=n;dsimp only at hk1
   by_cases hk1':k=1
   ·have hgood:=hk1 true (i7 hk1')
    refine goA 5 ?_;push_cast;refine cVt qWo cp (.cons (.v _) .nil) ?_;push_cast[he];refine cVt qWo cp (.cons (.v _) .nil) ?_;push_cast[he];refine cUt 496 qC0 cg (.cons (aD (yT _)) (.cons (.v _) .nil)) ?_;push_cast(disch:=omega)[he];exact ⟨i + 1,rfl,⟨hlt,fun j hj=>if h:j=i then h ▸ hgood else ha j (by omega)⟩,by omega⟩
   ·rw [bad (hk1 false (b9 hk1'))];refine goA 5 ?_;push_cast;refine cVt qWo cp (.cons (.v _) .nil) ?_;push_cast[he];refine cVt qWo cp (.cons (.v _) .nil) ?_;push_cast[he];refine cUt 496 qC0 cg (.cons (aD (yT _)) (.cons (.v _) .nil)) ?_;push_cast(disch:=omega)[he];exact aQ rfl
 ·have hne:i=t.length:=by omega
  subst hne
  have hok:okR t=true:=kP.2 ha
  rw [hok];refine goA 5 ?_;push_cast(disch:=omega)[yV];exact aQ rfl
end Go.Proofs.Y
namespace Go.Tr
open Go
def above (p:Ba) (t:List Ent):Prop:=∀ e ∈ t,blt p e.1=true
open Go.Eng
def zCy (n:Int × Ba):FreshH (cY n):=.agg fun x hx=>by simp at hx;rcases hx with rfl|rfl <;> exact .v _
def zP1 {n:Int × Ba} {ρ ρ':Nat→Value} {w:World} {A:Nat→Prop} {n0:Nat} {v:Value} (h:RepH w A n0 ρ v (cY n)):RepH w A n0 ρ' v (cY n):=by
 cases h with
|agg hn h1 h =>
  refine .agg hn h1 fun j a b=>?_
  have:=h j a b
  match j,b with
 |0,_=>rw [bL this];exact .v _
 |1,_=>rw [bL this];exact .v _
def zE1 {P:Program} {T:HS} {f:FuncId} {args args':List HV} {n:Int × Ba} {K:HV→Prop} (hc:aB P f=true) (H:HFun P f args' (fun h st=>h=cY n∧st=[])) (hl:Lends T.st args args') (hK:K (cY n)):zMu P f args T K :=
 yGm hc H (zCy n) (fun ρ ρ' w A n v h=>zP1 h) hl hK
def qK2 {t:List Ent} (h:okR t=true):∀ e ∈ t,pOk e.1 5=true:=fun e he=>by
 obtain ⟨i,hi,rfl⟩:=p9 he
 have:=kP.1 h i hi
 simp only [qAg,qCx,g9] at this;rw [mH hi] at this;exact this.1.1
end Go.Tr
namespace Go.Eng
open Go Go.RowKit
section
variable {P:Program} {N:Nat} {x:Code} {Q:dP} {c:Ctx} {S S':HS} {look:Nat→Option Value} {w:World}
theorem zFk (id:Nat) {ty sz:Nat} {nw:Bool} {els:List (List HV)} (ys:List (List FV)) (he:els=ys.map (List.map FV.h)) (hr:rlk S.st id=some (.hl nw ty sz els)) (hs:(⟨S.env,iC id (.sl nw ty sz ys) S.st⟩:HS)=S') (h:HW P N x Q S'):HW P N x Q S:=fun c l w I=>by
 subst hs he;refine h c l w ?_;obtain ⟨ρ,xs,G⟩:=I
 have hl:=iD id (.sl nw ty sz ys) S.st _ hr
 have hA:∀ b,c.A ρ (iC id (.sl nw ty sz ys) S.st) b→c.A ρ S.st b:=by
  rintro b (h0|⟨i,s,hi,hb⟩)
  ·exact .inl h0
  ·rw [hl] at hi
   by_cases e:i=id
   ·subst e;exact .inr ⟨_,_,hr,hb⟩
   ·rw [b7 e] at hi;exact .inr ⟨i,s,hi,hb⟩
 have back:∀ i r,rlk (iC id (.sl nw ty sz ys) S.st) i=some r→∃ r0,rlk S.st i=some r0:=by
  intro i r hi;rw [hl] at hi
  by_cases e:i=id
  ·subst e;exact ⟨_,hr⟩
  ·rw [b7 e] at hi;exact ⟨r,hi⟩
 refine ⟨ρ,xs,fun i r hi=>?_,fun i j r s b hne hi hj=>?_,fun k y hk=>?_,G.kept,G.a0⟩
 ·dsimp only at hi;rw [hl] at hi
  by_cases e:i=id
  ·subst e;rw [g8 rfl] at hi;simp only [a6] at hi;subst hi
   have R:=G.rows i _ hr
   refine ⟨by simpa [Row.ty,Row.sz,Row.len] using R.own,⟨fun y hy=>?_,fun p k hp hk=>?_⟩,R.new⟩
   ·have:=R.rep.1 _ (m6.2 ⟨y,hy,rfl⟩)
    rwa [c8] at this
   ·obtain ⟨u,u1,u2,u3⟩:=R.rep.2 p k (by rw [c8];exact hp) (by rw [d9,c8];exact hk)
    simp only [d9] at u3;exact ⟨u,u1,u2,(qYl u3).up (a7 _) (fun _ _ _=>rfl) (fun b _=>hA b) (a7 _)⟩
  ·rw [b7 e] at hi;exact (G.rows i r hi).up (a7 _) (fun _ _ _=>rfl) (fun b _=>hA b) (fun _ _=>rfl)
 ·obtain ⟨r0,h1⟩:=back i r hi;obtain ⟨s0,h2⟩:=back j s hj;exact G.apart i j r0 s0 b hne h1 h2
 ·obtain ⟨v,h1,h2⟩:=G.env k y hk;exact ⟨v,h1,h2.up (a7 _) (fun _ _ _=>rfl) (fun b _=>hA b) (a7 _)⟩
theorem qBb {id:Nat} {ops:List Oper} (n:Nat) (hm:P.follows .mixedOrders=true) (hok:yY (cN S.env) ops n=true)
  (h:∀ K:HS→Prop,(∀ S',Q .normal S'→K S')→∀ K1:HS→Prop,(∀ S',iJ (HV2 P N (cJ ops) K (ops.drop n)) S'→K1 S')→HVr P N (cJ ops) K1 (ops.take n) S):HW P N (.region id ops.toArray true) Q S :=
 zZx n hm hok fun K hK=>h K hK _ fun _ h=>h
theorem mA {id:Nat} {ops:List Oper} (n:Nat) (hm:P.follows .mixedOrders=true) (hok:yY (cN S.env) ops n=true)
  (h:∀ K:HS→Prop,(∀ S',Q .normal S'→K S')→∀ K1:HS→Prop,(∀ S',iJ (HV2 P N (cJ ops) K (ops.drop n)) S'→K1 S')→HVq P N (cJ ops) K1 (ops.take n) S):HW P N (.region id ops.toArray true) Q S :=
 HW_drw n hm hok fun K hK=>h K hK _ fun _ h=>h
end
end Go.Eng
namespace Go.Tr
open Go Go.Eng
def spare:Ent:=({ data:=#[115,112,97,114,101] },0,ByteArray.empty)
abbrev rowE (t:List Ent):Row:=.sl true 44 3 (aG t)
def zXi {S:HS} {id sz n:Nat} {ty:Nat} {els:List (List FV)} {Q:HV→aC→Prop} (hr:rlk S.st id=some (.sl true ty sz els)) (hf:∀ x ∈ els,∀ f ∈ x,FreshF f) (q:Q (.vw 0 sz 0 n) [(0,.sl true ty sz els)]):qBf S (.vw id sz 0 n) Q :=
 ⟨[id],by simp,by simp [dup],.vw ..,fun i h r hr'=>by
  simp at h;subst h;rw [hr] at hr';simp only [a6] at hr';subst hr';exact ⟨rfl,hf⟩,by
  rw [HV.ren];simp only [pos,bBm,gD,hr,Row.ren];exact q⟩
end Go.Tr
namespace Go.Proofs.Y
open Go Go.Eng Go.RowKit Go.Tr
def qQ4 (t:List Ent) (hl:t.length≤1048576):HFun Tryz.prog 6 [.lst false (aG t)] (fun h st=>h=.vw 0 3 0 t.length∧st=[(0,rowE (t ++ [spare]))]):=by
 refine bP (N:=12) Tryz.func6 rfl Tryz.ntmps6 Tryz.results6 (by simp) ?_
 have e1:aG t ++ [[FV.v (.string { data:=#[115,112,97,114,101] }),.v (.int .i64 0),.v (.string ByteArray.empty)]]=aG (t ++ [spare]):=mY t _ _ _
 refine goA 5 ?_;push_cast(disch:=omega)[yV,yU,t8,e1];exact zXi rfl (dD _) ⟨rfl,rfl⟩
def vA (t:List Ent) (p:Ba) (hl:t.length≤1048576) (hs:∀ e ∈ t,e.1.size≤1048576) (hp:p.size≤1048576):HFun Tryz.prog 30 [.lst false (aG t),.v (.string p)] (fun h st=>h=.own 0∧st=[(0,rowE (t.filter fun e=>bN e.1 p))]):=by
 refine bP (N:=25) Tryz.func30 rfl Tryz.ntmps30 Tryz.results30 (by simp) ?_
 refine goA 7 ?_;push_cast[yV];refine goL (fun x:Nat × List Ent=>⟨[(1,.v (.string p)),(5,.own 64),(9,.lst false (aG t)),(10,.v (.int .i64 t.length)),(11,.v (.int .i64 x.1))],[(64,rowE x.2)]⟩) (fun x=>x.1≤t.length∧x.2=(t.take x.1).filter fun e=>bN e.1 p) (fun x=>t.length - x.1) [1,5,9,10,11] [64] (0,[]) (by push_cast <;> rfl) ⟨g7 _,rfl⟩ ?_
 rintro ⟨i,out⟩ ⟨hi,ho⟩;simp only at hi ho
 by_cases hlt:i < t.length
 ·have hsz:=hs _ (c7 hlt)
  have hol:out.length≤i:=by
   rw [ho];refine l5 (p7 ..) ?_;rw [l7];omega
  have cu:=qJb t[i].1 p hsz hp
  refine goA 7 ?_;push_cast(disch:=omega)[yV,yU,yW hlt];refine cVt zS3 cu (.cons (.v _) (.cons (.v _) .nil)) ?_;push_cast
  cases hu:bN t[i].1 p with
 |true =>
   have e2:aG out ++ [[FV.v (.string t[i].1),.v (.int .i64 t[i].2.1),.v (.string t[i].2.2)]]=aG (out ++ [t[i]]):=mY out _ _ _
   refine goA 5 ?_;push_cast(disch:=omega)[yV,e2];(repeat ((with_reducible constructor);focus first|omega|decide))
   refine ⟨(i + 1,out ++ [t[i]]),by push_cast <;> rfl,⟨hlt,?_⟩,by dsimp only;omega⟩
   dsimp only;rw [d7 hlt,bA7,← ho];simp [hu]
 |false =>
   refine goA 3 ?_;push_cast(disch:=omega);refine ⟨(i + 1,out),by push_cast <;> rfl,⟨hlt,?_⟩,by dsimp only;omega⟩
   dsimp only;rw [d7 hlt,bA7,← ho];simp [hu]
 ·have hne:i=t.length:=by omega
  subst hne;rw [t6] at ho;rw [ho];refine goA 5 ?_;push_cast(disch:=omega);exact iQ rfl (dD _) ⟨rfl,rfl⟩
end Go.Proofs.Y
namespace Go.Tr
open Go Go.Eng Go.RowKit
def iF:List Ent→List Value
|[]=>[]
|e :: r=>.string e.1 :: .int .i64 e.2.1 :: .string e.2.2 :: iF r
def kK:∀ t:List Ent,(iF t).length=t.length * 3
|[]=>rfl
|e :: r=>by simp only [iF,i6,kK r];omega
def qW:∀ (t:List Ent) (i k:Nat) (hi:i < (aG t).length) (hk:k < (aG t)[i].length),∃ x,(aG t)[i][k]=.v x∧(iF t)[i * 3 + k]?=some x∧x.oneCell'=true
|[],i,k,hi,_=>by simp [aG] at hi
|e :: r,0,k,hi,hk=>by
  have e0:(aG (e :: r))[0]=[.v (.string e.1),.v (.int .i64 e.2.1),.v (.string e.2.2)]:=rfl
  simp only [e0,i6,bAj] at hk
  match k,hk with
 |0,_=>exact ⟨.string e.1,rfl,rfl,rfl⟩
 |1,_=>exact ⟨.int .i64 e.2.1,rfl,rfl,rfl⟩
 |2,_=>exact ⟨.string e.2.2,rfl,rfl,rfl⟩
|e :: r,i + 1,k,hi,hk=>by
  obtain ⟨x,h1,h2,h3⟩:=qW r i k (by simpa [aG] using hi) hk
  refine ⟨x,h1,?_,h3⟩;rw [show (i + 1) * 3 + k=i * 3 + k + 1 + 1 + 1 by omega]
  simpa [iF] using h2
def zYq {w:World} {A:Nat→Prop} {n0:Nat} {arr:List Value} {t:List Ent} (hl:arr.length=t.length * 3) (hw:∀ x ∈ aG t,x.length=3) (h:∀ i k (hi:i < (aG t).length) (hk:k < (aG t)[i].length),∃ u,arr[i * 3 + k]?=some u∧u.oneCell'=true∧RepF w A n0 u (aG t)[i][k]):arr=iF t:=by
 apply bBx
 intro p
 by_cases hp:p < t.length * 3
 ·have hi:p / 3 < (aG t).length:=by rw [yV];omega
  have hk:p % 3 < (aG t)[p / 3].length:=by rw [hw _ (c7 _)];omega
  obtain ⟨u,u1,-,u3⟩:=h (p / 3) (p % 3) hi hk;obtain ⟨x,h1,h2,-⟩:=qW t (p / 3) (p % 3) hi hk;rw [h1] at u3
  cases u3
  rw [show p / 3 * 3 + p % 3=p by omega] at u1 h2
  rw [u1,h2]
 ·rw [bA1 (by omega),bA1 (by rw [kK];omega)]
end Go.Tr
namespace Go.Proofs.Y
open Go Go.Eng Go.RowKit Go.Tr Go.Lib
def qFh {b:Nat} {t:TypeId}:∀ (vs:List Value) (o:Nat) {w:World} {cs:Array Value},Blk w b cs t→o + vs.length≤cs.size→Blk (w.setCells b o vs) b (splice cs.toList o vs).toArray t∧Only b w (w.setCells b o vs)
|[],o,w,cs,h,hl=>by
  have e:(splice cs.toList o []).toArray=cs:=by simp [splice]
  rw [e];exact ⟨h,Only.refl _ _⟩
|v :: vs,o,w,cs,h,hl=>by
  simp only [i6] at hl
  have h1:Blk (w.setCell ⟨b,o,none⟩ v) b (cs.setIfInBounds o v) t:=by
   rw [setCell_eq_setRow w b o cs t _ v h];exact sL h _
  have o1:Only b w (w.setCell ⟨b,o,none⟩ v):=by
   rw [setCell_eq_setRow w b o cs t _ v h];exact pF w b _
  obtain ⟨h2,o2⟩:=qFh vs (o + 1) h1 (by simp;omega)
  have e:splice (cs.setIfInBounds o v).toList (o + 1) vs=splice cs.toList o (v :: vs):=by
   apply bBx
   intro j;rw [dQ _ _ _ (by simp;omega),dQ _ _ _ (by simp;omega)]
   simp only [bC9,bCe,i6]
   by_cases hj:j=o
   ·subst hj;rw [b7 (by omega),g8 rfl,g8 (by simp;omega),g8 (by omega)]
    simp
   ·by_cases h3:o + 1≤j∧j < o + 1 + vs.length
    ·rw [g8 h3,g8 (by omega)]
     obtain ⟨k,rfl⟩:∃ k,j=o + 1 + k:=⟨j - (o + 1),by omega⟩
     rw [show o + 1 + k - (o + 1)=k by omega,show o + 1 + k - o=k + 1 by omega,bA2]
    ·rw [b7 h3,b7 (by omega),b7 (by omega)]
  rw [e] at h2;exact ⟨h2,o1.trans o2⟩
def zNp {c:Ctx} {S:HS} {look:Nat→Option Value} {w:World} {ρ:Nat→Value} {xs:Nat→List Value} (G:Eng.Good c S look w ρ xs) {id:Nat} {t:List Ent} (hr:rlk S.st id=some (rowE t)) (h0:0 < t.length) :
  ∃ g cap cur,ρ id=.slice (some ⟨g,0,none⟩) t.length cap∧Blk w g cur 44∧t.length≤cap∧cap≤maxLen∧cur.size=cap * 3∧cur.toList.take (t.length * 3)=iF t:=by
 obtain ⟨o1,o2,o3⟩:=dC G hr;rw [yV] at o1;obtain ⟨g,cap,hv,h1,h2,-⟩:=fM o1 h0;rw [hv] at o1;obtain ⟨cur,b1,b2,b3,b4,b5⟩:=qBz o1
 have:=zYq o1.1 o2 o3
 exact ⟨g,cap,cur,hv,b1,b2,b3,b4,by rw [b5,this]⟩
end Go.Proofs.Y
namespace Go.Proofs.Y
open Go.Shelf
def Tryz.sortE_ren:Go.Shelf.Ren:=⟨fun|6=>67|15=>83|14=>86|28=>113|29=>114|20=>116|21=>117|22=>118|23=>119|24=>120|25=>121|26=>122|27=>123|46=>146|47=>138|48=>139|49=>147|50=>148|57=>159|n=>n,fun|22=>22|24=>44|25=>110|3=>3|39=>122|0=>0|53=>151|55=>153|4=>4|46=>145|45=>144|50=>82|5=>5|9=>9|66=>180|70=>184|76=>198|77=>199|n=>n,fun|n=>n⟩
def Tryz.sortE:Go.Proofs.SlLaysF0.n6 Tryz.prog Tryz.sortE_ren:={
 mixed:=by kernel_rfl
 f6:=⟨Tryz.f67.name,by decide,Tryz.func67.trans (congrArg some (by kernel_rfl))⟩
 f14:=⟨Tryz.f86.name,by decide,Tryz.func86.trans (congrArg some (by kernel_rfl))⟩
 f15:=Tryz.func83.trans (congrArg some (by kernel_rfl))
 f20:=⟨Tryz.f116.name,by decide,Tryz.func116.trans (congrArg some (by kernel_rfl))⟩
 f21:=⟨Tryz.f117.name,by decide,Tryz.func117.trans (congrArg some (by kernel_rfl))⟩
 f22:=⟨Tryz.f118.name,by decide,Tryz.func118.trans (congrArg some (by kernel_rfl))⟩
 f23:=⟨Tryz.f119.name,by decide,Tryz.func119.trans (congrArg some (by kernel_rfl))⟩
 f24:=⟨Tryz.f120.name,by decide,Tryz.func120.trans (congrArg some (by kernel_rfl))⟩
 f25:=⟨Tryz.f121.name,by decide,Tryz.func121.trans (congrArg some (by kernel_rfl))⟩
 f26:=⟨Tryz.f122.name,by decide,Tryz.func122.trans (congrArg some (by kernel_rfl))⟩
 f27:=⟨Tryz.f123.name,by decide,Tryz.func123.trans (congrArg some (by kernel_rfl))⟩
 f28:=Tryz.func113.trans (congrArg some (by kernel_rfl))
 f29:=Tryz.func114.trans (congrArg some (by kernel_rfl))
 f46:=⟨Tryz.f146.name,by decide,Tryz.func146.trans (congrArg some (by kernel_rfl))⟩
 f47:=Tryz.func138.trans (congrArg some (by kernel_rfl))
 f48:=Tryz.func139.trans (congrArg some (by kernel_rfl))
 f49:=⟨Tryz.f147.name,by decide,Tryz.func147.trans (congrArg some (by kernel_rfl))⟩
 f50:=⟨Tryz.f148.name,by decide,Tryz.func148.trans (congrArg some (by kernel_rfl))⟩
 f57:=⟨Tryz.f159.name,by decide,Tryz.func159.trans (congrArg some (by kernel_rfl))⟩
 t0:=Tryz.underlying0
 a0:=Tryz.isAgg0
 z0:=Tryz.sizeOf0
 v0:=Tryz.zeroValue0
 t3:=Tryz.underlying3
 a3:=Tryz.isAgg3
 z3:=Tryz.sizeOf3
 v3:=Tryz.zeroValue3
 t4:=Tryz.underlying4
 a4:=Tryz.isAgg4
 z4:=Tryz.sizeOf4
 v4:=Tryz.zeroValue4
 t5:=Tryz.underlying5
 a5:=Tryz.isAgg5
 z5:=Tryz.sizeOf5
 v5:=Tryz.zeroValue5
 t9:=Tryz.underlying9
 a9:=Tryz.isAgg9
 z9:=Tryz.sizeOf9
 v9:=Tryz.zeroValue9
 t22:=Tryz.underlying22
 a22:=Tryz.isAgg22
 z22:=Tryz.sizeOf22
 v22:=Tryz.zeroValue22
 t25:=Tryz.underlying110
 a25:=Tryz.isAgg110
 z25:=Tryz.sizeOf110
 v25:=Tryz.zeroValue110
 t39:=Tryz.underlying122
 a39:=Tryz.isAgg122
 z39:=Tryz.sizeOf122
 v39:=Tryz.zeroValue122
 t45:=Tryz.underlying144
 a45:=Tryz.isAgg144
 z45:=Tryz.sizeOf144
 v45:=Tryz.zeroValue144
 t46:=Tryz.underlying145
 a46:=Tryz.isAgg145
 z46:=Tryz.sizeOf145
 v46:=Tryz.zeroValue145
 t50:=Tryz.underlying82
 a50:=Tryz.isAgg82
 z50:=Tryz.sizeOf82
 v50:=Tryz.zeroValue82
 t53:=Tryz.underlying151
 a53:=Tryz.isAgg151
 z53:=Tryz.sizeOf151
 v53:=Tryz.zeroValue151
 t55:=Tryz.underlying153
 a55:=Tryz.isAgg153
 z55:=Tryz.sizeOf153
 v55:=Tryz.zeroValue153
 t66:=Tryz.underlying180
 a66:=Tryz.isAgg180
 z66:=Tryz.sizeOf180
 v66:=Tryz.zeroValue180
 t70:=Tryz.underlying184
 a70:=Tryz.isAgg184
 z70:=Tryz.sizeOf184
 v70:=Tryz.zeroValue184
 t76:=Tryz.underlying198
 a76:=Tryz.isAgg198
 z76:=Tryz.sizeOf198
 v76:=Tryz.zeroValue198
 t77:=Tryz.underlying199
 a77:=Tryz.isAgg199
 z77:=Tryz.sizeOf199
 v77:=Tryz.zeroValue199 }
end Go.Proofs.Y
namespace Go.Eng
open Go Go.RowKit
section
variable {P:Program} {N:Nat} {Q:dP} {c:Ctx} {S:HS}
def yFh:HV→Bool
|.v _=>true
|.own _=>true
|.vw _ _ _ _=>true
|.ptr _ _ _ _=>true
|_=>false
structure HeadO (P:Program) (N:Nat) (ops:List Oper) (E0:aT) (st st':aC) (hs:Nat→HV) (k i:Nat) (o:Oper):Prop where
 guard:o.guard=none
 lt:jP N o.dst
 yFh:yFh (hs i)=true
 head:∃ T:aT,FrOk ops E0 hs i T∧(∀ t x,hlk T t=some x→t ∈ cH o.op) ∧
  (i≠k→eF o.op=true∧(∃ cnd,cnd∧hop P ⟨T,st⟩ 0 o.op=.go cnd (hs i) ⟨T,st⟩)∧∃ cnd,cnd∧hop P ⟨T,st'⟩ 0 o.op=.go cnd (hs i) ⟨T,st'⟩) ∧
  (i=k→∃ args ats,o.op=.call ⟨.builtin .copy,args,ats⟩∧(∃ cnd,cnd∧wP ⟨T,st⟩ (ats == #[eB ats,eB ats]) (bV P (eB ats)) (jF T args.toList)=.go cnd (hs i) ⟨T,st'⟩) ∧
   ∃ cnd,cnd∧wP ⟨T,st'⟩ (ats == #[eB ats,eB ats]) (bV P (eB ats)) (jF T args.toList)=.go cnd (hs i) ⟨T,st'⟩)
end
def qKt (keys:List Nat) (ops:List Oper) (n:Nat):Bool :=
 (decide (n≤ops.length)) && ops.all zEk &&
 ((List.range ops.length).all fun i=>match ops[i]? with
 |some o=>o.after.all fun e=>!Region.binds .any e || decide (e.on < i)
 |none=>true) &&
 ((List.range n).all fun i=>match ops[i]? with
 |none=>false
 |some o=>(o.looksAt ops.toArray).all fun t =>
   ((List.range n).all fun j=>aZ ops j != some t || (decide (j < i) && fV ops i j) || fV ops j i) &&
   (((List.range i).any fun j=>aZ ops j == some t) || keys.contains t)) &&
 ((List.range n).all fun i=>(List.range i).all fun j=>aZ ops i == none || aZ ops i != aZ ops j) &&
 ((List.range ops.length).all fun i=>decide (i < n) || (List.range i).all fun j=>(List.range (i + 1)).any fun k=>decide (j < k) && fV ops k j)
section
variable {P:Program} {N:Nat} {ops:List Oper} {n:Nat} {l:Env} {vs:Nat→Value}
structure RegOkW (keys:List Nat) (ops:List Oper) (n:Nat):Prop where
 hn:n≤ops.length
 sel:∀ (i:Nat) (o:Oper),ops[i]?=some o→∀ (cs:Array SelectCase) (b:Bool),o.op≠Op.select cs b
 down:∀ (i:Nat) (o:Oper) (e:Edge),ops[i]?=some o→e ∈ o.after→Region.binds .any e=true→e.on < i
 looks:∀ (i:Nat) (o:Oper) (t:Nat),i < n→ops[i]?=some o→t ∈ o.looksAt ops.toArray→(∀ j,j < n→aZ ops j=some t→(j < i∧fV ops i j=true)∨fV ops j i=true)∧((∃ j,j < i∧aZ ops j=some t)∨t ∈ keys)
 uniq:∀ i j,i < n→j < i→aZ ops i=none∨aZ ops i≠aZ ops j
 tail:∀ i j,i < ops.length→n≤i→j < i→∃ k,k≤i∧j < k∧fV ops k j=true
theorem qHf {keys:List Nat} (h:qKt keys ops n=true):RegOkW keys ops n:=by
 simp only [qKt,g9,m7,o8,bA9] at h;obtain ⟨⟨⟨⟨⟨h1,h2⟩,h3⟩,h4⟩,h5⟩,h6⟩:=h;refine ⟨h1,?_,?_,?_,?_,?_⟩
 ·intro i o ho cs b e
  have:=h2 o (v6 ho)
  simp [zEk,e] at this
 ·intro i o e ho he hb
  have hi:i < ops.length:=(i5.1 ho).1
  have:=h3 i hi
  rw [ho] at this;simp only [bDr] at this
  have:=this e he
  rw [hb] at this
  simpa using this
 ·intro i o t hi ho ht
  have:=h4 i hi
  rw [ho] at this;simp only [o8] at this
  have:=this t ht
  simp only [g9,o8,bA9,w9,bBs,bEp,ne_eq,m7,bAc,List.contains_iff_mem] at this;obtain ⟨a1,a2⟩:=this;exact ⟨fun j hj hd=>by
   rcases a1 j hj with (e|e)|e
   ·exact absurd hd e
   ·exact .inl e
   ·exact .inr e,a2⟩
 ·intro i j hi hj
  have:=h5 i hi j hj
  simpa only [w9,bAc,bEp] using this
 ·intro i j hi hni hj
  have:=h6 i hi
  simp only [w9,m7,o8,bA9,bBs,g9] at this
  rcases this with h|h
  ·omega
  ·obtain ⟨k,h1,h2,h3⟩:=h j hj;exact ⟨k,by omega,h2,h3⟩
theorem qA3 {keys:List Nat} (ok:RegOkW keys ops n) {rd:Option Nat} {Q:Exit→Act→World→Prop}:∀ (fuel m:Nat) (listed:Array Bool) (a:Act) (w:World),m + fuel=ops.length→n≤m→listed.size=ops.length →
  (∀ i,i < ops.length→(listed.getD i false=true↔i < m))→wpListIn (FW rd) 0 P ops.toArray Q (ops.drop m) a w→wpAnyIn (FW rd) 0 P .any ops.toArray Q fuel listed a w
|0,m,listed,a,w,hm,_,hs,hl,h=>by
  have hmem:∀ i,¬ i ∈ Region.ready .any ops.toArray listed:=fun i hi=>by
   obtain ⟨h0,o,ho,_⟩:=bCg.1 hi
   have hi':i < ops.length:=by simpa using (y4.1 ho).1
   have:=(hl i hi').2 (by omega)
   rw [getD_both h0] at this;cases this
  refine ⟨bDw.2 hmem,?_⟩;rw [u0 (by omega)] at h
  exact h
|fuel + 1,m,listed,a,w,hm,hnm,hs,hl,h=>by
  have hmlt:m < ops.length:=by omega
  have ho:ops[m]?=some (ops[m]'hmlt):=c9 _
  have hmem:∀ i,i ∈ Region.ready .any ops.toArray listed→i=m:=fun i hi=>by
   obtain ⟨h0,o,ho,_⟩:=bCg.1 hi
   have hi':i < ops.length:=by simpa using (y4.1 ho).1
   have h1:¬ i < m:=fun hlt=>by
    have:=(hl i hi').2 hlt
    rw [getD_both h0] at this;cases this
   rcases s4 m i with hlt|hge
   ·exfalso
    have key:∀ d j,i - j=d→m≤j→j < i→listed.getD j false=true:=by
     intro d
     induction d using Nat.strongRecOn with
    |_ d ih =>
      intro j hd hmj hji;obtain ⟨k,hk1,hk2,hk3⟩:=ok.tail i j hi' (by omega) hji
      rcases s4 k i with hki|hki
      ·have hlk:=ih (i - k) (by omega) k rfl (by omega) hki
       have:=(hl k (by omega)).1 hlk
       omega
      ·have:k=i:=by omega
       subst this;exact eR hi hk3
    have:=(hl m hmlt).1 (key _ m rfl (a7 _) hlt)
    omega
   ·omega
  have hm_ready:m ∈ Region.ready .any ops.toArray listed:=by
   refine bCg.2 ⟨?_,ops[m]'hmlt,by simp,fun e he hb=>?_⟩
   ·have:listed.getD m false≠true:=fun e=>by have:=(hl m hmlt).1 e;omega
    have h2:m < listed.size:=by omega
    simp only [Array.getD,h2,bCr] at this ⊢
    simpa using this
   ·have:=ok.down m _ e ho he hb
    exact (hl e.on (by omega)).2 this
  refine ⟨fun h0=>absurd hm_ready (by rw [h0];simp),fun i hi=>?_⟩
  have:=hmem i hi
  subst this;rw [l4 hmlt] at h;unfold wpOpIn;simp only [r8,ho];unfold wpListIn at h
  have next:∀ a' w',wpListIn (FW rd) 0 P ops.toArray Q (ops.drop (i + 1)) a' w'→wpAnyIn (FW rd) 0 P .any ops.toArray Q fuel (listed.setIfInBounds i true) a' w':=fun a' w' h' =>
   qA3 ok fuel (i + 1) _ a' w' (by omega) (by omega) (by simpa using hs) (fun j hj=>by
    by_cases e:i=j
    ·subst e
     have:i < listed.size:=by omega
     simp [this]
    ·rw [bCo false e,hl j hj];omega) h'
  split
  ·rename_i hw;rw [g8 hw] at h;exact Oper.wpIn_mono next h
  ·rename_i hw;rw [b7 hw] at h;exact ⟨h.1,next _ _ h.2⟩
theorem zC9 {keys:List Nat} (ok:RegOkW keys ops n) (F:Fr N) (hk:cC N l=true) (cN:∀ t ∈ keys,∃ v,lk l t=some v) (hlt:DLt N ops n)
  {J:(Nat→Bool)→(Nat→Value)→World→Prop}
  (H:∀ i o,i < n→ops[i]?=some o→∀ (L:Nat→Bool) (vs:Nat→Value) (w:World),J L vs w→L i=false→(∀ j,fV ops i j=true→L j=true)→(∀ k j,L k=true→fV ops k j=true→L j=true) →
   ∃ b,gd (iG l ops vs i) (cJ ops) o.guard (·=b)∧(b=true→Yields P (execOp (evD (iG l ops vs i)) o) w fun u w'=>J (fun j=>if j=i then true else L j) (fun j=>if j=i then u else vs j) w')∧(b=false→J (fun j=>if j=i then true else L j) (fun j=>if j=i then undef else vs j) w))
  {Q:Exit→Act→World→Prop} (hT:∀ (L:Nat→Bool) (vs:Nat→Value) (w:World),J L vs w→(∀ j,j < n→L j=true)→wpListIn (FW F.ds.2) 0 P ops.toArray Q (ops.drop n) (mk F (iG l ops vs n)) w) :
  ∀ (fuel:Nat) (listed:Array Bool) (a:Act) (w:World) (vs:Nat→Value),unl listed=fuel→Mid N (fun _=>True) ops n (kW F.base l) F.ds.1 vs listed a w→J (fun j=>listed.getD j false) vs w→wpAnyIn (FW F.ds.2) 0 P .any ops.toArray Q fuel listed a w:=by
 have uniq:∀ i j t,i < n→j < n→aZ ops i=some t→aZ ops j=some t→i=j:=by
  intro i j t hi hj h1 h2
  rcases bAw i j with h|h|h
  ·rcases ok.uniq j i hj h with e|e
   ·rw [h2] at e;cases e
   ·exact absurd (h2.trans h1.symm) e
  ·exact h
  ·rcases ok.uniq i j hi h with e|e
   ·rw [h1] at e;cases e
   ·exact absurd (h1.trans h2.symm) e
 have final:∀ (listed:Array Bool) (a:Act) (w:World) (vs:Nat→Value),Mid N (fun _=>True) ops n (kW F.base l) F.ds.1 vs listed a w→(∀ j,j < n→listed.getD j false=true)→a=mk F (iG l ops vs n):=by
  intro listed a w vs M hall;obtain ⟨tm,df⟩:=a
  have hd:df=F.ds.1:=M.defers
  subst hd;show Act.mk _ _=Act.mk _ _
  congr 1
  apply bC0
  intro t
  by_cases h:∃ j,j < n∧aZ ops j=some t
  ·obtain ⟨j,hj,hd⟩:=h
   have h1:=M.new j t hj (hall j hj) hd
   have h2:=(nN (l:=l) (vs:=vs) hlt F.hN hd (fun k hk hne e=>hne (uniq k j t hk hj e hd)) n (a7 _) hj).2
   exact h1.trans h2.symm
  ·have h':∀ j,j < n→aZ ops j≠some t:=fun j hj e=>h ⟨j,hj,e⟩
   have h1:=M.old t (fun j hj _=>h' j hj)
   have h2:=(pN (l:=l) (vs:=vs) F.base t n h').2
   exact h1.trans h2.symm
 have slot:∀ (listed:Array Bool) (a:Act) (w:World) (vs:Nat→Value) (i:Nat) (o:Oper) (t:Nat),Mid N (fun _=>True) ops n (kW F.base l) F.ds.1 vs listed a w→i < n→ops[i]?=some o→i ∈ Region.ready .any ops.toArray listed→t ∈ o.looksAt ops.toArray →
   ∃ X,a.tmps[t]?=some X∧lk (iG l ops vs i) t=some X:=by
  intro listed a w vs i o t M hi ho hr ht;obtain ⟨l1,l2⟩:=ok.looks i o t hi ho ht
  have hdown:∀ j k,fV ops j k=true→k < j:=fun j k e=>by
   unfold fV at e;split at e
   ·rename_i oj hoj;simp only [bEq] at e;obtain ⟨q,hq,e⟩:=e;simp only [g9,bAc] at e
    have:=ok.down j oj _ hoj (bEr hq) e.1
    omega
   ·cases e
  have hnl:¬ listed.getD i false=true:=fun e=>by
   have:=(bCg.1 hr).1
   rw [getD_both this] at e;cases e
  by_cases h:∃ j,j < i∧aZ ops j=some t
  ·obtain ⟨j,hj,hd⟩:=h
   rcases l1 j (by omega) hd with ⟨hji,he⟩|he
   ·exact ⟨vs j,M.new j t (by omega) (eR hr he) hd,(nN (l:=l) (vs:=vs) hlt F.hN hd (fun k hk hne e=>hne (uniq k j t hk (by omega) e hd)) i (by omega) hji).1⟩
   ·have:=hdown j i he;omega
  ·have h':∀ j,j < i→aZ ops j≠some t:=fun j hj e=>h ⟨j,hj,e⟩
   rcases l2 with ⟨j,hj,hd⟩|hkey
   ·exact absurd hd (h' j hj)
   ·obtain ⟨v,hv⟩:=cN t hkey;refine ⟨v,?_,?_⟩
    ·rw [M.old t (fun j hj hl hd=>by
      rcases l1 j hj hd with ⟨hji,-⟩|he
      ·exact h' j hji hd
      ·exact hnl (M.clos j i hl he))];exact lL F hk hv
    ·rw [(pN (l:=l) (vs:=vs) F.base t i h').1];exact hv
 intro fuel
 induction fuel with
|zero =>
  intro listed a w vs hu M MR
  have hall:∀ j,j < ops.length→listed.getD j false=true:=fun j hj=>qJ2 hu (by rw [M.size];exact hj)
  have hn:n=ops.length:=by
   rcases s4 n ops.length with h|h
   ·have:=M.heads n (hall n h);omega
   ·have:=ok.hn;omega
  have ha:=final listed a w vs M (fun j hj=>hall j (by omega))
  subst ha;exact qA3 ok 0 n listed _ w (by omega) (a7 _) M.size (fun i hi=>⟨fun _=>by omega,fun _=>hall i hi⟩) (hT _ vs w MR fun j hj=>hall j (by omega))
|succ fuel ih =>
  intro listed a w vs hu M MR
  by_cases hdone:∀ j,j < n→listed.getD j false=true
  ·have ha:=final listed a w vs M hdone
   subst ha
   have hcount:∀ (m:Nat) (x:Array Bool),x.size=ops.length→(∀ i,i < ops.length→(x.getD i false=true↔i < m))→m≤ops.length→m + unl x=ops.length:=by
    intro m;generalize hd:ops.length - m=d
    induction d generalizing m with
   |zero =>
     intro x hx hl hm
     have:unl x=0:=by
      unfold unl;rw [bBi,bB1];intro b hb;obtain ⟨i,hi,rfl⟩:=p9 hb
      have hi':i < x.size:=by simpa using hi
      have:=(hl i (by omega)).2 (by omega)
      simp only [Array.getD,hi',bCr] at this;simp [show x.toList[i]=true from this]
     omega
   |succ d ihd =>
     intro x hx hl hm
     have hmlt:m < ops.length:=by omega
     have h0:x.getD m true=false:=by
      have:¬ x.getD m false=true:=fun e=>by have:=(hl m hmlt).1 e;omega
      have hm':m < x.size:=by omega
      simp only [Array.getD,hm',bCr] at this ⊢
      simpa using this
     have:=ihd (m + 1) (by omega) (x.setIfInBounds m true) (by simpa using hx) (fun i hi=>by
      by_cases e:m=i
      ·subst e
       have:m < x.size:=by omega
       simp [this]
      ·rw [bCo false e,hl i hi];omega) (by omega)
     have:=qBj h0
     omega
   have hl:∀ i,i < ops.length→(listed.getD i false=true↔i < n):=fun i hi=>⟨M.heads i,hdone i⟩
   have:=hcount n listed M.size hl ok.hn
   exact qA3 ok (fuel + 1) n listed _ w (by omega) (a7 _) M.size hl (hT _ vs w MR fun j hj=>hdone j hj)
  ·have hex:∃ j,j < n∧listed.getD j false≠true:=by
    refine v7 fun hne=>hdone fun j hj=>?_
    refine v7 fun h=>hne ⟨j,hj,h⟩
   have hn:=ok.hn
   have hready:∃ j,j ∈ Region.ready .any ops.toArray listed:=by
    obtain ⟨j,hj,hjl⟩:=hex
    have:∀ d j,j=d→j < n→listed.getD j false≠true→∃ j,j ∈ Region.ready .any ops.toArray listed:=by
     intro d
     induction d using Nat.strongRecOn with
    |_ d ihd =>
      intro j hd hj hjl;subst hd
      have ho:ops[j]?=some (ops[j]'(by omega)):=c9 _
      by_cases hall:∀ e ∈ (ops[j]'(by omega)).after,Region.binds .any e=true→listed.getD e.on false=true
      ·refine ⟨j,bCg.2 ⟨?_,ops[j]'(by omega),by simp,hall⟩⟩
       have h2:j < listed.size:=by rw [M.size];omega
       simp only [Array.getD,h2,bCr] at hjl ⊢
       simpa using hjl
      ·have:∃ e ∈ (ops[j]'(by omega)).after,Region.binds .any e=true∧listed.getD e.on false≠true:=by
        refine v7 fun hne=>hall fun e he hb=>?_
        refine v7 fun h=>hne ⟨e,he,hb,h⟩
       obtain ⟨e,he,hb,hl⟩:=this
       have hlt:=ok.down j _ e ho he hb
       exact ihd e.on hlt e.on rfl (by omega) hl
    exact this j j rfl hj hjl
   obtain ⟨j0,hj0⟩:=hready;refine ⟨fun h0=>absurd hj0 (by rw [h0];simp),fun i hi=>?_⟩
   obtain ⟨hun,o,ho,hall⟩:=bCg.1 hi
   have ho':ops[i]?=some o:=by simpa using ho
   have hilt:i < ops.length:=(i5.1 ho').1
   have hin:i < n:=by
    rcases s4 i n with h|h
    ·exact h
    ·exfalso
     apply hdone
     have key:∀ d j,i - j=d→j < i→listed.getD j false=true:=by
      intro d
      induction d using Nat.strongRecOn with
     |_ d ihd =>
       intro j hd hji;obtain ⟨k,hk1,hk2,hk3⟩:=ok.tail i j hilt h hji
       rcases s4 k i with hki|hki
       ·exact M.clos k j (ihd (i - k) (by omega) k rfl hki) hk3
       ·have:k=i:=by omega
        subst this;exact eR hi hk3
     exact fun j hj=>key _ j rfl (by omega)
   have hu':unl (listed.setIfInBounds i true)=fuel:=by have:=qBj hun;omega
   have hdi:aZ ops i=o.dst:=by unfold aZ;rw [ho'];rfl
   have hlt':jP N o.dst:=by
    cases hd:o.dst with
   |none=>trivial
   |some t=>exact hlt i t hin (hdi.trans hd)
   let nxt:Value→Nat→Value:=fun u j=>if j=i then u else vs j
   have nxt_i:∀ u,nxt u i=u:=fun u=>g8 rfl
   have nxt_ne:∀ u j,j≠i→nxt u j=vs j:=fun u j h=>b7 h
   have hil:i < listed.size:=by rw [M.size];exact hilt
   have eL:(fun j=>(listed.setIfInBounds i true).getD j false)=fun j=>if j=i then true else listed.getD j false:=by
    funext j
    by_cases e:j=i
    ·subst e;rw [g8 rfl];simp [hil]
    ·rw [b7 e,bCo false (bE1 e)]
   have rest:∀ u w',J (fun j=>if j=i then true else listed.getD j false) (nxt u) w'→J (fun j=>(listed.setIfInBounds i true).getD j false) (nxt u) w':=fun u w' h=>by rw [eL];exact h
   have step:∀ u w',Mid N (fun _=>True) ops n (kW F.base l) F.ds.1 (nxt u) (listed.setIfInBounds i true) (a.put o.dst u) w':=by
    intro u w'
    have hlt:=hlt'
    have hset:∀ j,(listed.setIfInBounds i true).getD j false=true→j=i∨listed.getD j false=true:=by
     intro j h
     by_cases e:i=j
     ·exact .inl e.symm
     ·rw [bCo false e] at h;exact .inr h
    have hseti:(listed.setIfInBounds i true).getD i false=true:=by
     have:i < listed.size:=by rw [M.size];exact hilt
     simp [this]
    refine ⟨by simpa using M.size,?_,?_,?_,?_,?_,?_,trivial⟩
    ·intro k j hk he
     rcases hset k hk with rfl|hk
     ·exact bB5 (eR hi he)
     ·exact bB5 (M.clos k j hk he)
    ·intro k hk
     rcases hset k hk with rfl|hk
     ·exact hin
     ·exact M.heads k hk
    ·cases hd:o.dst <;> exact M.defers
    ·cases hd:o.dst with
    |none=>exact M.tsize
    |some d=>simp only [Act.put,bCf];exact M.tsize
    ·intro j t hj hjl hd
     rcases hset j hjl with rfl|hjl'
     ·rw [hdi] at hd;rw [hd] at hlt ⊢;simp only [Act.put];rw [r9 (by rw [M.tsize];exact hlt),nxt_i]
     ·by_cases e:j=i
      ·subst e;rw [hdi] at hd;rw [hd] at hlt ⊢;simp only [Act.put];rw [r9 (by rw [M.tsize];exact hlt),nxt_i]
      ·rw [nxt_ne u j e]
       have h1:=M.new j t hj hjl' hd
       cases hdo:o.dst with
      |none=>exact h1
      |some d =>
        have hne:d≠t:=fun e'=>e (uniq j i t hj hin hd (by rw [hdi,hdo,e']))
        simp only [Act.put];rw [r7 hne];exact h1
    ·intro t ht
     have h1:=M.old t (fun j hj hjl=>ht j hj (bB5 hjl))
     have h2:=ht i hin hseti
     rw [hdi] at h2
     cases hdo:o.dst with
    |none=>exact h1
    |some d =>
      have hne:d≠t:=fun e'=>h2 (by rw [hdo,e'])
      simp only [Act.put];rw [r7 hne];exact h1
   have hli:listed.getD i false=false:=by
    simp only [Array.getD,hil,bCr] at hun ⊢
    simpa using hun
   obtain ⟨b,hb,hbt,hbf⟩:=H i o hin ho' (fun j=>listed.getD j false) vs w MR hli (fun j he=>eR hi he) (fun k j hk he=>M.clos k j hk he)
   have hw:Region.wanted o (yielded ops.toArray a.tmps)=b:=by
    unfold gd at hb;split at hb
    ·rename_i hg;simp only [Region.wanted,hg];exact hb
    ·rename_i g want hg;split at hb
     ·rename_i d hd;split at hb
      ·rename_i bb hbb
       have hdd:aZ ops g=some d:=by
        unfold aZ;simp only [cJ,y9,bAg] at hd;obtain ⟨x,hx,hx'⟩:=hd;simp [hx,hx']
       obtain ⟨X,hX1,hX2⟩:=slot listed a w vs i o d M hin ho' hi (jW hg hdd);rw [hbb] at hX2
       cases hX2
       have:yielded ops.toArray a.tmps g=some bb:=by
        unfold yielded;unfold aZ at hdd;simp only [r8,hdd,bBc,hX1]
       simp only [Region.wanted,hg,this];rw [← hb]
       cases bb <;> cases want <;> rfl
      ·rename_i bb hnb hbb
       have hdd:aZ ops g=some d:=by
        unfold aZ;simp only [cJ,y9,bAg] at hd;obtain ⟨x,hx,hx'⟩:=hd;simp [hx,hx']
       obtain ⟨X,hX1,hX2⟩:=slot listed a w vs i o d M hin ho' hi (jW hg hdd);rw [hbb] at hX2
       cases hX2
       have:yielded ops.toArray a.tmps g=none:=by
        unfold yielded;unfold aZ at hdd;simp only [r8,hdd,bBc,hX1];split
        ·rename_i b' e;cases e;exact (hnb b' rfl).elim
        ·rfl
       simp only [Region.wanted,hg,this];rw [← hb];rfl
      ·exact hb.elim
     ·exact hb.elim
   unfold wpOpIn;simp only [ho,hw]
   cases b with
  |true =>
    simp only [bBm];refine (fD ?_)
    have hcong:execOp a.eval o=execOp (evD (iG l ops vs i)) o:=by
     refine execOp_congr o (ok.sel i o ho') (fun x hx=>?_)
     cases x with
    |tmp t =>
      obtain ⟨X,hX1,hX2⟩:=slot listed a w vs i o t M hin ho' hi (vQ hx);simp [Act.eval,evD,ev,hX1,hX2]
    |const c=>rfl
    |global g=>rfl
    |func f=>rfl
    rw [hcong];exact (hbt rfl).mono fun u w' hu=>ih _ _ _ _ hu' (step u w') (rest u w' hu)
  |false =>
    simp only [bA0,bCz];exact ⟨fun _ _=>trivial,ih _ _ _ _ hu' (step undef w) (rest undef w (hbf rfl))⟩
end
section
variable {P:Program} {N:Nat} {Q:qBa} {l:Env} {w:World}
theorem zTn {id:Nat} {ops:List Oper} (keys:List Nat) (n:Nat) (hm:P.follows .mixedOrders=true) (cN:tN l=keys) (hok:qKt keys ops n=true) (hlt:DLt N ops n)
  {J:(Nat→Bool)→(Nat→Value)→World→Prop} (hJ:J (fun _=>false) (fun _=>undef) w.drew)
  (H:∀ i o,i < n→ops[i]?=some o→∀ (L:Nat→Bool) (vs:Nat→Value) (w:World),J L vs w→L i=false→(∀ j,fV ops i j=true→L j=true)→(∀ k j,L k=true→fV ops k j=true→L j=true) →
   ∃ b,gd (iG l ops vs i) (cJ ops) o.guard (·=b)∧(b=true→Yields P (execOp (evD (iG l ops vs i)) o) w fun u w'=>J (fun j=>if j=i then true else L j) (fun j=>if j=i then u else vs j) w')∧(b=false→J (fun j=>if j=i then true else L j) (fun j=>if j=i then undef else vs j) w))
  (hT:∀ (L:Nat→Bool) (vs:Nat→Value) (w:World),J L vs w→(∀ j,j < n→L j=true)→VC P N (cJ ops) (fun l' w'=>Q .normal l' w') (ops.drop n) (iG l ops vs n) w):W P N (.region id ops.toArray true) Q l w:=fun hk F=>by
 have ok:=qHf hok
 refine bEg hm ?_
 have:=zC9 ok F hk (fun t ht=>vS (by rw [cN];exact ht)) hlt H (Q:=qZw N F.ds Q)
  (fun L vs w' hw' hR=>wX F (K:=fun l w=>Q .normal l w) (fun l' w' hk' hK=>⟨F,l',rfl,rfl,hk',hK⟩) _ _ _ (qCf hlt hk n (a7 _)) (hT L vs w' hw' hR))
  ops.length (Array.replicate ops.length false) (mk F l) w.drew (fun _=>undef) (oW _)
  ⟨by simp,(fun i j hi=>by rw [x9] at hi;cases hi),(fun i hi=>by rw [x9] at hi;cases hi),rfl,by simp [mk,mN,F.hN],(fun j t _ hl=>by rw [x9] at hl;cases hl),(fun t _=>rfl),trivial⟩
  (by
   have e:(fun j=>(Array.replicate ops.length false).getD j false)=fun _=>false:=by funext j;exact x9 _ _
   rw [e];exact hJ)
 simpa using this
end
end Go.Eng
