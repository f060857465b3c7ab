/-
  The disk's functions: the volume of a path; is qJi a folder; a file's new state.
-/
import Derived.Test.YtlihpgmgiehjkaaGreatDoorDk
import Derived.Test.YtlihpgmgiehjkaaGreatDoorGc
import Derived.Test.YtlihpgmgiehjkaaGreatDoorDkA
set_option linter.unusedSimpArgs false
set_option linter.unusedVariables false
section
namespace Go.Eng
open Go Go.RowKit Go.Maps
def kM:List Operand→List Nat
|[]=>[]
|.tmp t :: r=>t :: kM r
|_ :: r=>kM r
theorem mF {t:Nat}:∀ {xs:List Operand},t ∈ kM xs→Operand.tmp t ∈ xs
|[],h=>by simp [kM] at h
|x :: r,h=>by
  cases x with
 |tmp k =>
   simp only [kM,List.mem_cons] at h
   rcases h with rfl|h
   ·simp
   ·exact List.mem_cons_of_mem _ (mF h)
 |const v=>exact List.mem_cons_of_mem _ (mF (xs:=r) h)
 |global v=>exact List.mem_cons_of_mem _ (mF (xs:=r) h)
 |func v=>exact List.mem_cons_of_mem _ (mF (xs:=r) h)
structure HeadM (P:Program) (N:Nat) (ops:List Oper) (E0:bP) (st:aJ) (g:MS) (hs:Nat→HV) (i:Nat) (o:Oper):Prop where
 lt:kD N o.dst
 head:∃ T:bP,FrOk ops E0 hs i T∧(∀ t h,hlk T t=some h→t ∈ o.looksAt ops.toArray)∧∀ (c:Ctx) (l:Env) (w:World) (ρ:Nat→Value) (xs:Nat→List Value),Good c ⟨T,st⟩ (lk l) w ρ xs→MsOk P c w g →
  ∃ b,gd l (cN ops) o.guard (·=b)∧(b=true→Yields P (execOp (evD l) o) w fun u w'=>RepH w' (c.A ρ st) c.n0 ρ u (hs i)∧Below w.heap.size w w')∧(b=false→hs i=.v undef)
theorem HeadOk.toM {P:Program} {N:Nat} {ops:List Oper} {E0:bP} {st:aJ} {g:MS} {hs:Nat→HV} {i:Nat} {o:Oper} (h:HeadOk P N ops E0 st hs i o):HeadM P N ops E0 st g hs i o:=by
 obtain ⟨T,TF,TS,run⟩:=h.head;refine ⟨h.lt,T,TF,fun t x hx=>nM (TS t x hx),fun c l w ρ xs G M=>?_⟩
 obtain ⟨b,b1,b2,b3⟩:=run c l w ρ xs G;exact ⟨b,b1,fun hb=>fV (fun x X hx=>by simp [evD,hx]) (b2 hb),b3⟩
theorem HeadM.congr {P:Program} {N:Nat} {ops:List Oper} {E0:bP} {st:aJ} {g:MS} {hs hs':Nat→HV} {i:Nat} {o:Oper} (h:HeadM P N ops E0 st g hs i o) (he:∀ j,j≤i→hs' j=hs j):HeadM P N ops E0 st g hs' i o:=by
 obtain ⟨T,TF,TS,run⟩:=h.head;refine ⟨h.lt,T,TF.congr fun j hj=>he j (by omega),TS,?_⟩
 rw [he i (Nat.le_refl _)];exact run
def HRM (P:Program) (N:Nat) (all:List Oper) (g:MS) (K:HS→Prop) (n i:Nat) (S:HS):Prop :=
 ∀ (E0:bP) (st:aJ) (hs0:Nat→HV),S.st=st→FrOk all E0 hs0 i S.env→∃ hs:Nat→HV,(∀ j,j < i→hs j=hs0 j)∧(∀ k o,i≤k→k < n→all[k]?=some o→HeadM P N all E0 st g hs k o)∧∃ S',S'.st=st∧FrOk all E0 hs n S'.env∧K S'
section
variable {P:Program} {N:Nat} {all:List Oper} {g:MS} {K:HS→Prop} {n i:Nat} {S:HS} {Q:kF}
theorem qUt (h:K S):HRM P N all g K n n S:=fun E0 st hs0 hst F=>⟨hs0,fun _ _=>rfl,fun k o h1 h2=>by omega,S,hst,F,h⟩
theorem qEo (m:Nat) (hm:(all.drop i).length ≥ m) (h:∀ K1:HS→Prop,(∀ S',HRM P N all g K n (i + m) S'→K1 S')→HVr P N (cN all) K1 ((all.drop i).take m) S):HRM P N all g K n i S:=fun E0 st hs0 hst F=>by
 have hl:((all.drop i).take m).length=m:=by rw [List.length_take];omega
 obtain ⟨hs1,a1,heads,S1,e1,F1,h1⟩:=pA (E0:=E0) (st:=st) ((all.drop i).take m) i S hs0 (fun k o hk=>by
  have hlt:=(List.getElem?_eq_some_iff.1 hk).1
  rw [hl] at hlt;rw [List.getElem?_take_of_lt hlt,List.getElem?_drop] at hk;exact hk) hst F (h _ fun _ h=>h)
 rw [hl] at F1;obtain ⟨hs2,b1,b2,S2,e2,F2,k2⟩:=h1 E0 st hs1 e1 F1;refine ⟨hs2,fun j hj=>by rw [b1 j (by omega),a1 j hj],fun k o h1 h2 ho=>?_,S2,e2,F2,k2⟩
 rcases Nat.lt_or_ge k (i + m) with hk|hk
 ·have:=heads (k - i) o (by
   rw [List.getElem?_take_of_lt (by omega),List.getElem?_drop,show i + (k - i)=k by omega];exact ho)
  rw [show i + (k - i)=k by omega] at this
  exact this.toM.congr fun j hj=>b1 j (by omega)
 ·exact b2 k o hk h2 ho
theorem zMi {o:Oper} {more:List Oper} {t k e:TypeId} {z:Value} {m x:Operand} {cm:Bool} {q r c:Nat} {M:MTab} {s:ByteArray} (hsp:all.drop i=o :: more) (hT:MapTy P t k e z) (hop:o.op=.lookup t m x cm) (hg:o.guard=none) (hd:eQ N o.dst=true)
  (hi:g[q]?=some (.map r k c M)) (hm:hev (jU S.env (kM [m,x])) m=some (.v (.map (some r)))) (hx:hev (jU S.env (kM [m,x])) x=some (.v (.string s))) (hsz:s.size≤maxLen)
  (h:HRM P N all g K n (i + 1) (S.set o.dst (rF (M s.data.toList) z cm))):HRM P N all g K n i S:=fun E0 st hs0 hst F=>by
 have hoi:all[i]?=some o:=by
  have:=congrArg (fun l=>l[0]?) hsp
  simp only [List.getElem?_drop,Nat.add_zero,List.getElem?_cons_zero] at this;exact this
 let hs1:Nat→HV:=fun j=>if j=i then rF (M s.data.toList) z cm else hs0 j
 have e1:hs1 i=rF (M s.data.toList) z cm:=if_pos rfl
 have e2:∀ j,j < i→hs1 j=hs0 j:=fun j hj=>if_neg (by omega)
 have F2:FrOk all E0 hs1 (i + 1) (S.set o.dst (rF (M s.data.toList) z cm)).env:=by
  have:=(F.congr e2).set hoi
  rw [e1] at this;exact this
 obtain ⟨hs2,b1,b2,S2,f2,F2,k2⟩:=h E0 st hs1 (by cases o.dst <;> exact hst) F2
 have ej:∀ j,j < i→hs2 j=hs0 j:=fun j hj=>by rw [b1 j (by omega),e2 j hj]
 have ei:hs2 i=rF (M s.data.toList) z cm:=by rw [b1 i (by omega),e1]
 refine ⟨hs2,ej,fun k' o' h1 h2 ho=>?_,S2,f2,F2,k2⟩
 rcases Nat.lt_or_ge i k' with hk|hk
 ·exact b2 k' o' (by omega) h2 ho
 ·have:k'=i:=by omega
  subst this;rw [hoi] at ho;simp only [Option.some.injEq] at ho;subst ho
  have TF:∀ t h,hlk (jU S.env (kM [m,x])) t=some h→t ∈ kM [m,x]∧hlk S.env t=some h:=fun t h hh=>sN hh
  refine ⟨gE hd,jU S.env (kM [m,x]),(F.congr ej).env fun t x hx=>(TF t x hx).2,fun t h hh=>jM ?_,fun c' l w ρ xs G MK=>⟨true,by rw [hg];rfl,fun _=>?_,fun e=>by cases e⟩⟩
  ·have:=mF (TF t h hh).1
   rw [hop]
   simpa [Op.operands] using this
  ·obtain ⟨vm,m1,m2⟩:=G.ev (bJ _ l) hm;obtain ⟨vx,x1,x2⟩:=G.ev (bJ _ l) hx
   have:=bN m2;subst this
   have:=bN x2;subst this
   have m3:evD l m=.map (some r):=by simp [evD,m1]
   have x3:evD l x=.string s:=by simp [evD,x1]
   obtain ⟨D,hown,hr⟩:=MK.ok q _ hi;rw [ei]
   have val:∀ v ps,pT v=some (D.atKey (.string s.data.toList) (.held z),ps)→v=(M s.data.toList).getD z:=fun v ps hv=>by
    simp only [pT,hr.at',Option.some.injEq,Prod.mk.injEq] at hv
    cases hM:M s.data.toList with
   |none=>rw [hM] at hv;injection hv.1
   |some u=>rw [hM] at hv;injection hv.1
   cases cm with
  |false =>
    obtain ⟨v,ps,hrun,hv⟩:=hown.lookup (string_keyed hT.kk) hT.tk (hT.z w) (zd:=.held z) (zp:=[]) rfl (key:=.string s) (kl:=.string s.data.toList) (WideMaps.keyOf_string_mk hT.kk hsz)
    have:=val v ps hv
    subst this;unfold Yields;simp only [execOp,hop,m3,x3,hrun,Result.andThen,Sem.run_bind,Sem.run];exact ⟨nT _,Below.refl _ _⟩
  |true =>
    obtain ⟨v,ps,hrun,hv⟩:=hown.look_ok (string_keyed hT.kk) hT.tk (hT.z w) (zd:=.held z) (zp:=[]) rfl (key:=.string s) (kl:=.string s.data.toList) (WideMaps.keyOf_string_mk hT.kk hsz)
    have:=val v ps hv
    subst this;rw [hr.has] at hrun;unfold Yields;simp only [execOp,hop,m3,x3,hrun,Result.andThen,Sem.run_bind,Sem.run];refine ⟨.tup rfl fun j a b=>?_,Below.refl _ _⟩
    match j,a with
   |0,_=>exact nT _
   |1,_=>exact .v _
theorem zMg {id:Nat} {ops:List Oper} (n:Nat) (hm:P.follows .mixedOrders=true) (hok:pM (bH S.env) ops n=true)
  (h:∀ K1:HS→Prop,(∀ S',HVM P N ops Q (ops.drop n) g S'→K1 S')→HRM P N ops g K1 n 0 S):HWM P N (.region id ops.toArray true) Q g S:=fun c l w I M=>by
 have hks:∀ k ∈ bH S.env,∃ v,lk l k=some v:=fun k hk=>by
  obtain ⟨x,hx⟩:=fL hk;obtain ⟨ρ,xs,G⟩:=I;obtain ⟨v,h1,-⟩:=G.env k x hx;exact ⟨v,h1⟩
 refine sF (bH S.env) ?_
 have I':Inv c S (lk (keep (bH S.env) l)) w:=I.agree fun k x hk=>kJ (eK hk)
 have hkk:nQ (keep (bH S.env) l)=bH S.env:=jA hks
 generalize keep (bH S.env) l=l' at I' hkk;obtain ⟨ρ,xs,G⟩:=I'
 have ok:=hZ hok
 obtain ⟨hs,-,heads,S1,e1,F1,h1⟩:=h _ (fun _ h=>h) S.env S.st (fun _=>.junk) rfl (fun t x hx=>.inr ⟨fun j hj=>absurd hj (Nat.not_lt_zero _),hx⟩)
 have head:∀ i o,i < n→ops[i]?=some o→HeadM P N ops S.env S.st g hs i o:=fun i o hi ho=>heads i o (Nat.zero_le _) hi ho
 have uniq:∀ i j t,i < n→j < n→aQ ops i=some t→aQ ops j=some t→i=j:=by
  intro i j t hi hj h1 h2
  rcases Nat.lt_trichotomy i j with h|h|h
  ·rcases ok.uniq j i hj h with e|e
   ·rw [h2] at e;cases e
   ·exact absurd (h2.trans h1.symm) e
  ·exact h
  ·rcases ok.uniq i j hi h with e|e
   ·rw [h1] at e;cases e
   ·exact absurd (h1.trans h2.symm) e
 have hlt:DLt N ops n:=fun i t hi hd=>by
  obtain ⟨o,ho,hod⟩:=mV hd
  have:=(head i o hi ho).lt
  rw [hod] at this;exact this
 have frame:∀ (vs:Nat→Value) (w':World) (i:Nat) (E:bP),i≤n→Below w.heap.size w w'→FrOk ops S.env hs i E →
   (∀ j t x,j < i→aQ ops j=some t→hlk E t=some x→RepH w' (c.A ρ S.st) c.n0 ρ (vs j) (hs j))→Good c ⟨E,S.st⟩ (lk (cM l' ops vs i)) w' ρ xs:=fun vs w' i E hi hB F hv=>by
  have GB:=G.below hB
  refine ⟨GB.rows,GB.apart,fun k x hk=>?_,GB.kept,GB.a0⟩
  rcases F k x hk with ⟨j,a,b,d⟩|⟨a,b⟩
  ·refine ⟨vs j,(gD (l:=l') (vs:=vs) hlt (base:=Array.replicate N undef) (by simp) b (fun q hq hne e=>hne (uniq q j k hq (by omega) e b)) i hi a).1,?_⟩
   rw [← d];exact hv j k x a b hk
  ·obtain ⟨v,v1,v2⟩:=GB.env k x b;exact ⟨v,by rw [(fQ (l:=l') (vs:=vs) #[] k i a).1];exact v1,v2⟩
 refine qYt (bH S.env) n hm hkk hok hlt (C:=fun w'=>Below w.heap.size w w') (R:=fun j u w'=>RepH w' (c.A ρ S.st) c.n0 ρ u (hs j)) (Below.refl _ _).drew (Le:=fun _ w w'=>Below w.heap.size w w') (fun _ w=>Below.refl _ _) (fun j _ u w1 w2 _ _ _ _ hr hB=>hr.above hB) ?_ ?_
 ·intro i o hi ho vs w1 hC hR;obtain ⟨T,TF,TS,run⟩:=(head i o hi ho).head
  have GT:Good c ⟨T,S.st⟩ (lk (cM l' ops vs i)) w1 ρ xs:=frame vs w1 i T (by omega) hC TF fun j t x hj hd hx=>hR j t hj hd (TS t x hx)
  obtain ⟨b,b1,b2,b3⟩:=run c _ w1 ρ xs GT (M.block fun b hb _=>hC.block b hb.lt)
  refine ⟨b,b1,fun hb=>?_,fun hb=>?_⟩
  ·exact (b2 hb).mono fun u w2 ⟨hu,hB⟩=>⟨hu,hC.trans (hB.mono hC.size),hB⟩
  ·rw [b3 hb];exact .v _
 ·intro F vs w1 hk1 hC hR;obtain ⟨E1,st1⟩:=S1
  have e1:st1=S.st:=e1
  subst e1
  have G1:=frame vs w1 n E1 (Nat.le_refl _) hC F1 fun j t x hj _ _=>hR j hj
  exact h1 c F _ w1 hk1 ⟨ρ,xs,G1⟩ (M.block fun b hb _=>hC.block b hb.lt)
end
end Go.Eng
end
section
namespace Go.Eng
open Go Go.RowKit
inductive PlainH:HV→Prop
|v (x:Value):PlainH (.v x)
|tup (xs:List Value):PlainH (.tup (xs.map .v))
section
variable {P:Program} {N:Nat} {w w':World} {A A':Nat→Prop} {n0 n1:Nat} {ρ ρ':Nat→Value}
theorem RepH.plain {v:Value} {h:HV} (hr:RepH w A n0 ρ v h) (hp:PlainH h):RepH w' A' n1 ρ' v h:=by
 cases hp with
|v x=>have:=bN hr;subst this;exact .v _
|tup xs =>
  cases hr with
 |tup hn h =>
  refine .tup hn fun j a b=>?_
  have:=h j a b
  simp only [List.getElem_map] at this ⊢
  have e:=bN this
  rw [e];exact .v _
end
end Go.Eng
end
section
namespace Go.Eng
open Go Go.RowKit
section
variable {P:Program} {N:Nat} {c:Ctx} {S:HS} {look:Nat→Option Value} {w w':World} {ρ:Nat→Value} {xs:Nat→List Value}
theorem Good.upds (h:Good c S look w ρ xs) (id:Nat) (r0 r:Row) (ys:List Value) (hs:w.heap.size≤w'.heap.size) (hos:w'.os=w.os) (htape:w'.tape=w.tape) (hout:w'.output=w.output)
  (hr0:rlk S.st id=some r0) (hnw:r.nw=r0.nw) (hb:∀ b,b < w.heap.size→(ρ id).ownBlock≠some b→w'.heap[b]?=w.heap[b]?)
  (st':aJ) (hst:∀ i,rlk st' i=if i=id then some r else rlk S.st i)
  (hrow:RowOk w' (c.A ρ st') c ρ id r ys) :
  Good c ⟨S.env,st'⟩ look w' ρ (fun i=>if i=id then ys else xs i):=by
 have hA:∀ b,c.A ρ st' b→c.A ρ S.st b:=by
  rintro b (h0|⟨i,s,hi,hbi⟩)
  ·exact .inl h0
  ·right
   rw [hst] at hi
   by_cases e:i=id
   ·subst e;exact ⟨i,r0,hr0,hbi⟩
   ·rw [if_neg e] at hi;exact ⟨i,s,hi,hbi⟩
 have hb':∀ b,b < w.heap.size→¬ c.A ρ S.st b→w'.heap[b]?=w.heap[b]?:=fun b hl hn=>hb b hl fun e=>hn (.inr ⟨id,r0,hr0,e⟩)
 have tr:∀ v x,RepH w (c.A ρ S.st) c.n0 ρ v x→RepH w' (c.A ρ st') c.n0 ρ v x:=fun v x hv=>hv.up hs hb' (fun b _=>hA b) (Nat.le_refl _)
 have back:∀ i s,rlk st' i=some s→∃ s0,rlk S.st i=some s0:=by
  intro i s hi;rw [hst] at hi
  by_cases e:i=id
  ·subst e;exact ⟨r0,hr0⟩
  ·rw [if_neg e] at hi;exact ⟨s,hi⟩
 refine ⟨?_,?_,?_,?_,h.a0⟩
 ·intro i s hi;rw [hst] at hi
  by_cases e:i=id
  ·subst e;rw [if_pos rfl] at hi;simp only [Option.some.injEq] at hi;subst hi;rw [if_pos rfl];exact hrow
  ·rw [if_neg e] at hi;rw [if_neg e];exact (h.rows i s hi).up hs hb' (fun b _=>hA b) (fun b hbi=>hb b (h.lt hi hbi) fun e2=>h.apart i id s r0 b e hi hr0 hbi e2)
 ·intro i j ri rj b hne hi hj hbi hbj;obtain ⟨s0,h1⟩:=back i ri hi;obtain ⟨s1,h2⟩:=back j rj hj;exact h.apart i j s0 s1 b hne h1 h2 hbi hbj
 ·intro k x hk;obtain ⟨v,h1,h2⟩:=h.env k x hk;exact ⟨v,h1,tr v x h2⟩
 ·refine h.kept.trans (T':=fun b=>(ρ id).ownBlock=some b) ⟨hos,htape,hout,hs,fun b hlt hn=>hb b hlt hn⟩ fun b hlt e=>?_
  rcases ((h.rows id r0 hr0).new b e).1 with hge|hT
  ·omega
  ·exact hT
theorem zSw {f:FuncId} {args args':List HV} {xs:List Value} {K:HV→HS→Prop} (hc:aK P f=true) (H:HFun P f args' (fun h st=>h=.tup (xs.map .v))) (hl:Lends S.st args args') (hK:K (.tup (xs.map .v)) S):HAt P f args S K :=
 ⟨hc,fun c look w ρ xs' vs G R=>Ret.mono (H w vs (qAh G R hl)) fun v w' ⟨B,h,st,h8,q,ρ',xs',G',hr⟩=>⟨_,_,hK,ρ,_,G.below B,by subst q;exact hr.plain (.tup xs)⟩⟩
end
end Go.Eng
end
section
set_option maxRecDepth 20000
namespace Go.Proofs.YtlihpgmgiehjkaaGreatDoor
open Go Go.Eng Go.RowKit Go.Tr Go.Dk
theorem qBo:∀ (l:List UInt8),(Lib.indexByte l 47=-1∧qB9 l=l.length)∨(Lib.indexByte l 47=(qB9 l:Int)∧qB9 l < l.length)
|[]=>.inl ⟨rfl,rfl⟩
|c :: r=>by
  rw [Lib.indexByte,qB9]
  by_cases h:c=47
  ·subst h
   right
   simp
  ·have hc:(c == 47)=false:=beq_eq_false_iff_ne.2 h
   rw [hc,if_neg h]
   rcases qBo r with ⟨a,b⟩|⟨a,b⟩
   ·left
    rw [a,b];exact ⟨rfl,by simp⟩
   ·right
    rw [a]
    have:((qB9 r:Int) == -1)=false:=beq_eq_false_iff_ne.2 (by omega)
    rw [this];simp only [Bool.false_eq_true,if_false,List.length_cons];exact ⟨rfl,by omega⟩
theorem zF6 {p:ByteArray} (h:Lib.indexByte p.data.toList 47=-1):vol p=p:=by
 rcases qBo p.data.toList with ⟨a,b⟩|⟨a,b⟩
 ·rw [vol,b,← Lib.size_eq];exact ByteArray.extract_zero_size
 ·omega
theorem qUx (p:ByteArray):(vol p).size≤p.size:=by
 rw [vol,ByteArray.size_extract];omega
def aft (p:ByteArray):ByteArray:=if qB9 p.data.toList < p.size then p.extract (qB9 p.data.toList + 1) p.size else { data:=#[] }
def fnd (p:ByteArray):Bool:=decide (qB9 p.data.toList < p.size)
set_option maxHeartbeats 1000000 in
theorem zSz (s:ByteArray) (hs:s.size≤1048576):HFun Tryz.prog 103 [.v (.string s),.v (.string { data:=#[47] })] (fun h st=>h=.tup ([.string (vol s),.string (aft s),.bool (fnd s)].map .v)):=by
 refine iD (N:=23) Tryz.func103 rfl Tryz.ntmps103 Tryz.results103 (by simp) ?_
 have hc:=qVe s
 unfold aft fnd
 rcases qBo s.data.toList with ⟨a,b⟩|⟨a,b⟩
 ·rw [a] at hc;rw [← Lib.size_eq] at b;refine zE ?_;refine zJ (fun K hK=>?_);simp (disch:=omega) only [push_cast,↓iC9,simprocAttr];refine hK _ ?_;clear hK K
  refine zE ?_;refine zE ?_;refine zJ (fun K hK=>?_);simp (disch:=omega) only [push_cast,↓iC9,simprocAttr]
  refine cK zL2 hc (.cons (.v _) (.cons (.v _) .nil)) ?_;with_reducible refine aM ?_;simp (disch:=omega) only [push_cast,↓iC9,simprocAttr]
  refine hK _ ?_;clear hK K;refine zE ?_;refine zJ (fun K hK=>?_);simp (disch:=omega) only [push_cast,↓iC9,simprocAttr];refine hK _ ?_;clear hK K
  refine zA ?_;refine yC rfl ?_;refine zC ?_;refine zE ?_;refine zJ (fun K hK=>?_);simp (disch:=omega) only [push_cast,↓iC9,simprocAttr];refine hK _ ?_;clear hK K
  refine zA ?_;refine zW ?_;simp only [yA,yM,yH,yE,aL,aU,yK,yJ,zS,zM,Nat.reduceEqDiff,reduceIte,reduceCtorEq];refine qLq ?_;rw [zF6 a,b];simp
 ·rw [a] at hc;rw [← Lib.size_eq] at b;obtain ⟨k,hk⟩:∃ k,qB9 s.data.toList=k:=⟨_,rfl⟩
  have hv:vol s=s.extract 0 k:=by rw [vol,hk]
  rw [hk] at hc b ⊢;rw [hv,if_pos b];refine zE ?_;refine zJ (fun K hK=>?_);simp (disch:=omega) only [push_cast,↓iC9,simprocAttr];refine hK _ ?_;clear hK K
  refine zE ?_;refine zE ?_;refine zJ (fun K hK=>?_);simp (disch:=omega) only [push_cast,↓iC9,simprocAttr]
  refine cK zL2 hc (.cons (.v _) (.cons (.v _) .nil)) ?_;with_reducible refine aM ?_;simp (disch:=omega) only [push_cast,↓iC9,simprocAttr]
  refine hK _ ?_;clear hK K;refine zE ?_;refine zJ (fun K hK=>?_);simp (disch:=omega) only [push_cast,↓iC9,simprocAttr];refine hK _ ?_;clear hK K
  refine zA ?_;refine bE rfl (fun _=>?_) (fun hf=>by simp at hf)
  refine zE ?_;refine HW_drw 10 mixed (by kernel_rfl) (fun K hK=>?_);simp (disch:=omega) only [push_cast,↓iC9,simprocAttr,qP]
  refine ⟨by omega,by omega,?_⟩
  with_reducible refine aM ?_;simp (disch:=omega) only [push_cast,↓iC9,simprocAttr]
  refine hK _ ?_;clear hK K;refine zA ?_;refine zW ?_;refine zK ?_;simp only [yA,yM,yH,yE,aL,aU,yK,yJ,zS,zM,Nat.reduceEqDiff,reduceIte,reduceCtorEq];refine qLq ?_;simp [b]
set_option maxHeartbeats 1000000 in
theorem zP1 (s:ByteArray) (hs:s.size≤1048576):HFun Tryz.prog 92 [.v (.string s),.v (.string { data:=#[47] })] (fun h st=>h=.tup ([.string (vol s),.string (aft s),.bool (fnd s)].map .v)):=by
 refine iD (N:=13) Tryz.func92 rfl Tryz.ntmps92 Tryz.results92 (by simp) ?_
 refine zE ?_;refine zJ (fun K hK=>?_);simp (disch:=omega) only [push_cast,↓iC9,simprocAttr];refine hK _ ?_;clear hK K
 refine zE ?_;refine zJ (fun K hK=>?_);simp (disch:=omega) only [push_cast,↓iC9,simprocAttr]
 refine zSw zTg (zSz s hs) (.cons (.v _) (.cons (.v _) .nil)) ?_;with_reducible refine aM ?_;simp (disch:=omega) only [push_cast,↓iC9,simprocAttr]
 refine hK _ ?_;clear hK K;refine zA ?_;refine zW ?_;simp only [yA,yM,yH,yE,aL,aU,yK,yJ,zS,zM,Nat.reduceEqDiff,reduceIte,reduceCtorEq];exact qLq rfl
set_option maxHeartbeats 1000000 in
theorem zAp (s:ByteArray) (hs:s.size≤1048576):HFun Tryz.prog 58 [.v (.string s)] (fun h st=>h=.v (.string (vol s))):=by
 refine iD (N:=13) Tryz.func58 rfl Tryz.ntmps58 Tryz.results58 (by simp) ?_
 refine zE ?_;refine zJ (fun K hK=>?_);simp (disch:=omega) only [push_cast,↓iC9,simprocAttr];refine hK _ ?_;clear hK K
 refine zE ?_;refine zJ (fun K hK=>?_);simp (disch:=omega) only [push_cast,↓iC9,simprocAttr]
 refine zSw zT8 (zP1 s hs) (.cons (.v _) (.cons (.v _) .nil)) ?_;with_reducible refine aM ?_;simp (disch:=omega) only [push_cast,↓iC9,simprocAttr]
 refine hK _ ?_;clear hK K;refine zE ?_;refine zJ (fun K hK=>?_);simp (disch:=omega) only [push_cast,↓iC9,simprocAttr];refine hK _ ?_;clear hK K
 refine zA ?_;refine zW ?_;simp only [yA,yM,yH,yE,aL,aU,yK,yJ,zS,zM,Nat.reduceEqDiff,reduceIte,reduceCtorEq];exact bK rfl
theorem zHz (p:ByteArray):(par p).size≤p.size:=by rw [par,ByteArray.size_extract];omega
theorem mx {s:ByteArray} (h:s.size≤1048576):s.size≤maxLen:=Nat.le_trans h (by decide)
set_option maxHeartbeats 1000000 in
theorem qNv (d:Dk) (p:ByteArray) (r1 r2:Nat) (hs:p.size≤1048576):HFunM Tryz.prog 62 [.ptr 0 6 0 0,.v (.string p)] [(0,.bx false 64 (d.cells r1 r2))] (d.maps kS r1 r2) (fun h st g=>h=.v (.bool (fF d p))∧st=[(0,.bx false 64 (d.cells r1 r2))]∧g=d.maps kS r1 r2):=by
 refine kC (N:=18) Tryz.func62 rfl Tryz.ntmps62 Tryz.results62 (by simp) ?_
 have hde:=zLx p hs
 have hpa:=qVx p hs
 simp only [bM];unfold fF;refine aA ?_;refine aC (fun K hK=>?_);simp (disch:=omega) only [push_cast,↓iC9,simprocAttr];refine hK _ ?_;clear hK K
 by_cases h1:qFo p=1
 ·rw [h1] at hde ⊢;refine aA ?_;refine qUp 10 mixed (by kernel_rfl) (fun K1 hK1=>?_)
  simp (disch:=omega) only [push_cast,↓iC9,simprocAttr];refine lS zQu hde (.cons (.v _) .nil) ?_;with_reducible refine aM ?_;simp (disch:=omega) only [push_cast,↓iC9,simprocAttr]
  refine hK1 _ ?_;(try clear hK1 K1);refine aG 4 (fun K1 hK1=>?_);simp (disch:=omega) only [push_cast,↓iC9,simprocAttr,aE,aD];refine hK1 _ ?_;(try clear hK1 K1)
  refine aV ?_;refine aB ?_;refine bB ?_;simp only [aF,aN,yH,yE,yK,yJ,aH,zS,zM,Nat.reduceEqDiff,reduceIte,reduceCtorEq];refine bV [0] [] (by first|rfl|simp [bsL,MO.bs]) (by decide) (by decide) (by simp only [push_cast,simprocAttr]) (by simp only [push_cast,simprocAttr]) (by simp only [push_cast,simprocAttr];rfl) (by simp only [push_cast,simprocAttr];rfl) ?_
  exact ⟨by simp,rfl,rfl⟩
 ·refine aA ?_;refine qUp 10 mixed (by kernel_rfl) (fun K1 hK1=>?_)
  simp (disch:=omega) only [push_cast,↓iC9,simprocAttr];refine lS zQu hde (.cons (.v _) .nil) ?_;with_reducible refine aM ?_;simp (disch:=omega) only [push_cast,↓iC9,simprocAttr,h1]
  refine lS zS6 hpa (.cons (.v _) .nil) ?_;with_reducible refine aM ?_;simp (disch:=omega) only [push_cast,↓iC9,simprocAttr]
  refine hK1 _ ?_;(try clear hK1 K1);refine fH (i:=0) mtI rfl rfl rfl rfl rfl rfl (mx (Nat.le_trans (zHz p) hs)) ?_;refine aG 3 (fun K1 hK1=>?_);simp (disch:=omega) only [push_cast,↓iC9,simprocAttr,aE,aD,gS,gT];refine hK1 _ ?_;(try clear hK1 K1)
  refine aV ?_;refine aB ?_;refine bB ?_;simp only [aF,aN,yH,yE,yK,yJ,aH,zS,zM,Nat.reduceEqDiff,reduceIte,reduceCtorEq];refine bV [0] [] (by first|rfl|simp [bsL,MO.bs]) (by decide) (by decide) (by simp only [push_cast,simprocAttr]) (by simp only [push_cast,simprocAttr]) (by simp only [push_cast,simprocAttr];rfl) (by simp only [push_cast,simprocAttr];rfl) ?_
  exact ⟨by simp [h1,aP],rfl,rfl⟩
end Go.Proofs.YtlihpgmgiehjkaaGreatDoor
end
