/-
  Regions that draw their order, look-ups among their heads.
-/
import Derived.Test.YtdmnijnogabchaaDoorMs
set_option linter.unusedSimpArgs false
set_option linter.unusedVariables false
namespace Go.Eng
open Go Go.RowKit Go.Maps
def gV:List Operand→List Nat
|[]=>[]
|.tmp t :: r=>t :: gV r
|_ :: r=>gV r
theorem iV {t:Nat}:∀ {xs:List Operand},t ∈ gV xs→Operand.tmp t ∈ xs
|[],h=>by simp [gV] at h
|x :: r,h=>by
  cases x with
 |tmp k =>
   simp only [gV,List.mem_cons] at h
   rcases h with rfl|h
   ·simp
   ·exact List.mem_cons_of_mem _ (iV h)
 |const v=>exact List.mem_cons_of_mem _ (iV (xs:=r) h)
 |global v=>exact List.mem_cons_of_mem _ (iV (xs:=r) h)
 |func v=>exact List.mem_cons_of_mem _ (iV (xs:=r) h)
structure HeadM (P:Program) (N:Nat) (ops:List Oper) (E0:aR) (st:aC) (g:MS) (hs:Nat→HV) (i:Nat) (o:Oper):Prop where
 lt:fG N o.dst
 head:∃ T:aR,FrOk ops E0 hs i T∧(∀ t h,hlk T t=some h→t ∈ o.looksAt ops.toArray)∧∀ (c:Ctx) (l:Env) (w:World) (ρ:Nat→Value) (xs:Nat→List Value),Good c ⟨T,st⟩ (lk l) w ρ xs→MsOk P c w g →
  ∃ b,gd l (bQ ops) o.guard (·=b)∧(b=true→Yields P (execOp (evD l) o) w fun u w'=>RepH w' (c.A ρ st) c.n0 ρ u (hs i)∧Below w.heap.size w w')∧(b=false→hs i=.v undef)
theorem HeadOk.toM {P:Program} {N:Nat} {ops:List Oper} {E0:aR} {st:aC} {g:MS} {hs:Nat→HV} {i:Nat} {o:Oper} (h:HeadOk P N ops E0 st hs i o):HeadM P N ops E0 st g hs i o:=by
 obtain ⟨T,TF,TS,run⟩:=h.head;refine ⟨h.lt,T,TF,fun t x hx=>iC (TS t x hx),fun c l w ρ xs G M=>?_⟩
 obtain ⟨b,b1,b2,b3⟩:=run c l w ρ xs G;exact ⟨b,b1,fun hb=>eU (fun x X hx=>by simp [evD,hx]) (b2 hb),b3⟩
theorem HeadM.congr {P:Program} {N:Nat} {ops:List Oper} {E0:aR} {st:aC} {g:MS} {hs hs':Nat→HV} {i:Nat} {o:Oper} (h:HeadM P N ops E0 st g hs i o) (he:∀ j,j≤i→hs' j=hs j):HeadM P N ops E0 st g hs' i o:=by
 obtain ⟨T,TF,TS,run⟩:=h.head;refine ⟨h.lt,T,TF.congr fun j hj=>he j (by omega),TS,?_⟩
 rw [he i (Nat.le_refl _)];exact run
def HRM (P:Program) (N:Nat) (all:List Oper) (g:MS) (K:HS→Prop) (n i:Nat) (S:HS):Prop :=
 ∀ (E0:aR) (st:aC) (hs0:Nat→HV),S.st=st→FrOk all E0 hs0 i S.env→∃ hs:Nat→HV,(∀ j,j < i→hs j=hs0 j)∧(∀ k o,i≤k→k < n→all[k]?=some o→HeadM P N all E0 st g hs k o)∧∃ S',S'.st=st∧FrOk all E0 hs n S'.env∧K S'
section
variable {P:Program} {N:Nat} {all:List Oper} {g:MS} {K:HS→Prop} {n i:Nat} {S:HS} {Q:iD}
theorem qRp (h:K S):HRM P N all g K n n S:=fun E0 st hs0 hst F=>⟨hs0,fun _ _=>rfl,fun k o h1 h2=>by omega,S,hst,F,h⟩
theorem qAr (m:Nat) (hm:(all.drop i).length ≥ m) (h:∀ K1:HS→Prop,(∀ S',HRM P N all g K n (i + m) S'→K1 S')→HVr P N (bQ all) K1 ((all.drop i).take m) S):HRM P N all g K n i S:=fun E0 st hs0 hst F=>by
 have hl:((all.drop i).take m).length=m:=by rw [List.length_take];omega
 obtain ⟨hs1,a1,heads,S1,e1,F1,h1⟩:=pN (E0:=E0) (st:=st) ((all.drop i).take m) i S hs0 (fun k o hk=>by
  have hlt:=(List.getElem?_eq_some_iff.1 hk).1
  rw [hl] at hlt;rw [List.getElem?_take_of_lt hlt,List.getElem?_drop] at hk;exact hk) hst F (h _ fun _ h=>h)
 rw [hl] at F1;obtain ⟨hs2,b1,b2,S2,e2,F2,k2⟩:=h1 E0 st hs1 e1 F1;refine ⟨hs2,fun j hj=>by rw [b1 j (by omega),a1 j hj],fun k o h1 h2 ho=>?_,S2,e2,F2,k2⟩
 rcases Nat.lt_or_ge k (i + m) with hk|hk
 ·have:=heads (k - i) o (by
   rw [List.getElem?_take_of_lt (by omega),List.getElem?_drop,show i + (k - i)=k by omega];exact ho)
  rw [show i + (k - i)=k by omega] at this
  exact this.toM.congr fun j hj=>b1 j (by omega)
 ·exact b2 k o hk h2 ho
theorem zFu {o:Oper} {more:List Oper} {t k e:TypeId} {z:Value} {m x:Operand} {cm:Bool} {q r c:Nat} {M:MTab} {s:ByteArray} (hsp:all.drop i=o :: more) (hT:MapTy P t k e z) (hop:o.op=.lookup t m x cm) (hg:o.guard=none) (hd:cQ N o.dst=true)
  (hi:g[q]?=some (.map r k c M)) (hm:hev (dW S.env (gV [m,x])) m=some (.v (.map (some r)))) (hx:hev (dW S.env (gV [m,x])) x=some (.v (.string s))) (hsz:s.size≤maxLen)
  (h:HRM P N all g K n (i + 1) (S.set o.dst (nF (M s.data.toList) z cm))):HRM P N all g K n i S:=fun E0 st hs0 hst F=>by
 have hoi:all[i]?=some o:=by
  have:=congrArg (fun l=>l[0]?) hsp
  simp only [List.getElem?_drop,Nat.add_zero,List.getElem?_cons_zero] at this;exact this
 let hs1:Nat→HV:=fun j=>if j=i then nF (M s.data.toList) z cm else hs0 j
 have e1:hs1 i=nF (M s.data.toList) z cm:=if_pos rfl
 have e2:∀ j,j < i→hs1 j=hs0 j:=fun j hj=>if_neg (by omega)
 have F2:FrOk all E0 hs1 (i + 1) (S.set o.dst (nF (M s.data.toList) z cm)).env:=by
  have:=(F.congr e2).set hoi
  rw [e1] at this;exact this
 obtain ⟨hs2,b1,b2,S2,f2,F2,k2⟩:=h E0 st hs1 (by cases o.dst <;> exact hst) F2
 have ej:∀ j,j < i→hs2 j=hs0 j:=fun j hj=>by rw [b1 j (by omega),e2 j hj]
 have ei:hs2 i=nF (M s.data.toList) z cm:=by rw [b1 i (by omega),e1]
 refine ⟨hs2,ej,fun k' o' h1 h2 ho=>?_,S2,f2,F2,k2⟩
 rcases Nat.lt_or_ge i k' with hk|hk
 ·exact b2 k' o' (by omega) h2 ho
 ·have:k'=i:=by omega
  subst this;rw [hoi] at ho;simp only [Option.some.injEq] at ho;subst ho
  have TF:∀ t h,hlk (dW S.env (gV [m,x])) t=some h→t ∈ gV [m,x]∧hlk S.env t=some h:=fun t h hh=>jB hh
  refine ⟨dN hd,dW S.env (gV [m,x]),(F.congr ej).env fun t x hx=>(TF t x hx).2,fun t h hh=>fW ?_,fun c' l w ρ xs G MK=>⟨true,by rw [hg];rfl,fun _=>?_,fun e=>by cases e⟩⟩
  ·have:=iV (TF t h hh).1
   rw [hop]
   simpa [Op.operands] using this
  ·obtain ⟨vm,m1,m2⟩:=G.ev (aS _ l) hm;obtain ⟨vx,x1,x2⟩:=G.ev (aS _ l) hx
   have:=bB m2;subst this
   have:=bB x2;subst this
   have m3:evD l m=.map (some r):=by simp [evD,m1]
   have x3:evD l x=.string s:=by simp [evD,x1]
   obtain ⟨D,hown,hr⟩:=MK.ok q _ hi;rw [ei]
   have val:∀ v ps,mK v=some (D.atKey (.string s.data.toList) (.held z),ps)→v=(M s.data.toList).getD z:=fun v ps hv=>by
    simp only [mK,hr.at',Option.some.injEq,Prod.mk.injEq] at hv
    cases hM:M s.data.toList with
   |none=>rw [hM] at hv;injection hv.1
   |some u=>rw [hM] at hv;injection hv.1
   cases cm with
  |false =>
    obtain ⟨v,ps,hrun,hv⟩:=hown.lookup (string_keyed hT.kk) hT.tk (hT.z w) (zd:=.held z) (zp:=[]) rfl (key:=.string s) (kl:=.string s.data.toList) (WideMaps.keyOf_string_mk hT.kk hsz)
    have:=val v ps hv
    subst this;unfold Yields;simp only [execOp,hop,m3,x3,hrun,Result.andThen,Sem.run_bind,Sem.run];exact ⟨kE _,Below.refl _ _⟩
  |true =>
    obtain ⟨v,ps,hrun,hv⟩:=hown.look_ok (string_keyed hT.kk) hT.tk (hT.z w) (zd:=.held z) (zp:=[]) rfl (key:=.string s) (kl:=.string s.data.toList) (WideMaps.keyOf_string_mk hT.kk hsz)
    have:=val v ps hv
    subst this;rw [hr.has] at hrun;unfold Yields;simp only [execOp,hop,m3,x3,hrun,Result.andThen,Sem.run_bind,Sem.run];refine ⟨.tup rfl fun j a b=>?_,Below.refl _ _⟩
    match j,a with
   |0,_=>exact kE _
   |1,_=>exact .v _
theorem zFq {id:Nat} {ops:List Oper} (n:Nat) (hm:P.follows .mixedOrders=true) (hok:oG (aV S.env) ops n=true)
  (h:∀ K1:HS→Prop,(∀ S',HVM P N ops Q (ops.drop n) g S'→K1 S')→HRM P N ops g K1 n 0 S):HWM P N (.region id ops.toArray true) Q g S:=fun c l w I M=>by
 have hks:∀ k ∈ aV S.env,∃ v,lk l k=some v:=fun k hk=>by
  obtain ⟨x,hx⟩:=eM hk;obtain ⟨ρ,xs,G⟩:=I;obtain ⟨v,h1,-⟩:=G.env k x hx;exact ⟨v,h1⟩
 refine sM (aV S.env) ?_
 have I':Inv c S (lk (keep (aV S.env) l)) w:=I.agree fun k x hk=>iG (dU hk)
 have hkk:kV (keep (aV S.env) l)=aV S.env:=hU hks
 generalize keep (aV S.env) l=l' at I' hkk;obtain ⟨ρ,xs,G⟩:=I'
 have ok:=gX hok
 obtain ⟨hs,-,heads,S1,e1,F1,h1⟩:=h _ (fun _ h=>h) S.env S.st (fun _=>.junk) rfl (fun t x hx=>.inr ⟨fun j hj=>absurd hj (Nat.not_lt_zero _),hx⟩)
 have head:∀ i o,i < n→ops[i]?=some o→HeadM P N ops S.env S.st g hs i o:=fun i o hi ho=>heads i o (Nat.zero_le _) hi ho
 have uniq:∀ i j t,i < n→j < n→aG ops i=some t→aG ops j=some t→i=j:=by
  intro i j t hi hj h1 h2
  rcases Nat.lt_trichotomy i j with h|h|h
  ·rcases ok.uniq j i hj h with e|e
   ·rw [h2] at e;cases e
   ·exact absurd (h2.trans h1.symm) e
  ·exact h
  ·rcases ok.uniq i j hi h with e|e
   ·rw [h1] at e;cases e
   ·exact absurd (h1.trans h2.symm) e
 have hlt:DLt N ops n:=fun i t hi hd=>by
  obtain ⟨o,ho,hod⟩:=jL hd
  have:=(head i o hi ho).lt
  rw [hod] at this;exact this
 have frame:∀ (vs:Nat→Value) (w':World) (i:Nat) (E:aR),i≤n→Below w.heap.size w w'→FrOk ops S.env hs i E →
   (∀ j t x,j < i→aG ops j=some t→hlk E t=some x→RepH w' (c.A ρ S.st) c.n0 ρ (vs j) (hs j))→Good c ⟨E,S.st⟩ (lk (cH l' ops vs i)) w' ρ xs:=fun vs w' i E hi hB F hv=>by
  have GB:=G.below hB
  refine ⟨GB.rows,GB.apart,fun k x hk=>?_,GB.kept,GB.a0⟩
  rcases F k x hk with ⟨j,a,b,d⟩|⟨a,b⟩
  ·refine ⟨vs j,(eP (l:=l') (vs:=vs) hlt (base:=Array.replicate N undef) (by simp) b (fun q hq hne e=>hne (uniq q j k hq (by omega) e b)) i hi a).1,?_⟩
   rw [← d];exact hv j k x a b hk
  ·obtain ⟨v,v1,v2⟩:=GB.env k x b;exact ⟨v,by rw [(eN (l:=l') (vs:=vs) #[] k i a).1];exact v1,v2⟩
 refine qVh (aV S.env) n hm hkk hok hlt (C:=fun w'=>Below w.heap.size w w') (R:=fun j u w'=>RepH w' (c.A ρ S.st) c.n0 ρ u (hs j)) (Below.refl _ _).drew (Le:=fun _ w w'=>Below w.heap.size w w') (fun _ w=>Below.refl _ _) (fun j _ u w1 w2 _ _ _ _ hr hB=>hr.above hB) ?_ ?_
 ·intro i o hi ho vs w1 hC hR;obtain ⟨T,TF,TS,run⟩:=(head i o hi ho).head
  have GT:Good c ⟨T,S.st⟩ (lk (cH l' ops vs i)) w1 ρ xs:=frame vs w1 i T (by omega) hC TF fun j t x hj hd hx=>hR j t hj hd (TS t x hx)
  obtain ⟨b,b1,b2,b3⟩:=run c _ w1 ρ xs GT (M.block fun b hb _=>hC.block b hb.lt)
  refine ⟨b,b1,fun hb=>?_,fun hb=>?_⟩
  ·exact (b2 hb).mono fun u w2 ⟨hu,hB⟩=>⟨hu,hC.trans (hB.mono hC.size),hB⟩
  ·rw [b3 hb];exact .v _
 ·intro F vs w1 hk1 hC hR;obtain ⟨E1,st1⟩:=S1
  have e1:st1=S.st:=e1
  subst e1
  have G1:=frame vs w1 n E1 (Nat.le_refl _) hC F1 fun j t x hj _ _=>hR j hj
  exact h1 c F _ w1 hk1 ⟨ρ,xs,G1⟩ (M.block fun b hb _=>hC.block b hb.lt)
end
end Go.Eng
