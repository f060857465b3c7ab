/-
  A region that draws its order: heads that answer what stands, and one that makes a variable at any time; of the heads one struct is kept.
-/
import Derived.Test.YtlihpgmgiehjkaaGreatDoorTrB
set_option linter.unusedSimpArgs false
set_option linter.unusedVariables false
namespace Go.Eng
open Go Go.RowKit
section
variable {P:Program} {N:Nat} {c:Ctx} {S:HS} {Q:gF}
theorem zE1 {w w':World} {A A':Nat→Prop} {n0 n1:Nat} {ρ ρ':Nat→Value} {v:Value} {xs:List Value} (h:RepH w A n0 ρ v (.agg (xs.map .v))):RepH w' A' n1 ρ' v (.agg (xs.map .v)):=by
 cases h with
|agg hn h1 h =>
  refine .agg hn h1 fun j a b=>?_
  have:=h j a b
  rw [List.getElem_map] at this ⊢;rw [bN this];exact .v _
theorem qUo {id:Nat} {ops:List Oper} (n d t k1 nid:Nat) {z:Array Value} {o:Oper} (hm:P.follows .mixedOrders=true) (hok:pM (bH S.env) ops (n + 1)=true) (ho:ops[n]?=some o) (hop:o.op=.alloc t) (hg:o.guard=none) (hd:o.dst=some d) (hdl:d < N)
  (hz:fE P t=some z) (h1:pP z=true) (hov:((bH S.env).all fun k=>(List.range (n + 1)).all fun j=>aQ ops j != some k)=true) (hkd:k1≠d)
  (h:∀ K:HS→Prop,(∀ S',Q .normal S'→K S')→HVr P N (cN ops) (fun S1=>∃ xs:List Value,hlk S1.env k1=some (.agg (xs.map .v)) ∧
   lY (HV2 P N (cN ops) K (ops.drop (n + 1))) ⟨(d,.ptr nid z.size 0 0) :: (k1,.agg (xs.map .v)) :: mE (only nid) S.env,(nid,.bx true t (z.toList.map .v)) :: eN (only nid) S.st⟩) (ops.take n) S):HW P N (.region id ops.toArray true) Q S:=fun c l w I=>by
 have hks:∀ k ∈ bH S.env,∃ v,lk l k=some v:=fun k hk=>by
  obtain ⟨x,hx⟩:=fL hk;obtain ⟨ρ,xs,G⟩:=I;obtain ⟨v,h1,-⟩:=G.env k x hx;exact ⟨v,h1⟩
 refine sF (bH S.env) ?_
 have I':Inv c S (lk (keep (bH S.env) l)) w:=I.agree fun k x hk=>kJ (eK hk)
 have hkk:nQ (keep (bH S.env) l)=bH S.env:=jA hks
 generalize keep (bH S.env) l=l' at I' hkk;obtain ⟨ρ,xs,G⟩:=I'
 have ok:=hZ hok
 have hdn:aQ ops n=some d:=by unfold aQ;rw [ho];exact hd
 have hlen:(ops.take n).length=n:=by rw [List.length_take];have:=ok.hn;omega
 have get_take:∀ {i:Nat} {o:Oper},(ops.take n)[i]?=some o→i < n∧ops[i]?=some o:=fun {i o} h=>by
  have hi:=(List.getElem?_eq_some_iff.1 h).1
  rw [hlen] at hi;rw [List.getElem?_take_of_lt hi] at h;exact ⟨hi,h⟩
 obtain ⟨hs,-,heads,S1,e1,F1,cs,hcs,hfin⟩:=pA (E0:=S.env) (st:=S.st) (ops.take n) 0 S (fun _=>.junk) (fun k o hk=>by rw [Nat.zero_add];exact (get_take hk).2) rfl (fun t x hx=>.inr ⟨fun j hj=>absurd hj (Nat.not_lt_zero _),hx⟩) (h (Q .normal) fun _ h=>h)
 rw [hlen,Nat.zero_add] at F1
 have head:∀ i o,i < n→ops[i]?=some o→HeadOk P N ops S.env S.st hs i o:=fun i o hi ho=>by
  have:=heads i o (by rw [List.getElem?_take_of_lt hi];exact ho)
  rw [Nat.zero_add] at this;exact this
 have uniq:∀ i j t,i < n + 1→j < n + 1→aQ ops i=some t→aQ ops j=some t→i=j:=by
  intro i j t hi hj h1 h2
  rcases Nat.lt_trichotomy i j with h|h|h
  ·rcases ok.uniq j i hj h with e|e
   ·rw [h2] at e;cases e
   ·exact absurd (h2.trans h1.symm) e
  ·exact h
  ·rcases ok.uniq i j hi h with e|e
   ·rw [h1] at e;cases e
   ·exact absurd (h1.trans h2.symm) e
 have hlt:DLt N ops (n + 1):=fun i t hi hd'=>by
  rcases Nat.lt_or_ge i n with h|h
  ·obtain ⟨o,ho,hod⟩:=mV hd'
   have:=(head i o h ho).lt
   rw [hod] at this;exact this
  ·have:i=n:=by omega
   subst this;rw [hdn] at hd'
   cases hd';exact hdl
 have over:∀ k x,hlk S.env k=some x→∀ j,j < n + 1→aQ ops j≠some k:=fun k x hk j hj e=>by
  have:=List.all_eq_true.1 (List.all_eq_true.1 hov k (eK hk)) j (List.mem_range.2 hj)
  rw [e] at this;simp at this
 have frame:∀ (vs:Nat→Value) (w':World) (i:Nat) (E:bP),i≤n→Below w.heap.size w w'→FrOk ops S.env hs i E →
   (∀ j t x,j < i→aQ ops j=some t→hlk E t=some x→RepH w' (c.A ρ S.st) c.n0 ρ (vs j) (hs j))→Good c ⟨E,S.st⟩ (lk (cM l' ops vs i)) w' ρ xs:=fun vs w' i E hi hB F hv=>by
  have GB:=G.below hB
  refine ⟨GB.rows,GB.apart,fun k x hk=>?_,GB.kept,GB.a0⟩
  rcases F k x hk with ⟨j,a,b,d⟩|⟨a,b⟩
  ·refine ⟨vs j,(gD (l:=l') (vs:=vs) (n:=n + 1) hlt (base:=Array.replicate N undef) (by simp) b (fun q hq hne e=>hne (uniq q j k hq (by omega) e b)) i (by omega) a).1,?_⟩
   rw [← d];exact hv j k x a b hk
  ·obtain ⟨v,v1,v2⟩:=GB.env k x b;exact ⟨v,by rw [(fQ (l:=l') (vs:=vs) #[] k i a).1];exact v1,v2⟩
 refine qYu (bH S.env) (n + 1) hm hkk hok hlt (C:=fun w'=>Below w.heap.size w w') (R:=fun j u w'=>if j=n then ∃ b,u=.pointer (some ⟨b,0,none⟩)∧w.heap.size≤b∧b < w'.heap.size∧Own w' 0 t z.size (.slice (some ⟨b,0,none⟩) 1 1) 1 z.toList else RepH w' (c.A ρ S.st) c.n0 ρ u (hs j)) (Below.refl _ _).drew (fun i u w1 w2 _ hr hB=>?_) ?_ ?_
 ·split at hr
  ·rename_i e;obtain ⟨b,a1,a2,a3,a4⟩:=hr;rw [if_pos e];exact ⟨b,a1,a2,by have:=hB.size;omega,a4.block fun b' hb'=>by simp only [Value.ownBlock,Option.some.injEq] at hb';subst hb';exact hB.block b a3⟩
  ·rename_i e;rw [if_neg e];exact hr.above hB
 ·intro i o' hi ho' vs w1 hC hR
  rcases Nat.lt_or_ge i n with hin|hin
  ·obtain ⟨T,TF,TS,run⟩:=(head i o' hin ho').head
   have GT:Good c ⟨T,S.st⟩ (lk (cM l' ops vs i)) w1 ρ xs:=frame vs w1 i T (by omega) hC TF fun j t x hj hd hx=>by
    have:=hR j t hj hd (nM (TS t x hx))
    rw [if_neg (by omega)] at this
    exact this
   obtain ⟨b,b1,b2,b3⟩:=run c _ w1 ρ xs GT;refine ⟨b,b1,fun hb=>?_,fun hb=>?_⟩
   ·exact (fV (fun x X hx=>by simp [evD,hx]) (b2 hb)).mono fun u w2 ⟨hu,hB⟩=>⟨by rw [if_neg (by omega)];exact hu,hC.trans (hB.mono hC.size),hB⟩
   ·rw [b3 hb,if_neg (by omega)];exact .v _
  ·have hin:i=n:=by omega
   subst hin;rw [ho] at ho'
   cases ho'
   refine ⟨true,by rw [hg];rfl,fun _=>?_,fun hb=>by cases hb⟩
   have hb0:Below w1.heap.size w1 (w1.alloc (.cells z t)):=(Below.refl _ _).alloc (Nat.le_refl _) _
   have key:bQ P (cM l' ops vs i) o.op o.type w1 (fun u w2=>(∃ b,u=.pointer (some ⟨b,0,none⟩)∧w.heap.size≤b∧b < w2.heap.size∧Own w2 0 t z.size (.slice (some ⟨b,0,none⟩) 1 1) 1 z.toList)∧Below w1.heap.size w1 w2) (fun u w2=>(∃ b,u=.pointer (some ⟨b,0,none⟩)∧w.heap.size≤b∧b < w2.heap.size∧Own w2 0 t z.size (.slice (some ⟨b,0,none⟩) 1 1) 1 z.toList)∧Below w1.heap.size w1 w2):=by
    rw [hop];unfold bQ;simp only [aY,cC,hz];exact ⟨⟨w1.heap.size,rfl,hC.size,by show _ < (w1.heap.push _).size;simp,qT1 w1 z t z.size 1 0 (by omega) (by simp [maxLen]) (Nat.zero_le _)⟩,hb0⟩
   exact (fV (fun x X hx=>by simp [evD,hx]) key).mono fun u w2 ⟨hu,hB⟩=>⟨by rw [if_pos rfl];exact hu,hC.trans (hB.mono hC.size),hB⟩
 ·intro vs w1 hC hR;obtain ⟨b,hb1,hb2,hb3,hb4⟩:∃ b,vs n=.pointer (some ⟨b,0,none⟩)∧w.heap.size≤b∧b < w1.heap.size∧Own w1 0 t z.size (.slice (some ⟨b,0,none⟩) 1 1) 1 z.toList:=by
   have:=hR n (by omega)
   rw [if_pos rfl] at this;exact this
  -- the kept struct
  have hk1:∃ v,lk (cM l' ops vs n) k1=some v∧∀ (w':World) (A':Nat→Prop) (n1:Nat) (ρ':Nat→Value),RepH w' A' n1 ρ' v (.agg (cs.map .v)):=by
   obtain ⟨v,a1,a2⟩:=(frame vs w1 n S1.env (Nat.le_refl _) hC F1 fun j t x hj _ _=>by
    have:=hR j (by omega)
    rw [if_neg (by omega)] at this
    exact this).env k1 _ hcs
   exact ⟨v,a1,fun _ _ _ _=>zE1 a2⟩
  obtain ⟨v1,lk1,rp1⟩:=hk1
  -- the row
  have hone:∀ u ∈ z.toList,u.oneCell'=true:=fun u hu=>List.all_eq_true.1 h1 u hu
  have G2:=G.new nid (.bx true t (z.toList.map .v)) z.toList (.slice (some ⟨b,0,none⟩) 1 1) hC (fun b' hb'=>by simp only [Value.ownBlock,Option.some.injEq] at hb';omega) (fun tr _=>by
   refine ⟨?_,⟨⟨b,bF _ _ _,fun h=>(by cases h)⟩,fun k hk=>?_⟩,fun b' hb'=>?_⟩
   ·rw [bF];simp only [Row.ty,Row.sz,Row.len,List.length_map,Array.length_toList];exact hb4
   ·have hk':k < z.toList.length:=by simpa using hk
    refine ⟨z.toList[k],List.getElem?_eq_getElem hk',hone _ (List.getElem_mem hk'),?_⟩;rw [List.getElem_map];exact .v _
   ·rw [bF] at hb';simp only [Value.ownBlock,Option.some.injEq] at hb'
    have:=G.kept.size
    have:=c.hn
    exact ⟨.inl (by omega),fun _=>by omega⟩)
  have I3:InvV c ⟨(k1,.agg (cs.map .v)) :: mE (only nid) S.env,(nid,.bx true t (z.toList.map .v)) :: eN (only nid) S.st⟩ (.ptr nid z.size 0 0) (vs n) (lk (cM l' ops vs n)) w1:=by
   refine ⟨_,_,⟨G2.rows,G2.apart,fun k x hk=>?_,G2.kept,G2.a0⟩,?_⟩
   ·simp only [hlk] at hk
    by_cases e:k1=k
    ·rw [if_pos e] at hk
     cases hk
     subst e;exact ⟨v1,lk1,rp1 _ _ _ _⟩
    ·rw [if_neg e] at hk;obtain ⟨v,a1,a2⟩:=G2.env k x hk;refine ⟨v,?_,a2⟩;rw [(fQ (l:=l') (vs:=vs) #[] k n fun j hj=>?_).1]
     ·exact a1
     ·rw [jP] at hk
      cases hx:hlk S.env k with
     |none=>rw [hx] at hk;cases hk
     |some y=>exact over k y hx j (by omega)
   ·rw [hb1]
    have:=RepH.ptr (w:=w1) (A:=c.A (iN ρ nid (.slice (some ⟨b,0,none⟩) 1 1)) ((nid,.bx true t (z.toList.map .v)) :: eN (only nid) S.st)) (n0:=c.n0) (ρ:=iN ρ nid (.slice (some ⟨b,0,none⟩) 1 1)) z.size 0 0 (bF ρ nid _)
    simpa using this
  have I4:=I3.set (some d)
  have e4:cM l' ops vs (n + 1)=stp (some d) (vs n) (cM l' ops vs n):=by
   show stp (aQ ops n) (vs n) _=_
   rw [hdn]
  rw [e4];exact HW_drw.V2.mono' (xK _ _ _ _ hfin I4) fun l2 w2 h2=>h2
end
end Go.Eng
