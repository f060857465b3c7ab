/-
  Regions that draw their order, in which a head may assign what an earlier one has looked at; no head writes.
-/
import Derived.Test.YtdmnijnogabchaaDoorDrw
set_option linter.unusedSimpArgs false
set_option linter.unusedVariables false
namespace Go.Eng
open Go Go.RowKit
theorem zGs {ops:List Oper} (down:∀ (i:Nat) (o:Oper) (e:Edge),ops[i]?=some o→e ∈ o.after→Region.binds .any e=true→e.on < i) {i j:Nat} (h:dC ops i j=true):j < i:=by
 unfold dC at h;split at h
 ·rename_i o ho;obtain ⟨e,he,h2⟩:=Array.any_eq_true'.1 h;simp only [Bool.and_eq_true,beq_iff_eq,decide_eq_true_eq] at h2
  have:=down i o e ho he
  rcases h2 with ⟨a,b⟩
  first
  |(subst a;exact this b)
  |(subst b;exact this a)
 ·cases h
section
variable {P:Program} {N:Nat} {S:HS} {Q:dS}
theorem zG1 {id:Nat} {ops:List Oper} (n:Nat) (hm:P.follows .mixedOrders=true) (hok:qFf (aV S.env) ops n=true)
  (h:∀ K:HS→Prop,(∀ S',Q .normal S'→K S')→∀ K1:HS→Prop,(∀ S',iQ (HV2 P N (bQ ops) K (ops.drop n)) S'→K1 S')→HVr P N (bQ ops) K1 (ops.take n) S):HW P N (.region id ops.toArray true) Q S:=fun c l w I=>by
 have hks:∀ k ∈ aV S.env,∃ v,lk l k=some v:=fun k hk=>by
  obtain ⟨x,hx⟩:=eM hk;obtain ⟨ρ,xs,G⟩:=I;obtain ⟨v,h1,-⟩:=G.env k x hx;exact ⟨v,h1⟩
 refine sM (aV S.env) ?_
 have I':Inv c S (lk (keep (aV S.env) l)) w:=I.agree fun k x hk=>iG (dU hk)
 have hkk:kV (keep (aV S.env) l)=aV S.env:=hU hks
 generalize keep (aV S.env) l=l' at I' hkk;obtain ⟨ρ,xs,G⟩:=I'
 have ok:=rF hok
 have hlen:(ops.take n).length=n:=by rw [List.length_take];have:=ok.hn;omega
 have get_take:∀ {i:Nat} {o:Oper},(ops.take n)[i]?=some o→i < n∧ops[i]?=some o:=fun {i o} h=>by
  have hi:=(List.getElem?_eq_some_iff.1 h).1
  rw [hlen] at hi;rw [List.getElem?_take_of_lt hi] at h;exact ⟨hi,h⟩
 obtain ⟨hs,-,heads,S1,e1,F1,h1⟩:=pN (E0:=S.env) (st:=S.st) (ops.take n) 0 S (fun _=>.junk) (fun k o hk=>by rw [Nat.zero_add];exact (get_take hk).2) rfl (fun t x hx=>.inr ⟨fun j hj=>absurd hj (Nat.not_lt_zero _),hx⟩) (h (Q .normal) (fun _ h=>h) _ fun _ h=>h)
 rw [hlen,Nat.zero_add] at F1
 have head:∀ i o,i < n→ops[i]?=some o→HeadOk P N ops S.env S.st hs i o:=fun i o hi ho=>by
  have:=heads i o (by rw [List.getElem?_take_of_lt hi];exact ho)
  rw [Nat.zero_add] at this;exact this
 have uniq:∀ i j t,i < n→j < n→aG ops i=some t→aG ops j=some t→i=j:=by
  intro i j t hi hj h1 h2
  rcases Nat.lt_trichotomy i j with h|h|h
  ·rcases ok.uniq j i hj h with e|e
   ·rw [h2] at e;cases e
   ·exact absurd (h2.trans h1.symm) e
  ·exact h
  ·rcases ok.uniq i j hi h with e|e
   ·rw [h1] at e;cases e
   ·exact absurd (h1.trans h2.symm) e
 have hlt:DLt N ops n:=fun i t hi hd=>by
  obtain ⟨o,ho,hod⟩:=jL hd
  have:=(head i o hi ho).lt
  rw [hod] at this;exact this
 -- what a frame of the heads' names reads
 have frame:∀ (vs:Nat→Value) (w':World) (i:Nat) (E:aR),i≤n→Below w.heap.size w w'→FrOk ops S.env hs i E →
   (∀ j t x,j < i→aG ops j=some t→hlk E t=some x→RepH w' (c.A ρ S.st) c.n0 ρ (vs j) (hs j))→Good c ⟨E,S.st⟩ (lk (cH l' ops vs i)) w' ρ xs:=fun vs w' i E hi hB F hv=>by
  have GB:=G.below hB
  refine ⟨GB.rows,GB.apart,fun k x hk=>?_,GB.kept,GB.a0⟩
  rcases F k x hk with ⟨j,a,b,d⟩|⟨a,b⟩
  ·refine ⟨vs j,(eP (l:=l') (vs:=vs) hlt (base:=Array.replicate N undef) (by simp) b (fun q hq hne e=>hne (uniq q j k hq (by omega) e b)) i hi a).1,?_⟩
   rw [← d];exact hv j k x a b hk
  ·obtain ⟨v,v1,v2⟩:=GB.env k x b;exact ⟨v,by rw [(eN (l:=l') (vs:=vs) #[] k i a).1];exact v1,v2⟩
 refine qVg (aV S.env) n hm hkk hok hlt (J:=fun L vs w'=>Below w.heap.size w w'∧∀ j,j < n→L j=true→RepH w' (c.A ρ S.st) c.n0 ρ (vs j) (hs j)) ⟨(Below.refl _ _).drew,fun j _ h=>by cases h⟩ ?_ ?_
 ·intro i o hi ho L vs w1 ⟨hC,hR⟩ hLi hL _;obtain ⟨T,TF,TS,run⟩:=(head i o hi ho).head
  have GT:Good c ⟨T,S.st⟩ (lk (cH l' ops vs i)) w1 ρ xs:=frame vs w1 i T (by omega) hC TF fun j t x hj hd hx=>hR j (by omega) (hL j (by
   rcases (ok.looks i o t hi ho (iC (TS t x hx))).1 j (by omega) hd with ⟨_,e⟩|e
   ·exact e
   ·exact absurd (zGs ok.down e) (by omega)))
  obtain ⟨b,b1,b2,b3⟩:=run c _ w1 ρ xs GT;refine ⟨b,b1,fun hb=>?_,fun hb=>?_⟩
  ·exact (eU (fun x X hx=>by simp [evD,hx]) (b2 hb)).mono fun u w2 ⟨hu,hB⟩=>⟨hC.trans (hB.mono hC.size),fun j hj hLj=>by
    by_cases e:j=i
    ·subst e;dsimp only;rw [if_pos rfl];exact hu
    ·dsimp only at hLj ⊢;rw [if_neg e] at hLj ⊢;exact (hR j hj hLj).above hB⟩
  ·refine ⟨hC,fun j hj hLj=>?_⟩
   by_cases e:j=i
   ·subst e;dsimp only;rw [if_pos rfl,b3 hb];exact .v _
   ·dsimp only at hLj ⊢;rw [if_neg e] at hLj ⊢;exact hR j hj hLj
 ·intro L vs w1 ⟨hC,hR⟩ hL;obtain ⟨E1,st1⟩:=S1
  have e1:st1=S.st:=e1
  subst e1
  have G1:=frame vs w1 n E1 (Nat.le_refl _) hC F1 fun j t x hj _ _=>hR j hj (hL j hj)
  exact HW_drw.V2.mono' (sQ _ _ _ _ h1 ⟨ρ,xs,G1⟩) fun l2 w2 h2=>h2
end
end Go.Eng
