/-
  The engine of values: texts Rel, Hr, Hk, Hl, Hlo, He, Enc, Ste, Met, Spl, Nam, laid together.
-/
import Derived.Test.YtdfjeokjmigkaaaGreatEng
import Derived.Test.YtdfjeokjmigkaaaGreatGb
set_option linter.unusedSimpArgs false
set_option linter.unusedVariables false
section
namespace Go.Eng
open Go Go.RowKit
section
variable {P:Program} {N:Nat} {C:World→Prop} {ops:List Oper} {n:Nat} {l:Env} {R:Nat→Value→World→Prop}
def gV (l:Env) (ops:List Oper) (vs:Nat→Value):Nat→Env
|0=>l
|i + 1=>stp (aP ops i) (vs i) (gV l ops vs i)
def DLt (N:Nat) (ops:List Oper) (n:Nat):Prop:=∀ i t,i < n→aP ops i=some t→t < N
variable {vs:Nat→Value}
theorem qDy (hl:DLt N ops n) (hk:bY N l=true):∀ i,i≤n→bY N (gV l ops vs i)=true
|0,_=>hk
|i + 1,hi=>kN (qDy hl hk i (by omega)) (fun k e=>hl i k (by omega) e)
theorem mP (base:Array Value) (t:Nat):∀ i,(∀ j,j < i→aP ops j≠some t) →
  lk (gV l ops vs i) t=lk l t∧(lR base (gV l ops vs i))[t]?=(lR base l)[t]?
|0,_=>⟨rfl,rfl⟩
|i + 1,h=>by
  obtain ⟨h1,h2⟩:=mP base t i (fun j hj=>h j (by omega))
  have hne:=h i (by omega)
  simp only [gV]
  cases hd:aP ops i with
 |none=>exact ⟨h1,h2⟩
 |some d =>
   have:d≠t:=fun e=>hne (by rw [hd,e])
   simp only [stp,lk,lR,if_neg this];exact ⟨h1,by rw [Array.getElem?_setIfInBounds_ne this];exact h2⟩
theorem kX (hl:DLt N ops n) {base:Array Value} (hbase:base.size=N) {t j:Nat} (hj:aP ops j=some t) (huniq:∀ k,k < n→k≠j→aP ops k≠some t):∀ i,i≤n→j < i →
  lk (gV l ops vs i) t=some (vs j)∧(lR base (gV l ops vs i))[t]?=some (vs j)
|0,_,h=>absurd h (Nat.not_lt_zero _)
|i + 1,hi,h=>by
  simp only [gV]
  by_cases e:j=i
  ·subst e;rw [hj];simp only [stp,lk,lR,if_true,true_and];rw [Array.getElem?_setIfInBounds_self_of_lt (by rw [nK,hbase];exact hl j t (by omega) hj)]
  ·obtain ⟨h1,h2⟩:=kX hl hbase hj huniq i (by omega) (by omega)
   have hne:=huniq i (by omega) (Ne.symm e)
   cases hd:aP ops i with
  |none=>exact ⟨h1,h2⟩
  |some d =>
    have:d≠t:=fun e=>hne (by rw [hd,e])
    simp only [stp,lk,lR,if_neg this];exact ⟨h1,by rw [Array.getElem?_setIfInBounds_ne this];exact h2⟩
theorem qQb {keys:List Nat} (ok:RegOk keys ops n) (F:Fr N) (hk:bY N l=true) (bD:∀ t ∈ keys,∃ v,lk l t=some v) (hlt:DLt N ops n)
  {Le:Nat→World→World→Prop} (hLe:∀ i w,Le i w w) (hS:∀ j i u w w',j < n→i < n→j≠i→C w→R j u w→Le i w w'→R j u w')
  (H:∀ i o,i < n→ops[i]?=some o→∀ (vs:Nat→Value) (w:World),C w→(∀ j t,j < i→aP ops j=some t→t ∈ o.looksAt ops.toArray→R j (vs j) w) →
   ∃ b,gd (gV l ops vs i) (cT ops) o.guard (·=b)∧(b=true→Yields P (execOp (evD (gV l ops vs i)) o) w fun u w'=>R i u w'∧C w'∧Le i w w')∧(b=false→R i undef w))
  {Q:Exit→Act→World→Prop} (hT:∀ (vs:Nat→Value) (w:World),C w→(∀ j,j < n→R j (vs j) w)→wpList P ops.toArray Q (ops.drop n) (mk F (gV l ops vs n)) w) :
  ∀ (fuel:Nat) (listed:Array Bool) (a:Act) (w:World) (vs:Nat→Value),unl listed=fuel→Mid N C ops n (lR F.base l) vs listed a w→(∀ j,j < n→listed.getD j false=true→R j (vs j) w)→wpAny P .any ops.toArray Q fuel listed a w:=by
 have uniq:∀ i j t,i < n→j < n→aP ops i=some t→aP ops j=some t→i=j:=by
  intro i j t hi hj h1 h2
  rcases Nat.lt_trichotomy i j with h|h|h
  ·rcases ok.uniq j i hj h with e|e
   ·rw [h2] at e;cases e
   ·exact absurd (h2.trans h1.symm) e
  ·exact h
  ·rcases ok.uniq i j hi h with e|e
   ·rw [h1] at e;cases e
   ·exact absurd (h1.trans h2.symm) e
 have final:∀ (listed:Array Bool) (a:Act) (w:World) (vs:Nat→Value),Mid N C ops n (lR F.base l) vs listed a w→(∀ j,j < n→listed.getD j false=true)→a=mk F (gV l ops vs n):=by
  intro listed a w vs M hall;obtain ⟨tm,df⟩:=a
  have hd:df=[]:=M.defers
  subst hd;show Act.mk _ _=Act.mk _ _
  congr 1
  apply Array.ext_getElem?
  intro t
  by_cases h:∃ j,j < n∧aP ops j=some t
  ·obtain ⟨j,hj,hd⟩:=h
   have h1:=M.new j t hj (hall j hj) hd
   have h2:=(kX (l:=l) (vs:=vs) hlt F.hN hd (fun k hk hne e=>hne (uniq k j t hk hj e hd)) n (Nat.le_refl _) hj).2
   exact h1.trans h2.symm
  ·have h':∀ j,j < n→aP ops j≠some t:=fun j hj e=>h ⟨j,hj,e⟩
   have h1:=M.old t (fun j hj _=>h' j hj)
   have h2:=(mP (l:=l) (vs:=vs) F.base t n h').2
   exact h1.trans h2.symm
 have slot:∀ (listed:Array Bool) (a:Act) (w:World) (vs:Nat→Value) (i:Nat) (o:Oper) (t:Nat),Mid N C ops n (lR F.base l) vs listed a w→i < n→ops[i]?=some o→i ∈ Region.ready .any ops.toArray listed→t ∈ o.looksAt ops.toArray →
   ∃ X,a.tmps[t]?=some X∧lk (gV l ops vs i) t=some X:=by
  intro listed a w vs i o t M hi ho hr ht;obtain ⟨l1,l2⟩:=ok.looks i o t hi ho ht
  by_cases h:∃ j,j < n∧aP ops j=some t
  ·obtain ⟨j,hj,hd⟩:=h;obtain ⟨hji,he⟩:=l1 j hj hd;exact ⟨vs j,M.new j t hj (fY hr he) hd,(kX (l:=l) (vs:=vs) hlt F.hN hd (fun k hk hne e=>hne (uniq k j t hk hj e hd)) i (by omega) hji).1⟩
  ·have h':∀ j,j < n→aP ops j≠some t:=fun j hj e=>h ⟨j,hj,e⟩
   rcases l2 with ⟨j,hj,hd⟩|hkey
   ·exact absurd hd (h' j (by omega))
   ·obtain ⟨v,hv⟩:=bD t hkey;refine ⟨v,?_,?_⟩
    ·rw [M.old t (fun j hj _=>h' j hj)];exact mM F hk hv
    ·rw [(mP (l:=l) (vs:=vs) F.base t i (fun j hj=>h' j (by omega))).1];exact hv
 intro fuel
 induction fuel with
|zero =>
  intro listed a w vs hu M MR
  have hall:∀ j,j < ops.length→listed.getD j false=true:=fun j hj=>qKn hu (by rw [M.size];exact hj)
  have hn:n=ops.length:=by
   rcases Nat.lt_or_ge n ops.length with h|h
   ·have:=M.heads n (hall n h);omega
   ·have:=ok.hn;omega
  have ha:=final listed a w vs M (fun j hj=>hall j (by omega))
  subst ha;exact vB ok 0 n listed _ w (by omega) (Nat.le_refl _) M.size (fun i hi=>⟨fun _=>by omega,fun _=>hall i hi⟩) (hT vs w M.cls fun j hj=>MR j hj (hall j (by omega)))
|succ fuel ih =>
  intro listed a w vs hu M MR
  by_cases hdone:∀ j,j < n→listed.getD j false=true
  ·have ha:=final listed a w vs M hdone
   subst ha
   have hcount:∀ (m:Nat) (x:Array Bool),x.size=ops.length→(∀ i,i < ops.length→(x.getD i false=true↔i < m))→m≤ops.length→m + unl x=ops.length:=by
    intro m;generalize hd:ops.length - m=d
    induction d generalizing m with
   |zero =>
     intro x hx hl hm
     have:unl x=0:=by
      unfold unl;rw [List.length_eq_zero_iff,List.filter_eq_nil_iff];intro b hb;obtain ⟨i,hi,rfl⟩:=List.getElem_of_mem hb
      have hi':i < x.size:=by simpa using hi
      have:=(hl i (by omega)).2 (by omega)
      simp only [Array.getD,hi',dite_true] at this;simp [show x.toList[i]=true from this]
     omega
   |succ d ihd =>
     intro x hx hl hm
     have hmlt:m < ops.length:=by omega
     have h0:x.getD m true=false:=by
      have:¬ x.getD m false=true:=fun e=>by have:=(hl m hmlt).1 e;omega
      have hm':m < x.size:=by omega
      simp only [Array.getD,hm',dite_true] at this ⊢
      simpa using this
     have:=ihd (m + 1) (by omega) (x.setIfInBounds m true) (by simpa using hx) (fun i hi=>by
      by_cases e:m=i
      ·subst e
       have:m < x.size:=by omega
       simp [this]
      ·rw [getD_set_ne false e,hl i hi];omega) (by omega)
     have:=qDe h0
     omega
   have hl:∀ i,i < ops.length→(listed.getD i false=true↔i < n):=fun i hi=>⟨M.heads i,hdone i⟩
   have:=hcount n listed M.size hl ok.hn
   exact vB ok (fuel + 1) n listed _ w (by omega) (Nat.le_refl _) M.size hl (hT vs w M.cls fun j hj=>MR j hj (hdone j hj))
  ·have hex:∃ j,j < n∧listed.getD j false≠true:=by
    refine Classical.byContradiction fun hne=>hdone fun j hj=>?_
    refine Classical.byContradiction fun h=>hne ⟨j,hj,h⟩
   have hn:=ok.hn
   have hready:∃ j,j ∈ Region.ready .any ops.toArray listed:=by
    obtain ⟨j,hj,hjl⟩:=hex
    have:∀ d j,j=d→j < n→listed.getD j false≠true→∃ j,j ∈ Region.ready .any ops.toArray listed:=by
     intro d
     induction d using Nat.strongRecOn with
    |_ d ihd =>
      intro j hd hj hjl;subst hd
      have ho:ops[j]?=some (ops[j]'(by omega)):=List.getElem?_eq_getElem _
      by_cases hall:∀ e ∈ (ops[j]'(by omega)).after,Region.binds .any e=true→listed.getD e.on false=true
      ·refine ⟨j,mem_ready.2 ⟨?_,ops[j]'(by omega),by simp,hall⟩⟩
       have h2:j < listed.size:=by rw [M.size];omega
       simp only [Array.getD,h2,dite_true] at hjl ⊢
       simpa using hjl
      ·have:∃ e ∈ (ops[j]'(by omega)).after,Region.binds .any e=true∧listed.getD e.on false≠true:=by
        refine Classical.byContradiction fun hne=>hall fun e he hb=>?_
        refine Classical.byContradiction fun h=>hne ⟨e,he,hb,h⟩
       obtain ⟨e,he,hb,hl⟩:=this
       have hlt:=ok.down j _ e ho he hb
       exact ihd e.on hlt e.on rfl (by omega) hl
    exact this j j rfl hj hjl
   obtain ⟨j0,hj0⟩:=hready;refine ⟨fun h0=>absurd hj0 (by rw [h0];simp),fun i hi=>?_⟩
   obtain ⟨hun,o,ho,hall⟩:=mem_ready.1 hi
   have ho':ops[i]?=some o:=by simpa using ho
   have hilt:i < ops.length:=(List.getElem?_eq_some_iff.1 ho').1
   have hin:i < n:=by
    rcases Nat.lt_or_ge i n with h|h
    ·exact h
    ·exfalso
     apply hdone
     have key:∀ d j,i - j=d→j < i→listed.getD j false=true:=by
      intro d
      induction d using Nat.strongRecOn with
     |_ d ihd =>
       intro j hd hji;obtain ⟨k,hk1,hk2,hk3⟩:=ok.tail i j hilt h hji
       rcases Nat.lt_or_ge k i with hki|hki
       ·exact M.clos k j (ihd (i - k) (by omega) k rfl hki) hk3
       ·have:k=i:=by omega
        subst this;exact fY hi hk3
     exact fun j hj=>key _ j rfl (by omega)
   have hu':unl (listed.setIfInBounds i true)=fuel:=by have:=qDe hun;omega
   have hdi:aP ops i=o.dst:=by unfold aP;rw [ho'];rfl
   have hlt':kY N o.dst:=by
    cases hd:o.dst with
   |none=>trivial
   |some t=>exact hlt i t hin (hdi.trans hd)
   let nxt:Value→Nat→Value:=fun u j=>if j=i then u else vs j
   have nxt_i:∀ u,nxt u i=u:=fun u=>if_pos rfl
   have nxt_ne:∀ u j,j≠i→nxt u j=vs j:=fun u j h=>if_neg h
   have rest:∀ u w',R i u w'→Le i w w'→∀ j,j < n→(listed.setIfInBounds i true).getD j false=true→R j (nxt u j) w':=by
    intro u w' hu hB j hj hl
    by_cases e:j=i
    ·subst e;rw [nxt_i];exact hu
    ·rw [nxt_ne u j e];rw [getD_set_ne false (Ne.symm e)] at hl;exact hS j i _ w w' hj hin e M.cls (MR j hj hl) hB
   have step:∀ u w',C w'→Mid N C ops n (lR F.base l) (nxt u) (listed.setIfInBounds i true) (a.put o.dst u) w':=by
    intro u w' hC
    have hlt:=hlt'
    have hset:∀ j,(listed.setIfInBounds i true).getD j false=true→j=i∨listed.getD j false=true:=by
     intro j h
     by_cases e:i=j
     ·exact .inl e.symm
     ·rw [getD_set_ne false e] at h;exact .inr h
    have hseti:(listed.setIfInBounds i true).getD i false=true:=by
     have:i < listed.size:=by rw [M.size];exact hilt
     simp [this]
    refine ⟨by simpa using M.size,?_,?_,?_,?_,?_,?_,hC⟩
    ·intro k j hk he
     rcases hset k hk with rfl|hk
     ·exact getD_set_true (fY hi he)
     ·exact getD_set_true (M.clos k j hk he)
    ·intro k hk
     rcases hset k hk with rfl|hk
     ·exact hin
     ·exact M.heads k hk
    ·cases hd:o.dst <;> exact M.defers
    ·cases hd:o.dst with
    |none=>exact M.tsize
    |some d=>simp only [Act.put,Array.size_setIfInBounds];exact M.tsize
    ·intro j t hj hjl hd
     rcases hset j hjl with rfl|hjl'
     ·rw [hdi] at hd;rw [hd] at hlt ⊢;simp only [Act.put];rw [Array.getElem?_setIfInBounds_self_of_lt (by rw [M.tsize];exact hlt),nxt_i]
     ·by_cases e:j=i
      ·subst e;rw [hdi] at hd;rw [hd] at hlt ⊢;simp only [Act.put];rw [Array.getElem?_setIfInBounds_self_of_lt (by rw [M.tsize];exact hlt),nxt_i]
      ·rw [nxt_ne u j e]
       have h1:=M.new j t hj hjl' hd
       cases hdo:o.dst with
      |none=>exact h1
      |some d =>
        have hne:d≠t:=fun e'=>e (uniq j i t hj hin hd (by rw [hdi,hdo,e']))
        simp only [Act.put];rw [Array.getElem?_setIfInBounds_ne hne];exact h1
    ·intro t ht
     have h1:=M.old t (fun j hj hjl=>ht j hj (getD_set_true hjl))
     have h2:=ht i hin hseti
     rw [hdi] at h2
     cases hdo:o.dst with
    |none=>exact h1
    |some d =>
      have hne:d≠t:=fun e'=>h2 (by rw [hdo,e'])
      simp only [Act.put];rw [Array.getElem?_setIfInBounds_ne hne];exact h1
   obtain ⟨b,hb,hbt,hbf⟩:=H i o hin ho' vs w M.cls fun j t hj hd ht=>by
    obtain ⟨l1,-⟩:=ok.looks i o t hin ho' ht;exact MR j (by omega) (fY hi (l1 j (by omega) hd).2)
   have hw:Region.wanted o (yielded ops.toArray a.tmps)=b:=by
    unfold gd at hb;split at hb
    ·rename_i hg;simp only [Region.wanted,hg];exact hb
    ·rename_i g want hg;split at hb
     ·rename_i d hd;split at hb
      ·rename_i bb hbb
       have hdd:aP ops g=some d:=by
        unfold aP;simp only [cT,List.getElem?_map,Option.map_eq_some_iff] at hd;obtain ⟨x,hx,hx'⟩:=hd;simp [hx,hx']
       obtain ⟨X,hX1,hX2⟩:=slot listed a w vs i o d M hin ho' hi (kM hg hdd);rw [hbb] at hX2
       cases hX2
       have:yielded ops.toArray a.tmps g=some bb:=by
        unfold yielded;unfold aP at hdd;simp only [List.getElem?_toArray,hdd,Option.bind_some,hX1]
       simp only [Region.wanted,hg,this];rw [← hb]
       cases bb <;> cases want <;> rfl
      ·rename_i bb hnb hbb
       have hdd:aP ops g=some d:=by
        unfold aP;simp only [cT,List.getElem?_map,Option.map_eq_some_iff] at hd;obtain ⟨x,hx,hx'⟩:=hd;simp [hx,hx']
       obtain ⟨X,hX1,hX2⟩:=slot listed a w vs i o d M hin ho' hi (kM hg hdd);rw [hbb] at hX2
       cases hX2
       have:yielded ops.toArray a.tmps g=none:=by
        unfold yielded;unfold aP at hdd;simp only [List.getElem?_toArray,hdd,Option.bind_some,hX1];split
        ·rename_i b' e;cases e;exact (hnb b' rfl).elim
        ·rfl
       simp only [Region.wanted,hg,this];rw [← hb];rfl
      ·exact hb.elim
     ·exact hb.elim
   unfold wpOp;simp only [ho,hw]
   cases b with
  |true =>
    simp only [if_true];refine .inl (gW ?_)
    have hcong:execOp a.eval o=execOp (evD (gV l ops vs i)) o:=by
     refine execOp_congr o (ok.sel i o ho') (fun x hx=>?_)
     cases x with
    |tmp t =>
      obtain ⟨X,hX1,hX2⟩:=slot listed a w vs i o t M hin ho' hi (yX hx);simp [Act.eval,evD,ev,hX1,hX2]
    |const c=>rfl
    |global g=>rfl
    |func f=>rfl
    rw [hcong];exact (hbt rfl).mono fun u w' ⟨hu,hC,hB⟩=>ih _ _ _ _ hu' (step u w' hC) (rest u w' hu hB)
  |false =>
    simp only [Bool.false_eq_true,if_false];exact ih _ _ _ _ hu' (step undef w M.cls) (rest undef w (hbf rfl) (hLe i w))
end
section
variable {P:Program} {N:Nat} {Q:qEk} {l:Env} {w:World}
theorem qWc {id:Nat} {ops:List Oper} (keys:List Nat) (n:Nat) (hm:P.follows .mixedOrders=true) (bD:rL l=keys) (hok:xH keys ops n=true) (hlt:DLt N ops n)
  {C:World→Prop} {R:Nat→Value→World→Prop} (hC:C w.drew) {Le:Nat→World→World→Prop} (hLe:∀ i w,Le i w w) (hS:∀ j i u w w',j < n→i < n→j≠i→C w→R j u w→Le i w w'→R j u w')
  (H:∀ i o,i < n→ops[i]?=some o→∀ (vs:Nat→Value) (w:World),C w→(∀ j t,j < i→aP ops j=some t→t ∈ o.looksAt ops.toArray→R j (vs j) w) →
   ∃ b,gd (gV l ops vs i) (cT ops) o.guard (·=b)∧(b=true→Yields P (execOp (evD (gV l ops vs i)) o) w fun u w'=>R i u w'∧C w'∧Le i w w')∧(b=false→R i undef w))
  (hT:∀ (vs:Nat→Value) (w:World),C w→(∀ j,j < n→R j (vs j) w)→VC P N (cT ops) (fun l' w'=>Q .normal l' w') (ops.drop n) (gV l ops vs n) w):W P N (.region id ops.toArray true) Q l w:=fun hk F=>by
 have ok:=pG hok
 refine wp_region_any hm ?_
 have:=qQb ok F hk (fun t ht=>yZ (by rw [bD];exact ht)) hlt hLe hS H (Q:=qYd N Q)
  (fun vs w' hw' hR=>qA1 F (K:=fun l w=>Q .normal l w) (fun l' w' hk' hK=>⟨F,l',rfl,hk',hK⟩) _ _ _ (qDy hlt hk n (Nat.le_refl _)) (hT vs w' hw' hR))
  ops.length (Array.replicate ops.length false) (mk F l) w.drew (fun _=>undef) (pZ _)
  ⟨by simp,(fun i j hi=>by rw [getD_replicate_false] at hi;cases hi),(fun i hi=>by rw [getD_replicate_false] at hi;cases hi),rfl,by simp [mk,nK,F.hN],(fun j t _ hl=>by rw [getD_replicate_false] at hl;cases hl),fun t _=>rfl,hC⟩
  (fun j _ hl=>by rw [getD_replicate_false] at hl;cases hl)
 simpa using this
theorem zMg {id:Nat} {ops:List Oper} (keys:List Nat) (n:Nat) (hm:P.follows .mixedOrders=true) (bD:rL l=keys) (hok:xH keys ops n=true) (hlt:DLt N ops n)
  {C:World→Prop} {R:Nat→Value→World→Prop} (hC:C w.drew) (hS:∀ i u w w',C w→R i u w→Below w.heap.size w w'→R i u w')
  (H:∀ i o,i < n→ops[i]?=some o→∀ (vs:Nat→Value) (w:World),C w→(∀ j t,j < i→aP ops j=some t→t ∈ o.looksAt ops.toArray→R j (vs j) w) →
   ∃ b,gd (gV l ops vs i) (cT ops) o.guard (·=b)∧(b=true→Yields P (execOp (evD (gV l ops vs i)) o) w fun u w'=>R i u w'∧C w'∧Below w.heap.size w w')∧(b=false→R i undef w))
  (hT:∀ (vs:Nat→Value) (w:World),C w→(∀ j,j < n→R j (vs j) w)→VC P N (cT ops) (fun l' w'=>Q .normal l' w') (ops.drop n) (gV l ops vs n) w):W P N (.region id ops.toArray true) Q l w :=
 qWc keys n hm bD hok hlt hC (Le:=fun _ w w'=>Below w.heap.size w w') (fun _ w=>Below.refl _ _) (fun j _ u w w' _ _ _ hc hr hb=>hS j u w w' hc hr hb) H hT
end
end Go.Eng
end

section
namespace Go.Eng
open Go Go.RowKit

def cQ:Operand→List Nat
|.tmp t=>[t]
|_=>[]
def qA9:List Operand→List Nat
|[]=>[]
|x :: r=>cQ x ++ qA9 r
def tG:List (Nat × Operand)→List Nat
|[]=>[]
|(_,x) :: r=>cQ x ++ tG r
def qJi:Option Operand→List Nat
|some x=>cQ x
|none=>[]
def qK3:Callee→List Nat
|.value x=>cQ x
|_=>[]
def bS:Op→List Nat
|.move x=>cQ x
|.assign x=>cQ x
|.nilCheck x=>cQ x
|.pick c a b=>cQ c ++ (cQ a ++ cQ b)
|.extract x _=>cQ x
|.field _ x _=>cQ x
|.fieldAddr _ x _=>cQ x
|.load _ x=>cQ x
|.unOp _ _ x=>cQ x
|.convert _ _ x=>cQ x
|.indexAddr _ x i=>cQ x ++ cQ i
|.index _ x i=>cQ x ++ cQ i
|.slice _ x l h none=>cQ x ++ (qJi l ++ qJi h)
|.binOp _ _ x y _=>cQ x ++ cQ y
|.build _ ps=>tG ps.toList
|.buildSlice _ _ ps=>tG ps.toList
|.makeSlice _ x y=>cQ x ++ cQ y
|.call ⟨k,args,_⟩=>qK3 k ++ qA9 args.toList
|_=>[]
theorem jV {x:Operand} {t:Nat} (h:t ∈ cQ x):x=.tmp t:=by
 cases x <;> simp [cQ] at h
 subst h;rfl
theorem qK1:∀ {l:List Operand} {t:Nat},t ∈ qA9 l→Operand.tmp t ∈ l
|[],t,h=>by simp [qA9] at h
|x :: r,t,h=>by
  simp only [qA9,List.mem_append] at h
  rcases h with h|h
  ·rw [jV h];exact List.mem_cons_self ..
  ·exact List.mem_cons_of_mem _ (qK1 h)
theorem qEx:∀ {l:List (Nat × Operand)} {t:Nat},t ∈ tG l→Operand.tmp t ∈ l.map (·.2)
|[],t,h=>by simp [tG] at h
|(k,x) :: r,t,h=>by
  simp only [tG,List.mem_append] at h
  rcases h with h|h
  ·rw [List.map_cons,jV h];exact List.mem_cons_self ..
  ·rw [List.map_cons];exact List.mem_cons_of_mem _ (qEx h)
theorem qPf {x:Option Operand} {t:Nat} (h:t ∈ qJi x):x=some (.tmp t):=by
 cases x with
|none=>simp [qJi] at h
|some x=>rw [jV h]
theorem qTa {o:Op} {t:Nat} (h:t ∈ bS o):Operand.tmp t ∈ o.operands:=by
 unfold bS at h;split at h
 all_goals try simp only [List.mem_append] at h
 case h_13=>
  simp only [Op.operands]
  rcases h with h|h|h
  ·rw [jV h];simp
  ·rw [qPf h];simp
  ·rw [qPf h];simp
 case h_15=>simpa [Op.operands] using qEx h
 case h_16=>simpa [Op.operands] using qEx h
 case h_18 =>
  simp only [Op.operands,Call.operands,Array.mem_append]
  rcases h with h|h
  ·refine .inl ?_;unfold qK3 at h;split at h
   ·rw [jV h];simp
   ·simp at h
  ·exact .inr (by simpa using qK1 h)
 case h_19=>simp at h
 all_goals
  simp only [Op.operands]
  first
 |(rw [jV h];simp;done)
 |(rcases h with h|h <;> (rw [jV h];simp))
 |(rcases h with h|h|h <;> (rw [jV h];simp))
def jM (ds:List (Option Nat)):Option (Nat × Bool)→List Nat
|none=>[]
|some (g,_)=>match ds[g]? with
 |some (some d)=>[d]
 |_=>[]
def mC (e:aM):List Nat→aM
|[]=>[]
|t :: r=>match hlk e t with
 |some h=>(t,h) :: mC e r
 |none=>mC e r
theorem xT {e:aM}:∀ {l:List Nat} {t:Nat} {h:HV},hlk (mC e l) t=some h→t ∈ l∧hlk e t=some h
|[],t,h,hh=>by simp [mC,hlk] at hh
|k :: r,t,h,hh=>by
  simp only [mC] at hh;split at hh
  ·rename_i x hx;simp only [hlk] at hh
   by_cases ek:k=t
   ·subst ek;rw [if_pos rfl] at hh;exact ⟨List.mem_cons_self ..,by rw [hx];exact hh⟩
   ·rw [if_neg ek] at hh;obtain ⟨a,b⟩:=xT hh;exact ⟨List.mem_cons_of_mem _ a,b⟩
  ·obtain ⟨a,b⟩:=xT hh;exact ⟨List.mem_cons_of_mem _ a,b⟩
def zGz (P:Program) (f:FuncId) (args:List HV) (T:HS) (K:HV→Prop):Prop :=
 aE P f=true∧∃ h,K h∧∀ (c:Ctx) (look:Nat→Option Value) (w:World) (ρ:Nat→Value) (xs:Nat→List Value) (vs:List Value),Good c T look w ρ xs→qA3 w (c.A ρ T.st) c.n0 ρ vs args →
  Calls P f vs.toArray w (Ret fun u w'=>RepH w' (c.A ρ T.st) c.n0 ρ u h∧Below w.heap.size w w')
def pJ:aM→Bool
|[]=>true
|(_,.v _) :: r=>pJ r
|(_,.lst _ _) :: r=>pJ r
|(_,.agg _) :: r=>pJ r
|_=>false
def zCm (d:Option Nat) (S:HS) (K:HS→Prop):HOut→Prop
|.go c (.own i) S'=>match rlk S'.st i with
 |some (.sl _ _ _ els)=>c∧K (S.set d (.lst true els))
 |_=>False
|_=>False
def zN1:Op→Bool
|.buildSlice ..=>true
|.makeSlice ..=>true
|_=>false
def qEg (P:Program) (o:Oper) (S T:HS) (K:HS→Prop):HOut→Prop
|.go c h _=>match fG o.op with
 |true=>c∧K (S.set o.dst h)
 |false=>match zN1 o.op && pJ T.env with
  |true=>zCm o.dst S K (hop P ⟨T.env,[]⟩ (uR o.dst) o.op)
  |false=>False
|.call f args=>zGz P f args T (fun x=>mR K (S.set o.dst x))
|.eqn t x y neg=>∃ r,EqR P t x.toArray y.toArray r∧mR K (S.set o.dst (.v (.bool (neg ^^ r))))
|.bytes _ _=>False
|.bad=>False
def zA8 (P:Program) (N:Nat) (o:Oper) (S T:HS) (K:HS→Prop):Prop:=match hU N o.dst with
|true=>qEg P o S T K (hop P T (uR o.dst) o.op)
|false=>False
def lC (P:Program) (N:Nat) (o:Oper) (S T:HS) (K:HS→Prop):GOut→Prop
|.yes=>zA8 P N o S T K
|.no=>oU N o.dst S K
|.ask d b want=>match b == want with
 |true=>zA8 P N o (S.rep d (.v (.bool want))) (T.rep d (.v (.bool want))) K
 |false=>oU N o.dst (S.rep d (.v (.bool (!want)))) K
|.bad=>False
def HVr (P:Program) (N:Nat) (ds:List (Option Nat)) (K:HS→Prop):List Oper→HS→Prop
|[],S=>K S
|o :: rest,S=>lC P N o S ⟨mC S.env (jM ds o.guard ++ bS o.op),S.st⟩ (HVr P N ds K rest) (hG (mC S.env (jM ds o.guard ++ bS o.op)) ds o.guard)
end Go.Eng
end

section
namespace Go.Eng
open Go Go.RowKit
section
variable {P:Program} {N:Nat} {c:Ctx} {S T:HS} {Q:gE} {l:Env} {look:Nat→Option Value} {w w':World} {ρ:Nat→Value} {xs:Nat→List Value} {K:HS→Prop}
theorem RepH.above {A:Nat→Prop} {n0:Nat} {v:Value} {x:HV} (h:RepH w A n0 ρ v x) (B:Below w.heap.size w w'):RepH w' A n0 ρ v x:=h.up B.size (fun b hlt _=>B.block b hlt) (fun b _ h=>h) (Nat.le_refl _)
theorem pR {d:Nat} {h:HV}:∀ {E:aM},hlk E d=some h→∀ k,hlk (qBl d h E) k=hlk E k
|[],e,k=>by simp [hlk] at e
|(j,x) :: r,e,k=>by
  simp only [hlk] at e;simp only [qBl]
  by_cases ej:j=d
  ·rw [if_pos ej] at e ⊢;simp only [Option.some.injEq] at e;subst e;rfl
  ·rw [if_neg ej] at e ⊢;simp only [hlk,pR e k]
theorem Good.sameEnv {E:aM} {st:aD} (G:Good c ⟨E,st⟩ look w ρ xs) {E':aM} (h:∀ k,hlk E' k=hlk E k):Good c ⟨E',st⟩ look w ρ xs:=⟨G.rows,G.apart,fun k x hk=>G.env k x (by rw [← h k];exact hk),G.kept,G.a0⟩
theorem qWy (G:Good c T (lk l) w ρ xs) {id i:Nat} {o:Op} {ty:TypeId} {cnd:Prop} {S':HS} (hp:pJ T.env=true) (h:hop P ⟨T.env,[]⟩ id o=.go cnd (.own i) S') {nw:Bool} {t sz:Nat} {els:List (List FV)} (hr:rlk S'.st i=some (.sl nw t sz els)) (hc:cnd) :
  aY P l o ty w (fun u w'=>RepH w' (c.A ρ T.st) c.n0 ρ u (.lst true els)∧Below w.heap.size w w') (fun u w'=>RepH w' (c.A ρ T.st) c.n0 ρ u (.lst true els)∧Below w.heap.size w w'):=by
 have hA:∀ b,c.A ρ T.st b→b < w.heap.size:=by
  rintro b (h0|⟨i,r,hi,hb⟩)
  ·have:=(G.a0 b h0).1;have:=G.kept.size;omega
  ·exact G.lt hi hb
 have G2:Good ⟨w,fun _=>False,c.A ρ T.st,c.n0,Nat.le_trans c.hn G.kept.size,fun _ _=>False⟩ ⟨T.env,[]⟩ (lk l) w ρ xs:=by
  refine ⟨fun id r hr=>by simp [rlk] at hr,fun i j r s b hne hi=>by simp [rlk] at hi,fun k x hk=>?_,Kept.refl _ _,fun b hb=>⟨hA b hb,fun h=>h⟩⟩
  obtain ⟨u,h1,h2⟩:=G.env k _ hk;refine ⟨u,h1,h2.up (Nat.le_refl _) (fun _ _ _=>rfl) (fun b _ hb=>?_) (Nat.le_refl _)⟩
  rcases hb with hb|⟨i,r,hi,-⟩
  ·exact hb
  ·simp [rlk] at hi
 refine bE (qPc G2 (bM _ _) h hc) fun u w' ⟨ρ2,xs2,G3,r⟩=>?_
 have B:Below w.heap.size w w':=G3.kept.below (fun _ _ h=>h)
 refine ⟨?_,B⟩
 cases r
 obtain ⟨o1,o2,o3⟩:=fC G3 hr
 have R0:=G3.rows i _ hr
 refine .lst (qDj o1 o2 (fun p k hp hk=>?_) (fun b hb=>?_))
 ·obtain ⟨u,a,b,d⟩:=o3 p k hp hk;exact ⟨u,a,b,d.up (Nat.le_refl _) (fun _ _ _=>rfl) (fun b _ h=>.inl h) (Nat.le_refl _)⟩
 ·rcases (R0.new b hb).1 with h|h
  ·have h:w.heap.size≤b:=h
   exact ⟨fun hA'=>by have:=hA b hA';omega,fun _=>by have:=c.hn;have:=G.kept.size;omega⟩
  ·exact h.elim
theorem qEf {o:Oper} (h:zA8 P N o S T K):kY N o.dst∧∃ x,K (S.set o.dst x)∧∀ (c:Ctx) (l:Env) (w:World) (ρ:Nat→Value) (xs:Nat→List Value),Good c T (lk l) w ρ xs →
  aY P l o.op o.type w (fun u w'=>RepH w' (c.A ρ T.st) c.n0 ρ u x∧Below w.heap.size w w') (fun u w'=>RepH w' (c.A ρ T.st) c.n0 ρ u x∧Below w.heap.size w w'):=by
 unfold zA8 at h;split at h
 ·rename_i hd;refine ⟨fA hd,?_⟩
  cases ho:hop P T (uR o.dst) o.op with
 |go c' hv S' =>
   rw [ho] at h;unfold qEg at h;dsimp only at h;split at h
   ·rename_i hq;obtain ⟨h0,h1⟩:=h;refine ⟨hv,h1,fun c l w ρ xs G=>?_⟩
    obtain ⟨v,hK,hv'⟩:=qWn (ty:=o.type) (qA8 (ty:=0) G (bM _ _) ho hq h0);exact bE (hv' w (Below.refl _ _)) fun u w' ⟨e,B⟩=>by subst e;exact ⟨hK.2.2.above B,B⟩
   ·split at h
    ·rename_i hm;simp only [Bool.and_eq_true] at hm;unfold zCm at h;split at h
     ·rename_i c2 i S2 hm2;split at h
      ·rename_i nw t sz els hr;exact ⟨_,h.2,fun c l w ρ xs G=>qWy G hm.2 hm2 hr h.1⟩
      ·exact h.elim
     ·exact h.elim
    ·exact h.elim
 |call f args =>
   rw [ho] at h;obtain ⟨hf,x,hK,hc⟩:=h;refine ⟨x,hK,fun c l w ρ xs G=>?_⟩
   obtain ⟨y,ay,ats,e,hfn,has⟩:=qGd ho;rw [e];obtain ⟨vs,e1,e2,e3⟩:=G.evs (bM _ _) has;unfold aY;simp only [aJ,cS,e1,G.fn (bM _ _) hfn];exact ⟨hf,hc c (lk l) w ρ xs vs G ⟨e2,e3⟩⟩
 |eqn t x y neg =>
   rw [ho] at h;obtain ⟨r,h1,h2⟩:=h;refine ⟨_,h2,fun c l w ρ xs G=>?_⟩
   exact bE (qKw G (bM _ l) ho h1) fun v w' ⟨e,_,r⟩=>by subst e;exact ⟨r,Below.refl _ _⟩
 |bytes ok s=>rw [ho] at h;exact h.elim
 |bad=>rw [ho] at h;exact h.elim
 ·exact h.elim
def FrOk (ops:List Oper) (E0:aM) (hs:Nat→HV) (i:Nat) (E:aM):Prop:=∀ t h,hlk E t=some h→(∃ j,j < i∧aP ops j=some t∧hs j=h)∨((∀ j,j < i→aP ops j≠some t)∧hlk E0 t=some h)
theorem FrOk.congr {ops:List Oper} {E0 E:aM} {hs hs':Nat→HV} {i:Nat} (h:FrOk ops E0 hs i E) (he:∀ j,j < i→hs' j=hs j):FrOk ops E0 hs' i E:=fun t x hx=>by
 rcases h t x hx with ⟨j,a,b,d⟩|r
 ·exact .inl ⟨j,a,b,by rw [he j a];exact d⟩
 ·exact .inr r
theorem FrOk.env {ops:List Oper} {E0 E E':aM} {hs:Nat→HV} {i:Nat} (h:FrOk ops E0 hs i E) (he:∀ t x,hlk E' t=some x→hlk E t=some x):FrOk ops E0 hs i E':=fun t x hx=>h t x (he t x hx)
theorem FrOk.set {ops:List Oper} {E0:aM} {hs:Nat→HV} {i:Nat} {S:HS} (h:FrOk ops E0 hs i S.env) {o:Oper} (ho:ops[i]?=some o):FrOk ops E0 hs (i + 1) (S.set o.dst (hs i)).env:=by
 have hd:aP ops i=o.dst:=by unfold aP;rw [ho];rfl
 intro t x hx
 cases e:o.dst with
|none =>
  rw [e] at hx hd
  rcases h t x hx with ⟨j,a,b,d⟩|⟨a,b⟩
  ·exact .inl ⟨j,by omega,b,d⟩
  ·refine .inr ⟨fun j hj=>?_,b⟩
   by_cases ej:j=i
   ·subst ej;rw [hd];simp
   ·exact a j (by omega)
|some d =>
  rw [e] at hx hd;simp only [HS.set,hlk] at hx
  by_cases et:d=t
  ·rw [if_pos et] at hx;simp only [Option.some.injEq] at hx;exact .inl ⟨i,by omega,by rw [hd,et],hx⟩
  ·rw [if_neg et] at hx
   rcases h t x hx with ⟨j,a,b,d'⟩|⟨a,b⟩
   ·exact .inl ⟨j,by omega,b,d'⟩
   ·refine .inr ⟨fun j hj=>?_,b⟩
    by_cases ej:j=i
    ·subst ej;rw [hd];simpa using et
    ·exact a j (by omega)
structure HeadOk (P:Program) (N:Nat) (ops:List Oper) (E0:aM) (st:aD) (hs:Nat→HV) (i:Nat) (o:Oper):Prop where
 lt:kY N o.dst
 head:∃ T:aM,FrOk ops E0 hs i T∧(∀ t h,hlk T t=some h→t ∈ jM (cT ops) o.guard ++ bS o.op)∧∀ (c:Ctx) (l:Env) (w:World) (ρ:Nat→Value) (xs:Nat→List Value),Good c ⟨T,st⟩ (lk l) w ρ xs →
  ∃ b,gd l (cT ops) o.guard (·=b)∧(b=true→aY P l o.op o.type w (fun u w'=>RepH w' (c.A ρ st) c.n0 ρ u (hs i)∧Below w.heap.size w w') (fun u w'=>RepH w' (c.A ρ st) c.n0 ρ u (hs i)∧Below w.heap.size w w'))∧(b=false→hs i=.v undef)
theorem qBu {d:Option Nat} (h:oU N d S K):kY N d∧K (S.set d (.v undef)):=by
 unfold oU at h;split at h
 ·rename_i hd;exact ⟨fA hd,h⟩
 ·exact h.elim
theorem qH6 {ops:List Oper} {E0:aM} {st:aD}:∀ (rest:List Oper) (i:Nat) (S:HS) (hs0:Nat→HV),(∀ k o,rest[k]?=some o→ops[i + k]?=some o)→S.st=st→FrOk ops E0 hs0 i S.env→HVr P N (cT ops) K rest S →
  ∃ hs,(∀ j,j < i→hs j=hs0 j)∧(∀ k o,rest[k]?=some o→HeadOk P N ops E0 st hs (i + k) o)∧∃ S',S'.st=st∧FrOk ops E0 hs (i + rest.length) S'.env∧K S'
|[],i,S,hs0,hops,hst,F,h=>⟨hs0,fun _ _=>rfl,fun k o hk=>by simp at hk,S,hst,F,h⟩
|o :: rest,i,S,hs0,hops,hst,F,h=>by
  have hoi:ops[i]?=some o:=hops 0 o (by simp)
  rw [HVr] at h;generalize hT:mC S.env (jM (cT ops) o.guard ++ bS o.op)=T at h
  have TF:∀ t x,hlk T t=some x→t ∈ jM (cT ops) o.guard ++ bS o.op∧hlk S.env t=some x:=fun t x hx=>by subst hT;exact xT hx
  have key:∀ (S1:HS) (x:HV),S1.st=st→FrOk ops E0 hs0 i S1.env→HVr P N (cT ops) K rest (S1.set o.dst x)→kY N o.dst →
    (∀ (c:Ctx) (l:Env) (w:World) (ρ:Nat→Value) (xs:Nat→List Value),Good c ⟨T,st⟩ (lk l) w ρ xs →
     ∃ b,gd l (cT ops) o.guard (·=b)∧(b=true→aY P l o.op o.type w (fun u w'=>RepH w' (c.A ρ st) c.n0 ρ u x∧Below w.heap.size w w') (fun u w'=>RepH w' (c.A ρ st) c.n0 ρ u x∧Below w.heap.size w w'))∧(b=false→x=.v undef)) →
    ∃ hs,(∀ j,j < i→hs j=hs0 j)∧(∀ k o',(o :: rest)[k]?=some o'→HeadOk P N ops E0 st hs (i + k) o')∧∃ S',S'.st=st∧FrOk ops E0 hs (i + (o :: rest).length) S'.env∧K S':=by
   intro S1 x hst1 F1 hK hlt hrun
   let hs1:Nat→HV:=fun j=>if j=i then x else hs0 j
   have e1:hs1 i=x:=if_pos rfl
   have e2:∀ j,j < i→hs1 j=hs0 j:=fun j hj=>if_neg (by omega)
   have F2:FrOk ops E0 hs1 (i + 1) (S1.set o.dst x).env:=by
    have:=(F1.congr e2).set hoi
    rw [e1] at this;exact this
   obtain ⟨hs,a,b,S',d,e,f⟩:=qH6 rest (i + 1) (S1.set o.dst x) hs1 (fun k o' hk=>by
    have:=hops (k + 1) o' (by simpa using hk)
    rw [show i + 1 + k=i + (k + 1) by omega];exact this) (by cases o.dst <;> exact hst1) F2 hK
   have ei:hs i=x:=by rw [a i (by omega),e1]
   have ej:∀ j,j < i→hs j=hs0 j:=fun j hj=>by rw [a j (by omega),e2 j hj]
   refine ⟨hs,ej,fun k o' hk=>?_,S',d,?_,f⟩
   ·cases k with
   |zero =>
     simp only [List.getElem?_cons_zero,Option.some.injEq] at hk;subst hk;exact ⟨hlt,T,(F.congr ej).env (fun t x hx=>(TF t x hx).2),fun t x hx=>(TF t x hx).1,by rw [Nat.add_zero,ei];exact hrun⟩
   |succ k =>
     have:=b k o' (by simpa using hk)
     rw [show i + 1 + k=i + (k + 1) by omega] at this;exact this
   ·rw [List.length_cons,show i + (rest.length + 1)=i + 1 + rest.length by omega];exact e
  cases hg:hG T (cT ops) o.guard with
 |yes =>
   rw [hg] at h;obtain ⟨hlt,x,hK,hv⟩:=qEf h;refine key S x hst F hK hlt fun c l w ρ xs G=>⟨true,qMg (S:=⟨T,st⟩) hg rfl,fun _=>?_,fun e=>by cases e⟩
   have:=hv c l w ρ xs (by rw [hst];exact G)
   rw [hst] at this;exact this
 |no =>
   rw [hg] at h;obtain ⟨hlt,hK⟩:=qBu h;exact key S _ hst F hK hlt fun c l w ρ xs G=>⟨false,zB8 (S:=⟨T,st⟩) ⟨ρ,xs,G⟩ hg rfl,fun e=>(by cases e),fun _=>rfl⟩
 |ask d b want =>
   rw [hg] at h;obtain ⟨j,hj,hd,hb⟩:=zAd (S:=⟨T,st⟩) hg
   have hbS:=(TF d _ hb).2
   simp only [lC] at h;split at h
   ·rename_i e
    have e':b=want:=by simpa using e
    subst e';obtain ⟨hlt,x,hK,hv⟩:=qEf h;refine key (S.rep d (.v (.bool b))) x hst (F.env fun t x hx=>by rw [← pR hbS t];exact hx) hK hlt fun c l w ρ xs G=>⟨true,(qBn (S:=⟨T,st⟩) ⟨ρ,xs,G⟩ hg (k:=(·=true)) e).1,fun _=>?_,fun e=>by cases e⟩
    have:=hv c l w ρ xs (by rw [hst];exact G.sameEnv (pR hb))
    simp only [HS.rep] at this;rw [hst] at this;exact this
   ·rename_i e
    have e':b=!want:=by cases b <;> cases want <;> simp_all
    subst e';obtain ⟨hlt,hK⟩:=qBu h;exact key (S.rep d (.v (.bool (!want)))) _ hst (F.env fun t x hx=>by rw [← pR hbS t];exact hx) hK hlt fun c l w ρ xs G=>⟨false,(qBn (S:=⟨T,st⟩) ⟨ρ,xs,G⟩ hg (k:=(·=false)) e).1,fun e=>(by cases e),fun _=>rfl⟩
 |bad=>rw [hg] at h;exact h.elim
end
end Go.Eng
end

section
namespace Go.Eng
open Go Go.RowKit
section
variable {P:Program} {N:Nat} {c:Ctx} {S T:HS} {Q:gE} {l:Env} {look:Nat→Option Value} {w w':World} {ρ:Nat→Value} {xs:Nat→List Value} {K:HS→Prop}
theorem qW {ops:List Oper} {o:Oper} {t:Nat} (h:t ∈ jM (cT ops) o.guard ++ bS o.op):t ∈ o.looksAt ops.toArray:=by
 rcases List.mem_append.1 h with h|h
 ·cases hg:o.guard with
 |none=>rw [hg] at h;simp [jM] at h
 |some p =>
   obtain ⟨g,b⟩:=p;rw [hg] at h;simp only [jM] at h;split at h
   ·rename_i d hd;simp only [List.mem_singleton] at h;subst h;refine kM hg ?_;unfold aP;simp only [cT,List.getElem?_map,Option.map_eq_some_iff] at hd;obtain ⟨x,hx,hx'⟩:=hd;simp [hx,hx']
   ·simp at h
 ·exact yX (qTa h)
theorem pS {x:HV} {k:Nat}:∀ {e:aM},hlk e k=some x→k ∈ bD e
|[],h=>by simp [hlk] at h
|(j,y) :: r,h=>by
  simp only [hlk] at h
  by_cases ej:j=k
  ·simp [bD,ej]
  ·rw [if_neg ej] at h
   have:=pS h
   simp only [bD,List.map_cons,List.mem_cons];exact .inr this
theorem zQx {id:Nat} {ops:List Oper} (n:Nat) (hm:P.follows .mixedOrders=true) (hok:xH (bD S.env) ops n=true)
  (h:∀ K:HS→Prop,(∀ S',Q .normal S'→K S')→HVr P N (cT ops) (fun S'=>mR (HV2 P N (cT ops) K (ops.drop n)) S') (ops.take n) S):HW P N (.region id ops.toArray true) Q S:=fun c l w I=>by
 have hks:∀ k ∈ bD S.env,∃ v,lk l k=some v:=fun k hk=>by
  obtain ⟨x,hx⟩:=pT hk;obtain ⟨ρ,xs,G⟩:=I;obtain ⟨v,h1,-⟩:=G.env k x hx;exact ⟨v,h1⟩
 refine qDb (bD S.env) ?_
 have I':Inv c S (lk (keep (bD S.env) l)) w:=I.agree fun k x hk=>qB (pS hk)
 have hkk:rL (keep (bD S.env) l)=bD S.env:=pN hks
 generalize keep (bD S.env) l=l' at I' hkk;obtain ⟨ρ,xs,G⟩:=I'
 have ok:=pG hok
 have hlen:(ops.take n).length=n:=by rw [List.length_take];have:=ok.hn;omega
 have get_take:∀ {i:Nat} {o:Oper},(ops.take n)[i]?=some o→i < n∧ops[i]?=some o:=fun {i o} h=>by
  have hi:=(List.getElem?_eq_some_iff.1 h).1
  rw [hlen] at hi;rw [List.getElem?_take_of_lt hi] at h;exact ⟨hi,h⟩
 obtain ⟨hs,-,heads,S1,e1,F1,h1⟩:=qH6 (E0:=S.env) (st:=S.st) (ops.take n) 0 S (fun _=>.junk) (fun k o hk=>by rw [Nat.zero_add];exact (get_take hk).2) rfl (fun t x hx=>.inr ⟨fun j hj=>absurd hj (Nat.not_lt_zero _),hx⟩) (h (Q .normal) fun _ h=>h)
 rw [hlen,Nat.zero_add] at F1
 have head:∀ i o,i < n→ops[i]?=some o→HeadOk P N ops S.env S.st hs i o:=fun i o hi ho=>by
  have:=heads i o (by rw [List.getElem?_take_of_lt hi];exact ho)
  rw [Nat.zero_add] at this;exact this
 have uniq:∀ i j t,i < n→j < n→aP ops i=some t→aP ops j=some t→i=j:=by
  intro i j t hi hj h1 h2
  rcases Nat.lt_trichotomy i j with h|h|h
  ·rcases ok.uniq j i hj h with e|e
   ·rw [h2] at e;cases e
   ·exact absurd (h2.trans h1.symm) e
  ·exact h
  ·rcases ok.uniq i j hi h with e|e
   ·rw [h1] at e;cases e
   ·exact absurd (h1.trans h2.symm) e
 have hlt:DLt N ops n:=fun i t hi hd=>by
  obtain ⟨o,ho,hod⟩:=pV hd
  have:=(head i o hi ho).lt
  rw [hod] at this;exact this
 -- what a frame of the heads' names reads
 have frame:∀ (vs:Nat→Value) (w':World) (i:Nat) (E:aM),i≤n→Below w.heap.size w w'→FrOk ops S.env hs i E →
   (∀ j t x,j < i→aP ops j=some t→hlk E t=some x→RepH w' (c.A ρ S.st) c.n0 ρ (vs j) (hs j))→Good c ⟨E,S.st⟩ (lk (gV l' ops vs i)) w' ρ xs:=fun vs w' i E hi hB F hv=>by
  have GB:=G.below hB
  refine ⟨GB.rows,GB.apart,fun k x hk=>?_,GB.kept,GB.a0⟩
  rcases F k x hk with ⟨j,a,b,d⟩|⟨a,b⟩
  ·refine ⟨vs j,(kX (l:=l') (vs:=vs) hlt (base:=Array.replicate N undef) (by simp) b (fun q hq hne e=>hne (uniq q j k hq (by omega) e b)) i hi a).1,?_⟩
   rw [← d];exact hv j k x a b hk
  ·obtain ⟨v,v1,v2⟩:=GB.env k x b;exact ⟨v,by rw [(mP (l:=l') (vs:=vs) #[] k i a).1];exact v1,v2⟩
 refine zMg (bD S.env) n hm hkk hok hlt (C:=fun w'=>Below w.heap.size w w') (R:=fun j u w'=>RepH w' (c.A ρ S.st) c.n0 ρ u (hs j)) (Below.refl _ _).drew (fun i u w1 w2 _ hr hB=>hr.above hB) ?_ ?_
 ·intro i o hi ho vs w1 hC hR;obtain ⟨T,TF,TS,run⟩:=(head i o hi ho).head
  have GT:Good c ⟨T,S.st⟩ (lk (gV l' ops vs i)) w1 ρ xs:=frame vs w1 i T (by omega) hC TF fun j t x hj hd hx=>hR j t hj hd (qW (TS t x hx))
  obtain ⟨b,b1,b2,b3⟩:=run c _ w1 ρ xs GT;refine ⟨b,b1,fun hb=>?_,fun hb=>?_⟩
  ·exact (kD (fun x X hx=>by simp [evD,hx]) (b2 hb)).mono fun u w2 ⟨hu,hB⟩=>⟨hu,hC.trans (hB.mono hC.size),hB⟩
  ·rw [b3 hb];exact .v _
 ·intro vs w1 hC hR;obtain ⟨E1,st1⟩:=S1
  have e1:st1=S.st:=e1
  subst e1
  have G1:=frame vs w1 n E1 (Nat.le_refl _) hC F1 fun j t x hj _ _=>hR j hj
  exact HW_drw.V2.mono' (xB _ _ _ _ h1 ⟨ρ,xs,G1⟩) fun l2 w2 h2=>h2
theorem zXu {f:FuncId} {args args':List HV} {x:HV} {K:HV→Prop} (hc:aE P f=true) (H:HFun P f args' (fun h st=>h=x∧st=[])) (hf:FreshH x) (hn:∀ ρ ρ':Nat→Value,∀ (w:World) (A:Nat→Prop) (n:Nat) (v:Value),RepH w A n ρ v x→RepH w A n ρ' v x) (hl:Lends T.st args args') (hK:K x):zGz P f args T K :=
 ⟨hc,x,hK,fun c look w ρ xs vs G R=>Ret.mono (H w vs (sJ G R hl)) fun v w' ⟨B,h,st,h8,⟨e1,e2⟩,ρ',xs',G',hr⟩=>⟨by
  subst e1;subst e2
  have hw:c.n0≤w.heap.size:=Nat.le_trans c.hn G.kept.size
  refine hn ρ' ρ _ _ _ _ (hr.up (Nat.le_refl _) (fun _ _ _=>rfl) (fun b _ hA=>?_) hw)
  left
  show b < w.heap.size
  rcases hA with h0|⟨i,r,hi,hb⟩
  ·have:=(G.a0 b h0).1;have:=G.kept.size;omega
  ·exact G.lt hi hb,B⟩⟩
theorem zB7 {f:FuncId} {args args':List HV} {x:Value} {K:HV→Prop} (hc:aE P f=true) (H:HFun P f args' (fun h st=>h=.v x)) (hl:Lends T.st args args') (hK:K (.v x)):zGz P f args T K :=
 ⟨hc,.v x,hK,fun c look w ρ xs vs G R=>Ret.mono (H w vs (sJ G R hl)) fun v w' ⟨B,h,st,h8,q,ρ',xs',G',hr⟩=>⟨by subst q;have:=bK hr;subst this;exact .v _,B⟩⟩
end
end Go.Eng
end

section
namespace Go.Eng
open Go Go.RowKit
section
variable {P:Program} {T:HS}
theorem qEo {f:FuncId} {args args':List HV} {ty sz:Nat} {els:List (List FV)} {K:HV→Prop} (hc:aE P f=true) (H:HFun P f args' (fun h st=>h=.own 0∧st=[(0,.sl true ty sz els)])) (hl:Lends T.st args args') (hK:K (.lst true els)):zGz P f args T K :=
 ⟨hc,_,hK,fun c look w ρ xs vs G R=>Ret.mono (H w vs (sJ G R hl)) fun v w' ⟨B,h,st,h8,⟨e1,e2⟩,ρ',xs',G',hr⟩=>⟨by
  subst e1;subst e2
  have hw:c.n0≤w.heap.size:=Nat.le_trans c.hn G.kept.size
  have hA:∀ b,c.A ρ T.st b→b < w.heap.size:=by
   rintro b (h0|⟨i,r,hi,hb⟩)
   ·have:=(G.a0 b h0).1;have:=G.kept.size;omega
   ·exact G.lt hi hb
  have e0:rlk (HS.st ⟨[],[(0,Row.sl true ty sz els)]⟩) 0=some (.sl true ty sz els):=rfl
  cases hr
  obtain ⟨o1,o2,o3⟩:=fC G' e0
  have R0:=G'.rows 0 _ e0
  refine .lst (qDj o1 o2 (fun p k hp hk=>?_) (fun b hb=>?_))
  ·obtain ⟨u,a,b,d⟩:=o3 p k hp hk;exact ⟨u,a,b,d.up (Nat.le_refl _) (fun _ _ _=>rfl) (fun b _ h=>.inl (hA b h)) hw⟩
  ·rcases (R0.new b hb).1 with h|h
   ·have h:w.heap.size≤b:=h
    exact ⟨fun hA'=>by have:=hA b hA';omega,fun _=>by omega⟩
   ·exact h.elim,B⟩⟩
end
end Go.Eng
end

section
namespace Go.Eng
open Go Go.RowKit
theorem zS (t:Nat):hlk [] t=none:=nr rfl
theorem zM (k:Nat) (v:HV) (r:aM) (t:Nat):hlk ((k,v) :: r) t=if k=t then some v else hlk r t:=nr rfl
theorem zX (t:Nat):rlk [] t=none:=nr rfl
theorem zU (k:Nat) (v:Row) (r:aD) (t:Nat):rlk ((k,v) :: r) t=if k=t then some v else rlk r t:=nr rfl
theorem zPp (l:aM) (t:Nat):hev l (.tmp t)=hlk l t:=nr rfl
theorem zFg (l:aM) (v:Value):hev l (.const v)=some (.v v):=nr rfl
theorem qY5 (l:aM) (g:Nat):hev l (.global g)=some (.v (.pointer (some ⟨g,0,none⟩))):=nr rfl
theorem zKw (l:aM) (f:FuncId):hev l (.func f)=some (.v (.func (.func f) #[] #[])):=nr rfl
theorem zKv (l:aM):mK l []=some []:=nr rfl
theorem zFf (l:aM) (x:Operand) (r:List Operand):mK l (x :: r)=match hev l x with|some v=>(match mK l r with|some vs=>some (v :: vs)|none=>none)|none=>none:=nr rfl
theorem zSp (x:Value):qF4 (some (.v x))=some x:=nr rfl
theorem zEj  : qF4 none=none:=nr rfl
theorem zJx (fr:Bool) (xs:List (List FV)):qF4 (some (.lst fr xs))=none:=nr rfl
theorem zJw (i:Nat):qF4 (some (.own i))=none:=nr rfl
theorem zJv (i s j k:Nat):qF4 (some (.ptr i s j k))=none:=nr rfl
theorem zJy (fr:Bool) (xs:List (List FV)) (s j k:Nat):qF4 (some (.elt fr xs s j k))=none:=nr rfl
theorem zJz (cs:List HV):qF4 (some (.agg cs))=none:=nr rfl
theorem zJu (cs:List HV):qF4 (some (.tup cs))=none:=nr rfl
theorem zN2 (i s o n:Nat):qF4 (some (.vw i s o n))=none:=nr rfl
theorem zEk  : qF4 (some .junk)=none:=nr rfl
theorem qZw (S:HS) (id:Nat) (P:Program) (o:Op) (c:Prop) (v:Value):qY S id P o (some (c,v))=.go c (.v v) S:=nr rfl
theorem qZx (S:HS) (id:Nat) (P:Program) (o:Op):qY S id P o none=jE P S id o:=nr rfl
theorem zSu (P:Program) (S:HS) (id:Nat) (o:Op):hop P S id o=qY S id P o (aJ P (lo S.env) o):=nr rfl
theorem zFj (P:Program) (S:HS) (id:Nat) (x:Operand):jE P S id (.move x)=qAm S (hev S.env x):=nr rfl
theorem qU0 (P:Program) (S:HS) (id:Nat) (x:Operand):jE P S id (.assign x)=qAm S (hev S.env x):=nr rfl
theorem zFh (P:Program) (S:HS) (id:Nat) (c a b:Operand):jE P S id (.pick c a b)=qGh S (hev S.env c) (hev S.env a) (hev S.env b):=nr rfl
theorem qR6 (P:Program) (S:HS) (id:Nat) (x:Operand) (i:Nat):jE P S id (.extract x i)=oM S i (hev S.env x):=nr rfl
theorem qZc (P:Program) (S:HS) (id:Nat) (t:TypeId) (x:Operand) (f:Nat):jE P S id (.field t x f)=wY S (qGm P t f) (hev S.env x):=nr rfl
theorem qZd (P:Program) (S:HS) (id:Nat) (t:TypeId) (x:Operand) (f:Nat):jE P S id (.fieldAddr t x f)=wZ S (kC P t f) (hev S.env x):=nr rfl
theorem zFi (P:Program) (S:HS) (id:Nat) (x:Operand):jE P S id (.nilCheck x)=qNw S (hev S.env x):=nr rfl
theorem qZb (P:Program) (S:HS) (id:Nat) (t:TypeId) (x i:Operand):jE P S id (.indexAddr t x i)=pU S (bU P t) (qQr P t) (hev S.env x) (hev S.env i):=nr rfl
theorem qY8 (P:Program) (S:HS) (id:Nat) (t:TypeId) (x:Operand) (l h:Option Operand):jE P S id (.slice t x l h none)=uT S (bU P t) l h (hev S.env x):=nr rfl
theorem zFk (P:Program) (S:HS) (id:Nat) (t:TypeId) (x:Operand):jE P S id (.load t x)=wD S (cR P t) (hev S.env x):=nr rfl
theorem qY7 (P:Program) (S:HS) (id:Nat) (t:TypeId) (x y:Operand):jE P S id (.store t x y)=wW S (cR P t) (hev S.env x) (hev S.env y):=nr rfl
theorem qZh (P:Program) (S:HS) (id:Nat) (t:TypeId):jE P S id (.alloc t)=rH S id t (gY P t):=nr rfl
theorem zK1 (P:Program) (S:HS) (id:Nat) (t:TypeId) (x:Operand):jE P S id (.box t x)=qVf S id t (hev S.env x):=nr rfl
theorem qZg (P:Program) (S:HS) (id:Nat) (t:TypeId) (ps:Array (Nat × Operand)):jE P S id (.build t ps)=qBm S (eJ P t) (fJ P t) (gY P t) (kK S.env ps.toList):=nr rfl
theorem qUz (P:Program) (S:HS) (id:Nat) (t n:TypeId) (ps:Array (Nat × Operand)):jE P S id (.buildSlice t n ps)=mU S id n (nW P t) (kK S.env ps.toList):=nr rfl
theorem qY9 (P:Program) (S:HS) (id:Nat) (t:TypeId) (x y:Operand):jE P S id (.makeSlice t x y)=qJr S id (nW P t) (hev S.env x) (hev S.env y):=nr rfl
theorem zKz (P:Program) (S:HS) (id:Nat) (args:Array Operand) (ats:Array TypeId):jE P S id (.call ⟨.builtin .len,args,ats⟩)=match mK S.env args.toList with|some [h]=>qMe S (bX ((bU P (fB ats)).isSome=true∧ats.size=1)) (some h)|_=>.bad:=nr rfl
theorem zK2 (P:Program) (S:HS) (id:Nat) (args:Array Operand) (ats:Array TypeId):jE P S id (.call ⟨.builtin .append,args,ats⟩)=lG S id (ats == #[fB ats,fB ats]) (qWu P ats) (nW P (fB ats)) (mK S.env args.toList):=nr rfl
theorem qZf (P:Program) (S:HS) (id:Nat) (f:FuncId) (args:Array Operand) (ats:Array TypeId):jE P S id (.call ⟨.value (.func f),args,ats⟩)=qJs f (mK S.env args.toList):=nr rfl
theorem zK0 (P:Program) (S:HS) (id:Nat) (t:TypeId) (x y:Operand) (u:TypeId):jE P S id (.binOp .eql t x y u)=hEq S (qJx P t) t false (hev S.env x) (hev S.env y):=nr rfl
theorem zKy (P:Program) (S:HS) (id:Nat) (t:TypeId) (x y:Operand) (u:TypeId):jE P S id (.binOp .neq t x y u)=hEq S (qJx P t) t true (hev S.env x) (hev S.env y):=nr rfl
theorem zFm (P:Program) (S:HS) (id:Nat) (s d:TypeId) (x:Operand):jE P S id (.convert s d x)=wJ S (qE8 P s d) (qMw P s d) (hev S.env x):=nr rfl
theorem zK8 (S:HS) (h:HV):qAm S (some h)=.go True h S:=nr rfl
theorem zK5 (S:HS) (t:Bool) (a b:HV):qGh S (some (.v (.bool t))) (some a) (some b)=.go True (bif t then a else b) S:=nr rfl
theorem qVa (S:HS) (i:Nat) (hs:List HV):oM S i (some (.tup hs))=match hs[i]? with|some h=>.go True h S|none=>.bad:=nr rfl
theorem qZa (P:Program) (S:HS) (id:Nat) (t:TypeId) (x i:Operand):jE P S id (.index t x i)=rV S (qM9 P t) (hev S.env x) (hev S.env i):=nr rfl
theorem qU9 (S:HS) (m:Nat) (hs:List HV) (k:IntKind) (n:Int):rV S (some m) (some (.agg hs)) (some (.v (.int k n)))=match hs[n.toNat]? with|some h=>.go (bX (0≤n∧n < m)) h S|none=>.bad:=nr rfl
theorem zAf (S:HS) (off:Nat) (hs:List HV):wY S (some (off,none)) (some (.agg hs))=match hs[off]? with|some h=>.go True h S|none=>.bad:=nr rfl
theorem zAe (S:HS) (off n:Nat) (hs:List HV):wY S (some (off,some n)) (some (.agg hs))=.go (bX (off + n≤hs.length)) (.agg ((hs.drop off).take n)) S:=nr rfl
theorem zAg (S:HS) (off id sz i k:Nat):wZ S (some off) (some (.ptr id sz i k))=.go True (.ptr id sz i (k + off)) S:=nr rfl
theorem zAh (S:HS) (off:Nat) (fr:Bool) (xs:List (List FV)) (sz i k:Nat):wZ S (some off) (some (.elt fr xs sz i k))=.go True (.elt fr xs sz i (k + off)) S:=nr rfl
theorem zK6 (S:HS) (id sz i k:Nat):qNw S (some (.ptr id sz i k))=.go True (.ptr id sz i k) S:=nr rfl
theorem zK7 (S:HS) (fr:Bool) (xs:List (List FV)) (sz i k:Nat):qNw S (some (.elt fr xs sz i k))=.go True (.elt fr xs sz i k) S:=nr rfl
theorem qZ4 (S:HS) (id:Nat) (us ua:Option (Nat × Nat)) (kk:IntKind) (n:Int):pU S us ua (some (.own id)) (some (.v (.int kk n)))=rW S id n us (rlk S.st id):=nr rfl
theorem qZ5 (S:HS) (fr:Bool) (xs:List (List FV)) (us ua:Option (Nat × Nat)) (kk:IntKind) (n:Int):pU S us ua (some (.lst fr xs)) (some (.v (.int kk n)))=wG S fr xs n us:=nr rfl
theorem qZ3 (S:HS) (id sz i k:Nat) (us ua:Option (Nat × Nat)) (kk:IntKind) (n:Int):pU S us ua (some (.ptr id sz i k)) (some (.v (.int kk n)))=wF S id sz i k n ua:=nr rfl
theorem qZ6 (S:HS) (fr:Bool) (xs:List (List FV)) (sz i k:Nat) (us ua:Option (Nat × Nat)) (kk:IntKind) (n:Int):pU S us ua (some (.elt fr xs sz i k)) (some (.v (.int kk n)))=wH S fr xs sz i k n ua:=nr rfl
theorem qZ9 (S:HS) (id:Nat) (n:Int) (e sz:Nat) (nw:Bool) (ty s:Nat) (els:List (List FV)):rW S id n (some (e,sz)) (some (.sl nw ty s els))=.go (bX (sz=s∧0≤n∧n < els.length)) (.ptr id s n.toNat 0) S:=nr rfl
theorem zAb (S:HS) (fr:Bool) (xs:List (List FV)) (n:Int) (e sz:Nat):wG S fr xs n (some (e,sz))=.go (bX (0≤n∧n < xs.length)∧Wid sz xs) (.elt fr xs sz n.toNat 0) S:=nr rfl
theorem zAa (S:HS) (id sz i k:Nat) (n:Int) (len size:Nat):wF S id sz i k n (some (len,size))=.go (bX (0≤n∧n < len)) (.ptr id sz i (k + n.toNat * size)) S:=nr rfl
theorem zAc (S:HS) (fr:Bool) (xs:List (List FV)) (sz i k:Nat) (n:Int) (len size:Nat):wH S fr xs sz i k n (some (len,size))=.go (bX (0≤n∧n < len)) (.elt fr xs sz i (k + n.toNat * size)) S:=nr rfl
theorem zPq (S:HS) (c:Prop) (i s o n:Nat):qMe S c (some (.vw i s o n))=.go c (.v (.int .i64 n)) S:=nr rfl
theorem qZs (S:HS) (us:Option (Nat × Nat)) (l h:Option Operand) (id:Nat):uT S us l h (some (.own id))=vY S id (nB (lo S.env) l 0) (nB (lo S.env) h (zM9 (rlk S.st id))) us (rlk S.st id):=nr rfl
theorem zFp (S:HS) (us:Option (Nat × Nat)) (l h:Option Operand) (id sz off n:Nat):uT S us l h (some (.vw id sz off n))=vX S id sz off (nB (lo S.env) l 0) (nB (lo S.env) h n) us (rlk S.st id):=nr rfl
theorem qZu (S:HS) (id:Nat) (a b:Int) (e sz:Nat) (nw:Bool) (ty s:Nat) (els:List (List FV)):vY S id (some a) (some b) (some (e,sz)) (some (.sl nw ty s els))=.go (bX (sz=s∧0≤a∧a≤b∧b≤els.length)) (.vw id s a.toNat (b.toNat - a.toNat)) S:=nr rfl
theorem qZt (S:HS) (id sz off:Nat) (a b:Int) (e sz':Nat) (nw:Bool) (ty s:Nat) (els:List (List FV)):vX S id sz off (some a) (some b) (some (e,sz')) (some (.sl nw ty s els))=.go (bX (sz'=sz∧s=sz∧0≤a∧a≤b∧off + b≤els.length)) (.vw id sz (off + a.toNat) (b.toNat - a.toNat)) S:=nr rfl
theorem zM8 (nw:Bool) (ty s:Nat) (els:List (List FV)):zM9 (some (.sl nw ty s els))=els.length:=nr rfl
theorem zFw (S:HS) (id s off m:Nat) (us ua:Option (Nat × Nat)) (kk:IntKind) (n:Int):pU S us ua (some (.vw id s off m)) (some (.v (.int kk n)))=wE S id s off m n us (rlk S.st id):=nr rfl
theorem qZ7 (S:HS) (id s off m:Nat) (n:Int) (e sz:Nat) (nw:Bool) (ty s':Nat) (els:List (List FV)):wE S id s off m n (some (e,sz)) (some (.sl nw ty s' els))=.go (bX (sz=s∧s'=s∧0≤n∧n < m)) (.ptr id s (off + n.toNat) 0) S:=nr rfl
theorem zD9 (st:aD) (sz id s off n:Nat):nC st sz (.vw id s off n)=match rlk st id with|some (.sl _ _ s' els)=>some (bX (s=sz∧s'=sz),(els.drop off).take n)|_=>none:=nr rfl
theorem zFn (i s o n:Nat):eW (.vw i s o n)=some [.vw i s o n]:=nr rfl
theorem zPg (i s o n:Nat):(HV.vw i s o n).one=true:=nr rfl
theorem iQ (p:Nat→Bool) (i s o n:Nat):HV.kill p (.vw i s o n)=bif p i then .junk else .vw i s o n:=by rw [HV.kill]
theorem lF (m:Nat→Option Nat) (i s o n:Nat):HV.ren m (.vw i s o n)=match m i with|some j=>.vw j s o n|none=>.junk:=by rw [HV.ren];cases m i <;> rfl
theorem dQ (id:Nat) (x0:HV) (i s o n:Nat):HV.sub id x0 (.vw i s o n)=if i=id then zG3 x0 s o n else .vw i s o n:=by rw [HV.sub]
theorem zDz (i s o n:Nat):qBe (.vw i s o n)=[]:=nr rfl
theorem qX3 (i s o n:Nat):qDn (.vw i s o n)=[]:=nr rfl
theorem zLa (S:HS) (c:Prop) (id:Nat):qMe S c (some (.own id))=qGi S c (rlk S.st id):=nr rfl
theorem zLb (S:HS) (c:Prop) (fr:Bool) (xs:List (List FV)):qMe S c (some (.lst fr xs))=.go c (.v (.int .i64 xs.length)) S:=nr rfl
theorem zLc (S:HS) (c:Prop) (nw:Bool) (ty s:Nat) (els:List (List HV)):qGi S c (some (.hl nw ty s els))=.go c (.v (.int .i64 els.length)) S:=nr rfl
theorem qZ8 (S:HS) (id:Nat) (n:Int) (e sz:Nat) (nw:Bool) (ty s:Nat) (els:List (List HV)):rW S id n (some (e,sz)) (some (.hl nw ty s els))=.go (bX (sz=s∧0≤n∧n < els.length)) (.ptr id s n.toNat 0) S:=nr rfl
theorem zLd (S:HS) (c:Prop) (nw:Bool) (ty s:Nat) (els:List (List FV)):qGi S c (some (.sl nw ty s els))=.go c (.v (.int .i64 els.length)) S:=nr rfl
theorem zFq (S:HS) (us:Option (Nat × Nat)) (l h:Option Operand) (fr:Bool) (xs:List (List FV)):uT S us l h (some (.lst fr xs))=vZ S fr xs (nB (lo S.env) l 0) (nB (lo S.env) h xs.length) us:=nr rfl
theorem qZv (S:HS) (fr:Bool) (xs:List (List FV)) (a b:Int) (e sz:Nat):vZ S fr xs (some a) (some b) (some (e,sz))=.go (bX (0≤a∧a≤b∧b≤xs.length)∧Wid sz xs) (.lst fr ((xs.take b.toNat).drop a.toNat)) S:=nr rfl
theorem zFr (S:HS) (kt:Option (Option Nat)) (id sz i k:Nat):wD S kt (some (.ptr id sz i k))=oL S sz i k kt (rlk S.st id):=nr rfl
theorem zFs (S:HS) (kt:Option (Option Nat)) (fr:Bool) (xs:List (List FV)) (sz i k:Nat):wD S kt (some (.elt fr xs sz i k))=wX S xs i k kt:=nr rfl
theorem zFt (S:HS) (sz i k:Nat) (nw:Bool) (ty s:Nat) (els:List (List FV)):oL S sz i k (some none) (some (.sl nw ty s els))=.go (bX (sz=s∧i < els.length∧k < (els.getD i []).length)) ((els.getD i []).getD k default).h S:=nr rfl
theorem qZy (S:HS) (sz i k n:Nat) (nw:Bool) (ty s:Nat) (els:List (List FV)):oL S sz i k (some (some n)) (some (.sl nw ty s els))=.go (bX (sz=s∧i < els.length∧k + n≤(els.getD i []).length)) (.agg ((((els.getD i []).drop k).take n).map FV.h)) S:=nr rfl
theorem zFv (S:HS) (sz i k:Nat) (nw:Bool) (ty:Nat) (cells:List HV):oL S sz i k (some none) (some (.bx nw ty cells))=.go (bX (i=0∧k < cells.length)) (cells.getD k .junk) S:=nr rfl
theorem qZ0 (S:HS) (sz i k n:Nat) (nw:Bool) (ty:Nat) (cells:List HV):oL S sz i k (some (some n)) (some (.bx nw ty cells))=.go (bX (i=0∧k + n≤cells.length)) (.agg ((cells.drop k).take n)) S:=nr rfl
theorem zFu (S:HS) (sz i k:Nat) (nw:Bool) (ty s:Nat) (els:List (List HV)):oL S sz i k (some none) (some (.hl nw ty s els))=.go (bX (sz=s∧i < els.length∧k < (els.getD i []).length)) ((els.getD i []).getD k .junk) S:=nr rfl
theorem qZz (S:HS) (sz i k n:Nat) (nw:Bool) (ty s:Nat) (els:List (List HV)):oL S sz i k (some (some n)) (some (.hl nw ty s els))=.go (bX (sz=s∧i < els.length∧k + n≤(els.getD i []).length)) (.agg (((els.getD i []).drop k).take n)) S:=nr rfl
theorem qZq (S:HS) (id sz i k:Nat) (kt:Option (Option Nat)) (h:HV) (nw:Bool) (ty s:Nat) (els:List (List HV)):qD S id sz i k kt h (some (.hl nw ty s els))=rT S id sz i k nw ty s els kt h:=nr rfl
theorem qU5 (S:HS) (id sz i k:Nat) (nw:Bool) (ty s:Nat) (els:List (List HV)) (h:HV):rT S id sz i k nw ty s els (some none) h=.go (bX (sz=s∧i < els.length∧k < (els.getD i []).length∧h.one=true)) (.v undef) ⟨S.env,jG id (.hl nw ty s (els.set i ((els.getD i []).set k h))) S.st⟩:=nr (by cases h <;> rfl)
theorem qU6 (S:HS) (id sz i k n:Nat) (nw:Bool) (ty s:Nat) (els:List (List HV)) (hs:List HV):rT S id sz i k nw ty s els (some (some n)) (.agg hs)=.go (bX (sz=s∧i < els.length∧hs.length=n∧k + n≤(els.getD i []).length)) (.v undef) ⟨S.env,jG id (.hl nw ty s (els.set i (splice (els.getD i []) k hs))) S.st⟩:=nr rfl
theorem qZ1 (S:HS) (xs:List (List FV)) (i k:Nat):wX S xs i k (some none)=.go (bX (i < xs.length∧k < (xs.getD i []).length)) ((xs.getD i []).getD k default).h S:=nr rfl
theorem qZ2 (S:HS) (xs:List (List FV)) (i k n:Nat):wX S xs i k (some (some n))=.go (bX (i < xs.length∧k + n≤(xs.getD i []).length)) (.agg ((((xs.getD i []).drop k).take n).map FV.h)) S:=nr rfl
theorem zFo (S:HS) (kt:Option (Option Nat)) (id sz i k:Nat) (h:HV):wW S kt (some (.ptr id sz i k)) (some h)=qD S id sz i k kt h (rlk S.st id):=nr rfl
theorem qZp (S:HS) (id sz i k:Nat) (kt:Option (Option Nat)) (h:HV) (nw:Bool) (ty s:Nat) (els:List (List FV)):qD S id sz i k kt h (some (.sl nw ty s els))=rS S id sz i k nw ty s els kt h:=nr rfl
theorem qZr (S:HS) (id sz i k:Nat) (kt:Option (Option Nat)) (h:HV) (nw:Bool) (ty:Nat) (cells:List HV):qD S id sz i k kt h (some (.bx nw ty cells))=rU S id i k nw ty cells kt h:=nr rfl
theorem qU3 (S:HS) (id sz i k:Nat) (nw:Bool) (ty s:Nat) (els:List (List FV)) (h:HV):rS S id sz i k nw ty s els (some none) h=match h.f with|some f=>.go (bX (sz=s∧i < els.length∧k < (els.getD i []).length∧f.one=true)) (.v undef) ⟨S.env,jG id (.sl nw ty s (els.set i ((els.getD i []).set k f))) S.st⟩|none=>.bad:=nr rfl
theorem qU4 (S:HS) (id sz i k n:Nat) (nw:Bool) (ty s:Nat) (els:List (List FV)) (hs:List HV):rS S id sz i k nw ty s els (some (some n)) (.agg hs)=match HV.fs hs with|some fs=>.go (bX (sz=s∧i < els.length∧fs.length=n∧k + n≤(els.getD i []).length)) (.v undef) ⟨S.env,jG id (.sl nw ty s (els.set i (splice (els.getD i []) k fs))) S.st⟩|none=>.bad:=nr rfl
theorem qU7 (S:HS) (id i k:Nat) (nw:Bool) (ty:Nat) (cells:List HV) (h:HV):rU S id i k nw ty cells (some none) h=.go (bX (i=0∧k < cells.length∧h.one=true)) (.v undef) ⟨S.env,jG id (.bx nw ty (cells.set k h)) S.st⟩:=nr (by cases h <;> rfl)
theorem qU8 (S:HS) (id i k n:Nat) (nw:Bool) (ty:Nat) (cells:List HV) (hs:List HV):rU S id i k nw ty cells (some (some n)) (.agg hs)=.go (bX (i=0∧hs.length=n∧k + n≤cells.length)) (.v undef) ⟨S.env,jG id (.bx nw ty (splice cells k hs)) S.st⟩:=nr rfl
theorem zF5 (S:HS) (id:Nat) (t:TypeId) (z:Array Value):rH S id t (some z)=.go (bX (wS z=true)) (.ptr id z.size 0 0) ((S.kill (only id)).row id (.bx true t (z.toList.map .v))):=nr rfl
theorem zPx (S:HS) (id:Nat) (t:TypeId) (h:HV):qVf S id t (some h)=qMf S id t (eW h):=nr rfl
theorem zLh (S:HS) (id:Nat) (t:TypeId) (cs:List HV):qMf S id t (some cs)=.go True (.ptr id cs.length 0 0) ((S.kill (only id)).row id (.bx true t (cs.map (HV.kill (only id))))):=nr rfl
theorem qXy (l:aM):kK l []=some []:=nr rfl
theorem qT0 (l:aM) (i:Nat) (x:Operand) (r:List (Nat × Operand)):kK l ((i,x) :: r)=match hev l x with|some v=>(match kK l r with|some vs=>some ((i,v) :: vs)|none=>none)|none=>none:=nr rfl
theorem zFe (bV:Nat→Option (Nat × Nat)) (cells:List HV):qGg bV cells []=some (True,cells):=nr rfl
theorem qY4 (bV:Nat→Option (Nat × Nat)) (cells:List HV) (i:Nat) (h:HV) (r:List (Nat × HV)):qGg bV cells ((i,h) :: r)=match bV i with|some (off,n)=>(match eW h with|some cs=>(match qGg bV (splice cells off cs) r with|some (c,out)=>some (bX (cs.length=n∧off + n≤cells.length)∧c,out)|none=>none)|none=>none)|none=>none:=nr rfl
theorem zF4 (S:HS) (ok:Bool) (bV:Nat→Option (Nat × Nat)) (z:Array Value) (ps:List (Nat × HV)):qBm S ok bV (some z) (some ps)=wK S (ok && wS z) (qGg bV (z.toList.map .v) ps):=nr rfl
theorem zAm (S:HS) (ok:Bool) (c:Prop) (cs:List HV):wK S ok (some (c,cs))=.go (bX (ok=true)∧c) (.agg cs) S:=nr rfl
theorem zKp (sz:Nat) (els:List (List FV)):qR4 sz els []=some (True,els):=nr rfl
theorem zE9 (sz:Nat) (els:List (List FV)) (i:Nat) (h:HV) (r:List (Nat × HV)):qR4 sz els ((i,h) :: r)=match eW h with|some cs=>(match HV.fs cs with|some fs=>(match qR4 sz (els.set i fs) r with|some (c,out)=>some (bX (fs.length=sz∧i < els.length)∧c,out)|none=>none)|none=>none)|none=>none:=nr rfl
theorem zAj (S:HS) (id n e sz by':Nat) (z:Array Value) (ps:List (Nat × HV)):mU S id n (some (e,sz,by',z)) (some ps)=match wS z && z.size == sz with|true=>mL S id e sz n z ps (qV9 ps)|false=>.bad:=nr rfl
theorem zMe  : qV9 []=true:=nr rfl
theorem zGx (i:Nat) (h:HV) (r:List (Nat × HV)):qV9 ((i,h) :: r)=match eW h with|some cs=>((HV.fs cs).isSome && qV9 r)|none=>qV9 r:=nr rfl
theorem zFa (sz:Nat) (els:List (List HV)):qGf sz els []=some (True,els):=nr rfl
theorem qY2 (sz:Nat) (els:List (List HV)) (i:Nat) (h:HV) (r:List (Nat × HV)):qGf sz els ((i,h) :: r)=match eW h with|some cs=>(match qGf sz (els.set i cs) r with|some (c,out)=>some (bX (cs.length=sz∧i < els.length)∧c,out)|none=>none)|none=>none:=nr rfl
theorem zSy (id:Nat) (els:List (List HV)):hkl id els=els.map (List.map (HV.kill (only id))):=nr rfl
theorem zAk (S:HS) (id e sz n:Nat) (z:Array Value) (ps:List (Nat × HV)):mL S id e sz n z ps true=oP S id e sz n (qR4 sz (List.replicate n (z.toList.map .v)) ps):=nr rfl
theorem zAl (S:HS) (id e sz n:Nat) (z:Array Value) (ps:List (Nat × HV)):mL S id e sz n z ps false=oN S id e sz n (qGf sz (List.replicate n (z.toList.map .v)) ps):=nr rfl
theorem qVd (S:HS) (id e sz n:Nat) (c:Prop) (els:List (List HV)):oN S id e sz n (some (c,els))=.go (bX (n * sz≤16777216∧n≤16777216)∧c) (.own id) ((S.kill (only id)).row id (.hl true e sz (hkl id els))):=nr rfl
theorem qVe (S:HS) (id e sz n:Nat) (c:Prop) (els:List (List FV)):oP S id e sz n (some (c,els))=.go (bX (n * sz≤16777216∧n≤16777216)∧c) (.own id) ((S.kill (only id)).row id (.sl true e sz els)):=nr rfl
theorem zK9 (S:HS) (id e sz by':Nat) (z:Array Value) (n m:Int):qJr S id (some (e,sz,by',z)) (some (.v (.int .i64 n))) (some (.v (.int .i64 m)))=match wS z && z.size == sz with|true=>.go (bX (n=m∧0≤n∧by' * n.toNat≤281474976710656∧n.toNat≤maxLen)) (.own id) ((S.kill (only id)).row id (.sl true e sz (List.replicate n.toNat (z.toList.map .v))))|false=>.bad:=nr rfl
theorem qX6 (st:aD) (sz id:Nat):nC st sz (.own id)=match rlk st id with|some (.sl _ _ s els)=>some (bX (s=sz),els)|_=>none:=nr rfl
theorem qX8 (st:aD) (sz:Nat) (fr:Bool) (xs:List (List FV)):nC st sz (.lst fr xs)=some (Wid sz xs,xs):=nr rfl
theorem qX7 (st:aD) (sz:Nat):nC st sz (.v (.slice none 0 0))=some (True,[]):=nr rfl
theorem qZe (P:Program) (S:HS) (id:Nat) (t:Nat) (args:Array Operand) (ats:Array TypeId):jE P S id (.call ⟨.value (.tmp t),args,ats⟩)=qE3 (fnH (hlk S.env t)) (mK S.env args.toList):=nr rfl
theorem zVp (f:FuncId):fnH (some (.v (.func (.func f) #[] #[])))=some f:=nr rfl
theorem qVc (f:FuncId) (a:Option (List HV)):qE3 (some f) a=qJs f a:=nr rfl
theorem zFl (P:Program) (S:HS) (id:Nat) (args:Array Operand) (ats:Array TypeId):jE P S id (.call ⟨.builtin .copy,args,ats⟩)=qAn S (ats == #[fB ats,fB ats]) (bU P (fB ats)) (mK S.env args.toList):=nr rfl
theorem zFx (S:HS) (us:Option (Nat × Nat)) (id:Nat) (x:HV):qAn S true us (some [.own id,x])=uU S id 0 none none x us (rlk S.st id):=nr rfl
theorem zLf (S:HS) (us:Option (Nat × Nat)) (id s off n:Nat) (x:HV):qAn S true us (some [.vw id s off n,x])=uU S id off (some s) (some n) x us (rlk S.st id):=nr rfl
theorem zAi (S:HS) (id off:Nat) (x:HV) (e sz:Nat) (nw:Bool) (ty s:Nat) (els:List (List FV)):uU S id off none none x (some (e,sz)) (some (.sl nw ty s els))=match decide (sz=s) with|true=>qCv S id s off els.length (s=s) nw ty els (nC S.st s x)|false=>.bad:=nr rfl
theorem zFy (S:HS) (id off s0 n:Nat) (x:HV) (e sz:Nat) (nw:Bool) (ty s:Nat) (els:List (List FV)):uU S id off (some s0) (some n) x (some (e,sz)) (some (.sl nw ty s els))=match decide (sz=s) with|true=>qCv S id s off n (s0=s) nw ty els (nC S.st s x)|false=>.bad:=nr rfl
def cpy (els:List (List FV)) (off:Nat) (news:List (List FV)) (n:Nat):List (List FV):=splice els off (news.take n)
def cpn (news:List (List FV)) (n:Nat):Nat:=min news.length n
theorem qVb (S:HS) (id sz off n:Nat) (ok:Prop) (nw:Bool) (ty:Nat) (els:List (List FV)) (c:Prop) (news:List (List FV)):qCv S id sz off n ok nw ty els (some (c,news))=.go (c∧bX (off + n≤els.length∧0 < sz∧ok)) (.v (.int .i64 (cpn news n:Nat))) ⟨S.env,jG id (.sl nw ty sz (cpy els off news n)) S.st⟩:=nr rfl
theorem qVg (S:HS) (nid:Nat) (same str:Bool) (e sz by':Nat) (z:Array Value) (id:Nat) (x:HV):lG S nid same str (some (e,sz,by',z)) (some [.own id,x])=match (same || str) && z.size == sz with|true=>qGj S id e sz by' same x (qPv same str S.st sz x) (rlk S.st id)|false=>.bad:=nr rfl
theorem zEa (st:aD) (sz id:Nat):qLr st sz (.own id)=match rlk st id with|some (.sl _ _ s els)=>some (bX (s=sz),els.map (List.map FV.h))|some (.hl _ _ s els)=>some (bX (s=sz),els)|_=>none:=nr rfl
theorem zEc (st:aD) (sz:Nat) (fr:Bool) (xs:List (List FV)):qLr st sz (.lst fr xs)=some (Wid sz xs,xs.map (List.map FV.h)):=nr rfl
theorem zEb (st:aD) (sz:Nat):qLr st sz (.v (.slice none 0 0))=some (True,[]):=nr rfl
theorem zQt (a b c d:Nat):(#[a,b] == #[c,d])=(a == c && b == d):=by rw [Bool.eq_iff_iff];simp
theorem zNx (str:Bool) (st:aD) (sz:Nat) (x:HV):qPv true str st sz x=nC st sz x:=nr rfl
theorem zNy (st:aD) (sz:Nat) (x:HV):qPv false true st sz x=qT7 x:=nr rfl
theorem zD8 (s:ByteArray):qT7 (.v (.string s))=some (True,iS s):=nr rfl
theorem qVh (S:HS) (nid:Nat) (same str:Bool) (e sz by':Nat) (z:Array Value) (x:HV):lG S nid same str (some (e,sz,by',z)) (some [.v (.slice none 0 0),x])=match same && z.size == sz with|true=>qCw S nid e sz by' true [] (nC S.st sz x)|false=>.bad:=nr rfl
theorem zLi (S:HS) (id e sz by':Nat) (same:Bool) (x:HV) (news:Option (Prop × List (List FV))) (nw:Bool) (ty s:Nat) (els:List (List HV)):qGj S id e sz by' same x news (some (.hl nw ty s els))=match same && (decide (ty=e) && decide (s=sz)) with|true=>qJt S id e sz by' nw els (qLr S.st sz x)|false=>.bad:=nr rfl
theorem zLl (S:HS) (id e sz by':Nat) (nw:Bool) (els news:List (List HV)) (c:Prop):qJt S id e sz by' nw els (some (c,news))=.go (c∧bX ((els.length + news.length) * by'≤140737488355328∧0 < by'∧0 < sz)) (.own id) ((S.kill (only id)).row id (.hl nw e sz (hkl id (els ++ news)))):=nr rfl
theorem zLj (S:HS) (id e sz by':Nat) (same:Bool) (x:HV) (news:Option (Prop × List (List FV))) (nw:Bool) (ty s:Nat) (els:List (List FV)):qGj S id e sz by' same x news (some (.sl nw ty s els))=match decide (ty=e) && decide (s=sz) with|true=>qCw S id e sz by' nw els news|false=>.bad:=nr rfl
theorem zLk (S:HS) (id e sz by':Nat) (nw:Bool) (els:List (List FV)) (c:Prop) (news:List (List FV)):qCw S id e sz by' nw els (some (c,news))=.go (c∧bX ((els.length + news.length) * by'≤140737488355328∧0 < by'∧0 < sz)) (.own id) ((S.kill (only id)).row id (.sl nw e sz (els ++ news))):=nr rfl
theorem zEi  : yY []=some []:=nr rfl
theorem qYe (x:Value) (r:List HV):yY (.v x :: r)=match yY r with|some vs=>some (x :: vs)|none=>none:=nr rfl
theorem zS6 (S:HS) (up:Bool) (t:TypeId) (neg:Bool) (xs ys:List HV):hEq S up t neg (some (.agg xs)) (some (.agg ys))=qR8 t neg (yY xs) (yY ys):=nr rfl
theorem zPu (S:HS) (up:Bool) (t:TypeId) (neg:Bool) (a b c d:Nat):hEq S up t neg (some (.ptr a b c d)) (some (.v (.pointer none)))=.go (bX (up=true)) (.v (.bool neg)) S:=nr rfl
theorem zPv (S:HS) (up:Bool) (t:TypeId) (neg fr:Bool) (xs:List (List FV)) (a b c:Nat):hEq S up t neg (some (.elt fr xs a b c)) (some (.v (.pointer none)))=.go (bX (up=true)) (.v (.bool neg)) S:=nr rfl
theorem zFz (S:HS) (ok okB:Bool) (s:ByteArray):wJ S ok okB (some (.v (.string s)))=.bytes okB s:=nr rfl
theorem zF0 (S:HS) (ok okB:Bool) (id:Nat):wJ S ok okB (some (.own id))=qE2 S ok (rlk S.st id):=nr rfl
theorem zF1 (S:HS) (ok okB fr:Bool) (xs:List (List FV)):wJ S ok okB (some (.lst fr xs))=uV S ok (vE xs):=nr rfl
theorem zF2 (S:HS) (ok nw:Bool) (t s:Nat) (els:List (List FV)):qE2 S ok (some (.sl nw t s els))=uV S ok (vE els):=nr rfl
theorem zF3 (S:HS) (ok:Bool) (ns:List Int):uV S ok (some ns)=.go (bX (ok=true)) (.v (.string (strOfNums ns))) S:=nr rfl
theorem zA2  : vE []=some []:=nr rfl
theorem qV3 (n:Int) (r:List (List FV)):vE ([.v (.int .u8 n)] :: r)=match vE r with|some ns=>some (n :: ns)|none=>none:=nr rfl
theorem zPw (t:TypeId) (neg:Bool) (xs ys:List Value):qR8 t neg (some xs) (some ys)=.eqn t xs ys neg:=nr rfl
theorem zLg (f:FuncId) (hs:List HV):qJs f (some hs)=.call f hs:=nr rfl
theorem zQs (ats:Array TypeId):fB ats=ats.getD 0 0:=nr rfl
theorem zD3 (z:Array Value):wS z=z.toList.all (fun v=>v.oneCell'):=nr rfl
theorem zXt (x:Value):(HV.v x).f=some (.v x):=nr rfl
theorem zS3 (i:Nat):(HV.own i).f=none:=nr rfl
theorem zVl (i s o n:Nat):(HV.vw i s o n).f=none:=nr rfl
theorem zS2 (i s j k:Nat):(HV.ptr i s j k).f=none:=nr rfl
theorem zS4 (fr:Bool) (xs:List (List FV)):(HV.lst fr xs).f=some (.lst fr xs):=nr rfl
theorem zPo  : HV.fs []=some []:=nr rfl
theorem zKu (h:HV) (r:List HV):HV.fs (h :: r)=match h.f,HV.fs r with|some f,some fs=>some (f :: fs)|_,_=>none:=nr rfl
theorem zTb (x:Value):(FV.v x).one=x.oneCell':=nr rfl
theorem zLq (fr:Bool) (xs:List (List FV)):(FV.lst fr xs).one=true:=nr rfl
theorem zSv (x:Value):(HV.v x).one=x.oneCell':=nr rfl
theorem zKn (fr:Bool) (xs:List (List FV)):(HV.lst fr xs).one=true:=nr rfl
theorem zKm (i:Nat):(HV.own i).one=true:=nr rfl
theorem zKl (i s j k:Nat):(HV.ptr i s j k).one=true:=nr rfl
theorem zVr (x:Value):(FV.v x).h=.v x:=nr rfl
theorem zLx (fr:Bool) (xs:List (List FV)):(FV.lst fr xs).h=.lst fr xs:=nr rfl
theorem zNq (k:IntKind) (n:Int):Value.oneCell' (.int k n)=true:=nr rfl
theorem qZk (k:IntKind) (n:Int):eW (.v (.int k n))=some [.v (.int k n)]:=nr rfl
theorem zJj (b:Bool):Value.oneCell' (.bool b)=true:=nr rfl
theorem qU2 (b:Bool):eW (.v (.bool b))=some [.v (.bool b)]:=nr rfl
theorem zNo (s:ByteArray):Value.oneCell' (.string s)=true:=nr rfl
theorem qZi (s:ByteArray):eW (.v (.string s))=some [.v (.string s)]:=nr rfl
theorem zD2 (a:Option Addr) (n c:Nat):Value.oneCell' (.slice a n c)=true:=nr rfl
theorem qR7 (a:Option Addr) (n c:Nat):eW (.v (.slice a n c))=some [.v (.slice a n c)]:=nr rfl
theorem zNp (a:Option Addr):Value.oneCell' (.pointer a)=true:=nr rfl
theorem qZj (a:Option Addr):eW (.v (.pointer a))=some [.v (.pointer a)]:=nr rfl
theorem qZo (cs:List HV):eW (.agg cs)=some cs:=nr rfl
theorem qZn (fr:Bool) (xs:List (List FV)):eW (.lst fr xs)=some [.lst fr xs]:=nr rfl
theorem qZm (i:Nat):eW (.own i)=some [.own i]:=nr rfl
theorem qZl (i s j k:Nat):eW (.ptr i s j k)=some [.ptr i s j k]:=nr rfl
theorem zC9 {α:Type} (l:List α) (k:Nat) (cs:List α):splice l k cs=l.take k ++ cs ++ l.drop (k + cs.length):=nr rfl
theorem oK (e:aM) (s:aD) (p:Nat→Bool):HS.kill ⟨e,s⟩ p=⟨kJ p e,dZ p s⟩:=nr rfl
theorem tJ (e:aM) (s:aD) (id:Nat) (r:Row):HS.row ⟨e,s⟩ id r=⟨e,(id,r) :: s⟩:=nr rfl
theorem zHk (e:aM) (s:aD) (k:Nat) (h:HV):HS.set ⟨e,s⟩ (some k) h=⟨(k,h) :: e,s⟩:=nr rfl
theorem zHl (S:HS) (h:HV):HS.set S none h=S:=nr rfl
theorem tK (e:aM) (s:aD) (d:Nat) (h:HV):HS.rep ⟨e,s⟩ d h=⟨qBl d h e,s⟩:=nr rfl
theorem kP (d:Nat) (h:HV):qBl d h []=[]:=nr rfl
theorem jC (d:Nat) (h:HV) (k:Nat) (x:HV) (r:aM):qBl d h ((k,x) :: r)=if k=d then (k,h) :: r else (k,x) :: qBl d h r:=nr rfl
theorem gQ (p:Nat→Bool):kJ p []=[]:=nr rfl
theorem fN (p:Nat→Bool) (k:Nat) (h:HV) (r:aM):kJ p ((k,h) :: r)=(k,h.kill p) :: kJ p r:=nr rfl
theorem gG (p:Nat→Bool):dZ p []=[]:=nr rfl
theorem fF (p:Nat→Bool) (k:Nat) (h:Row) (r:aD):dZ p ((k,h) :: r)=bif p k then dZ p r else (k,h.kill p) :: dZ p r:=nr rfl
theorem iL (p:Nat→Bool) (nw:Bool) (t s:Nat) (xs:List (List FV)):(Row.sl nw t s xs).kill p=.sl nw t s xs:=nr rfl
theorem iM (p:Nat→Bool) (nw:Bool) (t s:Nat) (xs:List (List HV)):(Row.hl nw t s xs).kill p=.hl nw t s (xs.map (List.map (HV.kill p))):=nr rfl
theorem iN (p:Nat→Bool) (nw:Bool) (t:Nat) (cs:List HV):(Row.bx nw t cs).kill p=.bx nw t (cs.map (HV.kill p)):=nr rfl
theorem kG (p:Nat→Bool) (x:Value):HV.kill p (.v x)=.v x:=by rw [HV.kill]
theorem uS (m:Nat→Option Nat) (x:Value):HV.ren m (.v x)=.v x:=by rw [HV.ren]
theorem fD (id:Nat) (x0:HV) (x:Value):HV.sub id x0 (.v x)=.v x:=by rw [HV.sub]
theorem gN (p:Nat→Bool) (fr:Bool) (xs:List (List FV)):HV.kill p (.lst fr xs)=.lst fr xs:=by rw [HV.kill]
theorem kU (m:Nat→Option Nat) (fr:Bool) (xs:List (List FV)):HV.ren m (.lst fr xs)=.lst fr xs:=by rw [HV.ren]
theorem cF (id:Nat) (x0:HV) (fr:Bool) (xs:List (List FV)):HV.sub id x0 (.lst fr xs)=.lst fr xs:=by rw [HV.sub]
theorem jD (p:Nat→Bool) (fr:Bool) (xs:List (List FV)) (s j k:Nat):HV.kill p (.elt fr xs s j k)=.elt fr xs s j k:=by rw [HV.kill]
theorem zKi (m:Nat→Option Nat) (fr:Bool) (xs:List (List FV)) (s j k:Nat):HV.ren m (.elt fr xs s j k)=.elt fr xs s j k:=by rw [HV.ren]
theorem cG (id:Nat) (x0:HV) (fr:Bool) (xs:List (List FV)) (s j k:Nat):HV.sub id x0 (.elt fr xs s j k)=.elt fr xs s j k:=by rw [HV.sub]
theorem fM (p:Nat→Bool):HV.kill p .junk=.junk:=by rw [HV.kill]
theorem jY (m:Nat→Option Nat):HV.ren m .junk=.junk:=by rw [HV.ren]
theorem bG (id:Nat) (x0:HV):HV.sub id x0 .junk=.junk:=by rw [HV.sub]
theorem gM (p:Nat→Bool) (i:Nat):HV.kill p (.own i)=bif p i then .junk else .own i:=by rw [HV.kill]
theorem gK (p:Nat→Bool) (i s j k:Nat):HV.kill p (.ptr i s j k)=bif p i then .junk else .ptr i s j k:=by rw [HV.kill]
theorem gP (p:Nat→Bool) (cs:List HV):HV.kill p (.agg cs)=.agg (cs.map (HV.kill p)):=by rw [HV.kill]
theorem gJ (p:Nat→Bool) (cs:List HV):HV.kill p (.tup cs)=.tup (cs.map (HV.kill p)):=by rw [HV.kill]
theorem kR (m:Nat→Option Nat) (i:Nat):HV.ren m (.own i)=match m i with|some j=>.own j|none=>.junk:=by rw [HV.ren];cases m i <;> rfl
theorem mH (m:Nat→Option Nat) (i s j k:Nat):HV.ren m (.ptr i s j k)=match m i with|some i'=>.ptr i' s j k|none=>.junk:=by rw [HV.ren];cases m i <;> rfl
theorem kV (m:Nat→Option Nat) (cs:List HV):HV.ren m (.agg cs)=.agg (cs.map (HV.ren m)):=by rw [HV.ren]
theorem kQ (m:Nat→Option Nat) (cs:List HV):HV.ren m (.tup cs)=.tup (cs.map (HV.ren m)):=by rw [HV.ren]
theorem cE (id:Nat) (x0:HV) (i:Nat):HV.sub id x0 (.own i)=if i=id then x0 else .own i:=by rw [HV.sub]
theorem cD (id:Nat) (x0:HV) (i s j k:Nat):HV.sub id x0 (.ptr i s j k)=if i=id then .junk else .ptr i s j k:=by rw [HV.sub]
theorem cH (id:Nat) (x0:HV) (cs:List HV):HV.sub id x0 (.agg cs)=.agg (cs.map (HV.sub id x0)):=by rw [HV.sub]
theorem cC (id:Nat) (x0:HV) (cs:List HV):HV.sub id x0 (.tup cs)=.tup (cs.map (HV.sub id x0)):=by rw [HV.sub]
theorem oA (m:Nat→Option Nat) (nw:Bool) (t s:Nat) (xs:List (List FV)):(Row.sl nw t s xs).ren m=.sl nw t s xs:=nr rfl
theorem oB (m:Nat→Option Nat) (nw:Bool) (t s:Nat) (xs:List (List HV)):(Row.hl nw t s xs).ren m=.hl nw t s (xs.map (List.map (HV.ren m))):=nr rfl
theorem oC (m:Nat→Option Nat) (nw:Bool) (t:Nat) (cs:List HV):(Row.bx nw t cs).ren m=.bx nw t (cs.map (HV.ren m)):=nr rfl
theorem dL (id:Nat) (x0:HV) (nw:Bool) (t s:Nat) (xs:List (List FV)):(Row.sl nw t s xs).sub id x0=.sl nw t s xs:=nr rfl
theorem dM (id:Nat) (x0:HV) (nw:Bool) (t s:Nat) (xs:List (List HV)):(Row.hl nw t s xs).sub id x0=.hl nw t s (xs.map (List.map (HV.sub id x0))):=nr rfl
theorem dN (id:Nat) (x0:HV) (nw:Bool) (t:Nat) (cs:List HV):(Row.bx nw t cs).sub id x0=.bx nw t (cs.map (HV.sub id x0)):=nr rfl
theorem kF (id i:Nat):only id i=(i == id):=nr rfl
theorem zL0 (n i:Nat):gR n i=(decide (n≤i) && decide (i < n + 8)):=by rw [Bool.eq_iff_iff];simp [gR]
theorem zUz (n i:Nat):sh n i=bif decide (i < 8) then some (n + i) else none:=by unfold sh;congr 1;rw [Bool.eq_iff_iff];simp
theorem zQu (e:aM) (s:aD) (n:Nat) (st:aD):HS.adds ⟨e,s⟩ n st=⟨kJ (gR n) e,qFp n st (dZ (gR n) s)⟩:=nr rfl
theorem zDs (n:Nat) (b:aD):qFp n [] b=b:=nr rfl
theorem qXk (n k:Nat) (r:Row) (t b:aD):qFp n ((k,r) :: t) b=(n + k,r.ren (sh n)) :: qFp n t b:=nr rfl
theorem dP (e:aM) (s:aD) (id:Nat) (x:HV):HS.rest ⟨e,s⟩ id x=⟨qVn id x e,qKt id x s⟩:=nr rfl
theorem cJ (id:Nat) (x:HV):qVn id x []=[]:=nr rfl
theorem bH (id:Nat) (x:HV) (k:Nat) (h:HV) (r:aM):qVn id x ((k,h) :: r)=(k,HV.sub id x h) :: qVn id x r:=nr rfl
theorem bZ (id:Nat) (x:HV):qKt id x []=[]:=nr rfl
theorem bF (id:Nat) (x:HV) (k:Nat) (h:Row) (r:aD):qKt id x ((k,h) :: r)=if k=id then qKt id x r else (k,h.sub id x) :: qKt id x r:=nr rfl
theorem xF (id:Nat) (r:Row):jG id r []=[]:=nr rfl
theorem sD (id:Nat) (r:Row) (k:Nat) (s:Row) (t:aD):jG id r ((k,s) :: t)=if k=id then (k,r) :: t else (k,s) :: jG id r t:=nr rfl
theorem zPt (l:aM) (ds:List (Option Nat)):hG l ds none=.yes:=nr rfl
theorem zPs (l:aM) (ds:List (Option Nat)) (j:Nat) (want:Bool):hG l ds (some (j,want))=match ds[j]? with|some (some d)=>hGv d want (hlk l d)|_=>.bad:=nr rfl
theorem zLe (d:Nat) (want b:Bool):hGv d want (some (.v (.bool b)))=.ask d b want:=nr rfl
theorem zPr (d:Nat) (want:Bool) (vs:Array Value):hGv d want (some (.v (.tuple vs)))=.no:=nr rfl
theorem zS0 (P:Program) (d:Option Nat) (S:HS) (K:HS→Prop) (c:Prop) (h:HV) (S':HS):qJa P d S K (.go c h S')=(c∧K (S'.set d h)):=nr rfl
theorem zKs (P:Program) (d:Option Nat) (S:HS) (K:HS→Prop) (f:FuncId) (args:List HV):qJa P d S K (.call f args)=HAt P f args S (fun h S'=>mR K (S'.set d h)):=nr rfl
theorem zPm (P:Program) (d:Option Nat) (S:HS) (K:HS→Prop) (t:TypeId) (x y:List Value) (neg:Bool):qJa P d S K (.eqn t x y neg)=∃ r,EqR P t x.toArray y.toArray r∧mR K (S.set d (.v (.bool (neg ^^ r)))):=nr rfl
theorem zFd (P:Program) (d:Option Nat) (S:HS) (K:HS→Prop) (ok:Bool) (s:ByteArray):qJa P d S K (.bytes ok s)=(bX (ok=true∧s.size≤9223372036854775807)∧K (S.set d (.lst true (iS s)))):=nr rfl
theorem zS1 (P:Program) (N:Nat) (o:Oper) (S:HS) (K:HS→Prop):HGo P N o S K=zQ5 P N o (oV S o.op) K:=nr rfl
theorem zPn (P:Program) (N:Nat) (o:Oper) (S:HS) (K:HS→Prop):zQ5 P N o S K=match hU N o.dst with|true=>qJa P o.dst S K (hop P S (uR o.dst) o.op)|false=>False:=nr rfl
theorem zE3 (S:HS) (x:Operand):oV S (.move x)=S:=nr rfl
theorem qUw (S:HS) (x:Operand):oV S (.assign x)=S:=nr rfl
theorem zE1 (S:HS) (c a b:Operand):oV S (.pick c a b)=S:=nr rfl
theorem qR3 (S:HS) (x:Operand) (i:Nat):oV S (.extract x i)=S:=nr rfl
theorem qYy (S:HS) (t:TypeId) (x:Operand) (f:Nat):oV S (.field t x f)=S:=nr rfl
theorem qYz (S:HS) (t:TypeId) (x:Operand) (f:Nat):oV S (.fieldAddr t x f)=S:=nr rfl
theorem zE2 (S:HS) (x:Operand):oV S (.nilCheck x)=S:=nr rfl
theorem qYx (S:HS) (t:TypeId) (x i:Operand):oV S (.indexAddr t x i)=S:=nr rfl
theorem qYv (S:HS) (t:TypeId) (x:Operand) (l h m:Option Operand):oV S (.slice t x l h m)=S:=nr rfl
theorem zE5 (S:HS) (t:TypeId) (x:Operand):oV S (.load t x)=S:=nr rfl
theorem qY0 (S:HS) (t:TypeId) (ps:Array (Nat × Operand)):oV S (.build t ps)=S:=nr rfl
theorem zKk (S:HS) (b:BinOp) (t:TypeId) (x y:Operand) (u:TypeId):oV S (.binOp b t x y u)=S:=nr rfl
theorem zPf (S:HS) (u:UnOp) (t:TypeId) (x:Operand):oV S (.unOp u t x)=S:=nr rfl
theorem zE6 (S:HS) (s d:TypeId) (x:Operand):oV S (.convert s d x)=S:=nr rfl
theorem qYw (S:HS) (t:TypeId) (x i:Operand):oV S (.index t x i)=S:=nr rfl
theorem zE7 (S:HS) (c:Call):oV S (.call c)=S:=nr rfl
theorem qY1 (S:HS) (t:TypeId):oV S (.alloc t)=S:=nr rfl
theorem zKj (S:HS) (t:TypeId) (x:Operand):oV S (.box t x)=S:=nr rfl
theorem zE4 (S:HS) (t:TypeId) (x y:Operand):oV S (.makeSlice t x y)=S:=nr rfl
theorem qYu (S:HS) (t:TypeId) (x y:Operand):oV S (.store t x y)=restAll S (zH8 S (hev S.env x) (hev S.env y)):=nr rfl
theorem qUv (S:HS) (t n:TypeId) (ps:Array (Nat × Operand)):oV S (.buildSlice t n ps)=restAll S (zJd (kK S.env ps.toList)):=nr rfl
theorem zH7 (S:HS) (id sz i k:Nat) (h:HV):zH8 S (some (.ptr id sz i k)) (some h)=qT2 S h (rlk S.st id):=nr rfl
theorem zH9 (S:HS) (h:HV) (nw:Bool) (ty s:Nat) (els:List (List FV)):qT2 S h (some (.sl nw ty s els))=qBe h:=nr rfl
theorem zJb (S:HS) (h:HV) (nw:Bool) (ty:Nat) (cs:List HV):qT2 S h (some (.bx nw ty cs))=[]:=nr rfl
theorem zJc (ps:List (Nat × HV)):zJd (some ps)=ps.flatMap fun p=>qBe p.2:=nr rfl
theorem qX0 (i:Nat):qBe (.own i)=[i]:=nr rfl
theorem zJe (x:Value):qBe (.v x)=[]:=nr rfl
theorem qX1 (fr:Bool) (xs:List (List FV)):qBe (.lst fr xs)=[]:=nr rfl
theorem qX2 (cs:List HV):qBe (.agg cs)=cs.flatMap qDn:=nr rfl
theorem qT4 (i:Nat):qDn (.own i)=[i]:=nr rfl
theorem zD0 (x:Value):qDn (.v x)=[]:=nr rfl
theorem qT5 (fr:Bool) (xs:List (List FV)):qDn (.lst fr xs)=[]:=nr rfl
theorem qTl (S:HS):restAll S []=S:=nr rfl
theorem qRh (S:HS) (i:Nat) (r:List Nat):restAll S (i :: r)=restAll (qFn S i) r:=nr rfl
theorem qXg (e:aM) (s:aD) (i:Nat):qFn ⟨e,s⟩ i=match decide (i < 1000000) with|true=>(match rlk s i with|some (.sl nw _ _ els)=>HS.rest ⟨e,s⟩ i (.lst nw els)|_=>⟨e,s⟩)|false=>⟨e,s⟩:=by unfold qFn;rw [show Nat.blt i held=decide (i < 1000000) by rw [Bool.eq_iff_iff];simp [Nat.blt_eq,held]];rfl
theorem zJa (S:HS) (h:HV) (nw:Bool) (ty s:Nat) (els:List (List HV)):qT2 S h (some (.hl nw ty s els))=[]:=nr rfl
theorem zKh (N:Nat) (d:Option Nat) (S:HS) (K:HS→Prop):oU N d S K=match hU N d with|true=>K (S.set d (.v undef))|false=>False:=nr rfl
theorem zEz (P:Program) (N:Nat) (o:Oper) (S:HS) (K:HS→Prop):qQm P N o S K .yes=HGo P N o S K:=nr rfl
theorem zKg (P:Program) (N:Nat) (o:Oper) (S:HS) (K:HS→Prop):qQm P N o S K .no=oU N o.dst S K:=nr rfl
theorem zE0 (P:Program) (N:Nat) (o:Oper) (S:HS) (K:HS→Prop) (d:Nat) (b want:Bool):qQm P N o S K (.ask d b want)=match b == want with|true=>HGo P N o (S.rep d (.v (.bool want))) K|false=>oU N o.dst (S.rep d (.v (.bool (!want)))) K:=nr rfl
theorem zPd (P:Program) (N:Nat) (ds:List (Option Nat)) (K:HS→Prop) (S:HS):HV2 P N ds K [] S=K S:=nr rfl
theorem zKf (P:Program) (N:Nat) (ds:List (Option Nat)) (K:HS→Prop) (o:Oper) (rest:List Oper) (S:HS):HV2 P N ds K (o :: rest) S=qQm P N o S (HV2 P N ds K rest) (hG S.env ds o.guard):=nr rfl
theorem zPk (P:Program) (o:Oper) (S:HS) (K:HS→Prop) (c:Prop) (h:HV) (S':HS):qG4 P o S K (.go c h S')=(fG o.op=true∧c∧K (S.set o.dst h)):=nr rfl
theorem zFc (P:Program) (o:Oper) (S:HS) (K:HS→Prop) (f:FuncId) (args:List HV):qG4 P o S K (.call f args)=zWm P f args S (fun x=>mR K (S.set o.dst (.v x))):=nr rfl
theorem zKr (P:Program) (o:Oper) (S:HS) (K:HS→Prop) (t:TypeId) (x y:List Value) (neg:Bool):qG4 P o S K (.eqn t x y neg)=∃ r,EqR P t x.toArray y.toArray r∧mR K (S.set o.dst (.v (.bool (neg ^^ r)))):=nr rfl
theorem zPl (P:Program) (N:Nat) (o:Oper) (S:HS) (K:HS→Prop):qWj P N o S K=match hU N o.dst with|true=>qG4 P o S K (hop P S (uR o.dst) o.op)|false=>False:=nr rfl
theorem qYs (P:Program) (N:Nat) (o:Oper) (S:HS) (K:HS→Prop):qH9 P N o S K .yes=qWj P N o S K:=nr rfl
theorem zEy (P:Program) (N:Nat) (o:Oper) (S:HS) (K:HS→Prop):qH9 P N o S K .no=oU N o.dst S K:=nr rfl
theorem qYt (P:Program) (N:Nat) (o:Oper) (S:HS) (K:HS→Prop) (d:Nat) (b want:Bool):qH9 P N o S K (.ask d b want)=match b == want with|true=>qWj P N o (S.rep d (.v (.bool want))) K|false=>oU N o.dst (S.rep d (.v (.bool (!want)))) K:=nr rfl
theorem zPc (P:Program) (N:Nat) (ds:List (Option Nat)) (K:HS→Prop) (S:HS):HVq P N ds K [] S=K S:=nr rfl
theorem zKe (P:Program) (N:Nat) (ds:List (Option Nat)) (K:HS→Prop) (o:Oper) (rest:List Oper) (S:HS):HVq P N ds K (o :: rest) S=qH9 P N o S (HVq P N ds K rest) (hG S.env ds o.guard):=nr rfl
theorem zDf (t:Nat):cQ (.tmp t)=[t]:=nr rfl
theorem qTd (v:Value):cQ (.const v)=[]:=nr rfl
theorem qRb (g:Nat):cQ (.global g)=[]:=nr rfl
theorem qW7 (f:FuncId):cQ (.func f)=[]:=nr rfl
theorem qW6  : qA9 []=[]:=nr rfl
theorem qTc (x:Operand) (r:List Operand):qA9 (x :: r)=cQ x ++ qA9 r:=nr rfl
theorem qW4  : tG []=[]:=nr rfl
theorem qS9 (k:Nat) (x:Operand) (r:List (Nat × Operand)):tG ((k,x) :: r)=cQ x ++ tG r:=nr rfl
theorem qW8 (x:Operand):qJi (some x)=cQ x:=nr rfl
theorem qW9  : qJi none=[]:=nr rfl
theorem qQ6 (x:Operand):bS (.move x)=cQ x:=nr rfl
theorem qK0 (x:Operand):bS (.assign x)=cQ x:=nr rfl
theorem qQ5 (x:Operand):bS (.nilCheck x)=cQ x:=nr rfl
theorem qQ4 (c a b:Operand):bS (.pick c a b)=cQ c ++ (cQ a ++ cQ b):=nr rfl
theorem qJy (x:Operand) (i:Nat):bS (.extract x i)=cQ x:=nr rfl
theorem qNo (t:TypeId) (x:Operand) (f:Nat):bS (.field t x f)=cQ x:=nr rfl
theorem qNp (t:TypeId) (x:Operand) (f:Nat):bS (.fieldAddr t x f)=cQ x:=nr rfl
theorem qQ7 (t:TypeId) (x:Operand):bS (.load t x)=cQ x:=nr rfl
theorem qW5 (u:UnOp) (t:TypeId) (x:Operand):bS (.unOp u t x)=cQ x:=nr rfl
theorem qQ8 (s d:TypeId) (x:Operand):bS (.convert s d x)=cQ x:=nr rfl
theorem qNn (t:TypeId) (x i:Operand):bS (.indexAddr t x i)=cQ x ++ cQ i:=nr rfl
theorem qNm (t:TypeId) (x i:Operand):bS (.index t x i)=cQ x ++ cQ i:=nr rfl
theorem qNk (t:TypeId) (x:Operand) (l h:Option Operand):bS (.slice t x l h none)=cQ x ++ (qJi l ++ qJi h):=nr rfl
theorem qTb (b:BinOp) (t:TypeId) (x y:Operand) (u:TypeId):bS (.binOp b t x y u)=cQ x ++ cQ y:=nr rfl
theorem qNq (t:TypeId) (ps:Array (Nat × Operand)):bS (.build t ps)=tG ps.toList:=nr rfl
theorem qKz (t:TypeId) (n:Nat) (ps:Array (Nat × Operand)):bS (.buildSlice t n ps)=tG ps.toList:=nr rfl
theorem qNl (t:TypeId) (x y:Operand):bS (.makeSlice t x y)=cQ x ++ cQ y:=nr rfl
theorem qQ9 (k:Callee) (args:Array Operand) (ats:Array TypeId):bS (.call ⟨k,args,ats⟩)=qK3 k ++ qA9 args.toList:=nr rfl
theorem qRa (x:Operand):qK3 (.value x)=cQ x:=nr rfl
theorem qK2 (b:Builtin):qK3 (.builtin b)=[]:=nr rfl
theorem qXb (ds:List (Option Nat)):jM ds none=[]:=nr rfl
theorem qXa (ds:List (Option Nat)) (g:Nat) (b:Bool):jM ds (some (g,b))=match ds[g]? with|some (some d)=>[d]|_=>[]:=nr rfl
theorem zDw (e:aM):mC e []=[]:=nr rfl
theorem qXv (e:aM) (t:Nat) (r:List Nat):mC e (t :: r)=match hlk e t with|some h=>(t,h) :: mC e r|none=>mC e r:=nr rfl
theorem qXs  : pJ []=true:=nr rfl
theorem zH1 (k:Nat) (v:Value) (r:aM):pJ ((k,.v v) :: r)=pJ r:=nr rfl
theorem qXt (k:Nat) (b:Bool) (xs:List (List FV)) (r:aM):pJ ((k,.lst b xs) :: r)=pJ r:=nr rfl
theorem qXu (k:Nat) (hs:List HV) (r:aM):pJ ((k,.agg hs) :: r)=pJ r:=nr rfl
theorem zKo (d:Option Nat) (S:HS) (K:HS→Prop) (c:Prop) (i:Nat) (S':HS):zCm d S K (.go c (.own i) S')=match rlk S'.st i with|some (.sl _ _ _ els)=>c∧K (S.set d (.lst true els))|_=>False:=nr rfl
theorem qUe (t:TypeId) (n:Nat) (ps:Array (Nat × Operand)):zN1 (.buildSlice t n ps)=true:=nr rfl
theorem qYc (t:TypeId) (x y:Operand):zN1 (.makeSlice t x y)=true:=nr rfl
theorem qRk (t:TypeId) (n:Nat) (ps:Array (Nat × Operand)):fG (.buildSlice t n ps)=false:=nr rfl
theorem qTr (t:TypeId) (x y:Operand):fG (.makeSlice t x y)=false:=nr rfl
theorem zPi (P:Program) (o:Oper) (S T:HS) (K:HS→Prop) (c:Prop) (h:HV) (S':HS):qEg P o S T K (.go c h S')=match fG o.op with|true=>c∧K (S.set o.dst h)|false=>(match zN1 o.op && pJ T.env with|true=>zCm o.dst S K (hop P ⟨T.env,[]⟩ (uR o.dst) o.op)|false=>False):=nr rfl
theorem zFb (P:Program) (o:Oper) (S T:HS) (K:HS→Prop) (f:FuncId) (args:List HV):qEg P o S T K (.call f args)=zGz P f args T (fun x=>mR K (S.set o.dst x)):=nr rfl
theorem zKq (P:Program) (o:Oper) (S T:HS) (K:HS→Prop) (t:TypeId) (x y:List Value) (neg:Bool):qEg P o S T K (.eqn t x y neg)=∃ r,EqR P t x.toArray y.toArray r∧mR K (S.set o.dst (.v (.bool (neg ^^ r)))):=nr rfl
theorem zPj (P:Program) (N:Nat) (o:Oper) (S T:HS) (K:HS→Prop):zA8 P N o S T K=match hU N o.dst with|true=>qEg P o S T K (hop P T (uR o.dst) o.op)|false=>False:=nr rfl
theorem qYq (P:Program) (N:Nat) (o:Oper) (S T:HS) (K:HS→Prop):lC P N o S T K .yes=zA8 P N o S T K:=nr rfl
theorem zEx (P:Program) (N:Nat) (o:Oper) (S T:HS) (K:HS→Prop):lC P N o S T K .no=oU N o.dst S K:=nr rfl
theorem qYr (P:Program) (N:Nat) (o:Oper) (S T:HS) (K:HS→Prop) (d:Nat) (b want:Bool):lC P N o S T K (.ask d b want)=match b == want with|true=>zA8 P N o (S.rep d (.v (.bool want))) (T.rep d (.v (.bool want))) K|false=>oU N o.dst (S.rep d (.v (.bool (!want)))) K:=nr rfl
theorem zPb (P:Program) (N:Nat) (ds:List (Option Nat)) (K:HS→Prop) (S:HS):HVr P N ds K [] S=K S:=nr rfl
theorem zKd (P:Program) (N:Nat) (ds:List (Option Nat)) (K:HS→Prop) (o:Oper) (rest:List Oper) (S:HS):HVr P N ds K (o :: rest) S=lC P N o S ⟨mC S.env (jM ds o.guard ++ bS o.op),S.st⟩ (HVr P N ds K rest) (hG (mC S.env (jM ds o.guard ++ bS o.op)) ds o.guard):=nr rfl
theorem zEv (k:Nat):uR (some k)=8 * k:=nr rfl
theorem zEw  : uR none=0:=nr rfl
theorem qXn (x:Operand):fG (.move x)=true:=nr rfl
theorem qRl (x:Operand):fG (.assign x)=true:=nr rfl
theorem qXl (c a b:Operand):fG (.pick c a b)=true:=nr rfl
theorem qNs (x:Operand) (i:Nat):fG (.extract x i)=true:=nr rfl
theorem qTu (t:TypeId) (x:Operand) (f:Nat):fG (.field t x f)=true:=nr rfl
theorem qTv (t:TypeId) (x:Operand) (f:Nat):fG (.fieldAddr t x f)=true:=nr rfl
theorem qXm (x:Operand):fG (.nilCheck x)=true:=nr rfl
theorem qTt (t:TypeId) (x i:Operand):fG (.indexAddr t x i)=true:=nr rfl
theorem qTq (t:TypeId) (x:Operand) (l h m:Option Operand):fG (.slice t x l h m)=true:=nr rfl
theorem qXo (t:TypeId) (x:Operand):fG (.load t x)=true:=nr rfl
theorem qTw (t:TypeId) (ps:Array (Nat × Operand)):fG (.build t ps)=true:=nr rfl
theorem zDv (b:BinOp) (t:TypeId) (x y:Operand) (u:TypeId):fG (.binOp b t x y u)=true:=nr rfl
theorem zHx (u:UnOp) (t:TypeId) (x:Operand):fG (.unOp u t x)=true:=nr rfl
theorem qXp (s d:TypeId) (x:Operand):fG (.convert s d x)=true:=nr rfl
theorem qTs (t:TypeId) (x i:Operand):fG (.index t x i)=true:=nr rfl
theorem zDu (args:Array Operand) (ats:Array TypeId):fG (.call ⟨.builtin .len,args,ats⟩)=true:=nr rfl
theorem zDt (args:Array Operand) (ats:Array TypeId):fG (.call ⟨.builtin .min,args,ats⟩)=true:=nr rfl
theorem zGw (k:Nat):qDa k []=[]:=nr rfl
theorem zA5 (k:Nat) (v:HV) (r:List HV):qDa k (v :: r)=(k,v) :: qDa (k + 1) r:=nr rfl
theorem zZ (e:aM) (s:aD) (ks ids:List Nat):HS.keep ⟨e,s⟩ ks ids=⟨qAk ks e,qBw ids s⟩:=nr rfl
theorem zR (l:aM):qAk [] l=[]:=nr rfl
theorem zP (k:Nat) (r:List Nat) (l:aM):qAk (k :: r) l=match hlk l k with|some v=>(k,v) :: qAk r l|none=>qAk r l:=nr rfl
theorem zQ (l:aD):qBw [] l=[]:=nr rfl
theorem zN (k:Nat) (r:List Nat) (l:aD):qBw (k :: r) l=match rlk l k with|some v=>(k,v) :: qBw r l|none=>qBw r l:=nr rfl
theorem yA (P:Program) (rs:List ResultVar) (Q:HV→aD→Prop) (S:HS):zKt P rs Q .normal S=xG P S rs fun hs=>qG3 S (qGc hs) Q:=nr rfl
theorem yM (P:Program) (rs:List ResultVar) (Q:HV→aD→Prop) (S:HS):zKt P rs Q .ret S=xG P S rs fun hs=>qG3 S (qGc hs) Q:=nr rfl
theorem yH (P:Program) (S:HS) (K:List HV→Prop):xG P S [] K=K []:=nr rfl
theorem aA (P:Program) (S:HS) (p ty:Nat) (r:List ResultVar) (K:List HV→Prop):xG P S (.cell p ty :: r) K=zRv (wD S (cR P ty) (hlk S.env p)) fun h=>xG P S r fun hs=>K (h :: hs):=nr rfl
theorem aC (c:Prop) (h:HV) (S:HS) (K:HV→Prop):zRv (.go c h S) K=(c∧K h):=nr rfl
theorem yE (P:Program) (S:HS) (t:Nat) (r:List ResultVar) (K:List HV→Prop):xG P S (.tmp t :: r) K=match hlk S.env t with|some h=>xG P S r fun hs=>K (h :: hs)|none=>False:=nr rfl
theorem yK (h:HV):qGc [h]=h:=nr rfl
theorem yJ (a b:HV) (r:List HV):qGc (a :: b :: r)=.tup (a :: b :: r):=nr rfl
theorem zNk (i:Nat):pos [] i=none:=nr rfl
theorem yF (k:Nat) (r:List Nat) (i:Nat):pos (k :: r) i=if k=i then some 0 else (pos r i).map (· + 1):=nr rfl
theorem zDj (m:Nat→Option Nat) (st:aD) (k:Nat):lN m st k []=[]:=nr rfl
theorem yG (m:Nat→Option Nat) (st:aD) (k id:Nat) (r:List Nat):lN m st k (id :: r)=match rlk st id with|some row=>(k,row.ren m) :: lN m st (k + 1) r|none=>lN m st (k + 1) r:=nr rfl
theorem zAz {p:Prop} (h:p):bX p=True:=eq_true h
theorem zGf:bX True=True:=rfl
theorem ltT {a b:Int} (h:a < b):decide (a < b)=true:=decide_eq_true h
theorem ltF {a b:Int} (h:b≤a):decide (a < b)=false:=decide_eq_false (by omega)
theorem leT {a b:Int} (h:a≤b):decide (a≤b)=true:=decide_eq_true h
theorem leF {a b:Int} (h:b < a):decide (a≤b)=false:=decide_eq_false (by omega)
theorem eqT {a b:Int} (h:a=b):decide (a=b)=true:=decide_eq_true h
theorem eqF {a b:Int} (h:a < b∨b < a):decide (a=b)=false:=decide_eq_false (by omega)
theorem zP0 {α:Type} {l:List α} {i:Nat} {d:α} (h:i < l.length):l.getD i d=l[i]:=fZ h
theorem jT {α β:Type} {f:α→β} {l:List α} {i:Nat} {d:β} (h:i < l.length):(l.map f).getD i d=f (l[i]):=by rw [zP0 (by simpa using h),List.getElem_map]
theorem zAp:(default:FV)=.v (.bool false):=rfl
theorem zRi {x:Int} (h1:-9223372036854775808≤x) (h2:x≤9223372036854775807):IntKind.i64.wrap x=x:=zQ8 ⟨by unfold zSo;exact h1,by unfold zSz;exact h2⟩
theorem zMi {P:Program} {N:Nat} {x:Code} {Q:gE} {S:HS} (k:Nat) {fr:Bool} {xs:List (List FV)} (hk:hlk S.env k=some (.lst fr xs)) (h:xs.length≤9223372036854775807→HW P N x Q S):HW P N x Q S:=fun c l w I=>by
 refine h ?_ c l w I;obtain ⟨ρ,ys,G⟩:=I;obtain ⟨v,-,h2⟩:=G.env k _ hk
 have h3:=qTn h2
 cases h3 with
|lst sz vals hn hc hm hnil hsz ha h1 hr=>simp only [maxLen] at hm;omega
theorem qWp (n:Nat):((n:Int) + 1).toNat=n + 1:=by omega
theorem zCx (n m:Nat):((n:Int) + (m:Int)).toNat=n + m:=by omega
theorem vK {α:Type} {f:α→List FV} {sz:Nat} (l:List α) (h:∀ a,(f a).length=sz):Wid sz (l.map f):=fun x hx=>by
 obtain ⟨a,-,rfl⟩:=List.mem_map.1 hx;exact h a
end Go.Eng
end

section
namespace Go.Eng
open Go Go.RowKit
def qB1 (s:ByteArray):List FV:=[.v (.string s)]
def aK (a:List ByteArray):List (List FV):=a.map qB1
def qR2 (n:Int):List FV:=[.v (.int .i64 n)]
def iD (a:List Int):List (List FV):=a.map qR2
def zJ9 (r:Int × Int):List FV:=[.v (.int .i64 r.1),.v (.int .i64 r.2)]
def nN (a:List (Int × Int)):List (List FV):=a.map zJ9
theorem aF (a:List ByteArray):(aK a).length=a.length:=by simp [aK]
theorem dW (a:List Int):(iD a).length=a.length:=by simp [iD]
theorem pQ (a:List (Int × Int)):(nN a).length=a.length:=by simp [nN]
theorem bJ (a:List ByteArray):Wid 1 (aK a)=True:=eq_true (vK a fun _=>rfl)
theorem fL (a:List Int):Wid 1 (iD a)=True:=eq_true (vK a fun _=>rfl)
theorem sK (a:List (Int × Int)):Wid 2 (nN a)=True:=eq_true (vK a fun _=>rfl)
theorem eY {a:List ByteArray} {i:Nat} {d:List FV} (h:i < a.length):(aK a).getD i d=[.v (.string a[i])]:=by unfold aK;rw [jT h];rfl
theorem gC {a:List Int} {i:Nat} {d:List FV} (h:i < a.length):(iD a).getD i d=[.v (.int .i64 a[i])]:=by unfold iD;rw [jT h];rfl
theorem qHu {a:List (Int × Int)} {i:Nat} {d:List FV} (h:i < a.length):(nN a).getD i d=[.v (.int .i64 a[i].1),.v (.int .i64 a[i].2)]:=by unfold nN;rw [jT h];rfl
theorem aN (a:List ByteArray):oJ (aK a)=aK a:=by
 unfold oJ aK;rw [List.map_map];apply List.map_congr_left;intro s _;simp [qB1,FV.old]
theorem zJ8 (a:List Int):oJ (iD a)=iD a:=by
 unfold oJ iD;rw [List.map_map];apply List.map_congr_left;intro s _;simp [qR2,FV.old]
theorem iU (a:List ByteArray):∀ x ∈ aK a,∀ f ∈ x,FreshF f:=fun x hx f hf=>by
 obtain ⟨s,-,rfl⟩:=List.mem_map.1 hx;simp [qB1] at hf;subst hf;exact .v _
theorem qBj (a:List Int):∀ x ∈ iD a,∀ f ∈ x,FreshF f:=fun x hx f hf=>by
 obtain ⟨s,-,rfl⟩:=List.mem_map.1 hx;simp [qR2] at hf;subst hf;exact .v _
theorem qJp (a:List (Int × Int)):∀ x ∈ nN a,∀ f ∈ x,FreshF f:=fun x hx f hf=>by
 obtain ⟨s,-,rfl⟩:=List.mem_map.1 hx;simp [zJ9] at hf;rcases hf with rfl|rfl <;> exact .v _
theorem iH (a:List ByteArray) (s:ByteArray):aK a ++ [[.v (.string s)]]=aK (a ++ [s]):=by simp [aK,qB1]
theorem qAb (a:List Int) (s:Int):iD a ++ [[.v (.int .i64 s)]]=iD (a ++ [s]):=by simp [iD,qR2]
theorem qL9 (a:List (Int × Int)) (x y:Int):nN a ++ [[.v (.int .i64 x),.v (.int .i64 y)]]=nN (a ++ [(x,y)]):=by simp [nN,zJ9]
theorem zHg (a b:List ByteArray):aK a ++ aK b=aK (a ++ b):=by simp [aK]
theorem oZ (a:List ByteArray) (n:Nat):(aK a).take n=aK (a.take n):=by simp [aK,List.map_take]
theorem pA (a:List ByteArray) (n:Nat):(aK a).drop n=aK (a.drop n):=by simp [aK,List.map_drop]
theorem zUg {P:Program} {N:Nat} {x:Code} {Q:gE} {S:HS} (k id ty sz:Nat) (hk:hlk S.env k=some (.v (.slice none 0 0))) (h:HW P N x Q (((S.kill (only id)).row id (.sl true ty sz [])).rep k (.own id))):HW P N x Q S:=fun c l w I=>by
 refine h c l w ?_;obtain ⟨ρ,xs,G⟩:=I
 have G2:=G.new id (.sl true ty sz []) [] (.slice none 0 0) (w':=w) (Below.refl _ _) (fun b hb=>by cases hb) (fun _ _ =>
  ⟨by rw [aG];exact World.ownsRow_nil w 0 ty sz,⟨by simp,fun i k hi=>absurd hi (by simp)⟩,fun b hb=>by rw [aG] at hb;cases hb⟩)
 refine ⟨_,_,G2.rows,G2.apart,fun j y hj=>?_,G2.kept,G2.a0⟩
 simp only [HS.rep,qMb] at hj
 by_cases e:j=k
 ·subst e;rw [if_pos rfl] at hj
  have h1:hlk ((S.kill (only id)).row id (.sl true ty sz [])).env j=some (.v (.slice none 0 0)):=by
   show hlk (kJ (only id) S.env) j=_
   rw [nP,hk];simp [HV.kill]
  rw [h1] at hj;simp only [Option.map_some,Option.some.injEq] at hj;subst hj;obtain ⟨v,a,b⟩:=G2.env j _ h1
  have:=bK b
  subst this;refine ⟨_,a,?_⟩
  have:=RepH.own (w:=w) (A:=c.A (gU ρ id (.slice none 0 0)) (((S.kill (only id)).row id (.sl true ty sz [])).rep j (.own id)).st) (n0:=c.n0) (ρ:=gU ρ id (.slice none 0 0)) id (by rw [aG];rfl)
  rw [aG] at this;exact this
 ·rw [if_neg e] at hj;exact G2.env j y hj
theorem qAl {P:Program} {f:FuncId} {args:List HV} {x:Value} (h:∀ (w:World) (vs:List Value),qA3 w (fun _=>False) w.heap.size (fun _=>undef) vs args→Calls P f vs.toArray w (Ret fun r w'=>r=x∧Below w.heap.size w w')):HFun P f args (fun h st=>h=.v x∧st=[]):=fun w vs R =>
 Ret.mono (h w vs R) fun v w' ⟨hv,B⟩=>⟨B,.v x,[],fun i r hi=>by simp [rlk] at hi,⟨rfl,rfl⟩,fun _=>undef,fun _=>[],⟨fun id r hr=>by simp [rlk] at hr,fun i j r s b hne hi=>by simp [rlk] at hi,fun k x hk=>by simp [hlk] at hk,⟨B.os,B.tape,B.output,B.size,fun b hlt _=>B.block b hlt⟩,fun b hb=>⟨hb,fun h=>h⟩⟩,by rw [hv];exact .v x⟩
theorem aH {st:aD} {fr:Bool} {xs ys:List (List FV)} (h:oJ xs=ys):Lend st (.lst fr xs) (.lst false ys):=h ▸ .lst fr xs
theorem jK {st:aD} {id ty sz:Nat} {nw:Bool} {els ys:List (List FV)} (h:oJ els=ys) (hr:rlk st id=some (.sl nw ty sz els)):Lend st (.own id) (.lst false ys):=h ▸ .own hr
theorem qL1 {st:aD} {id ty sz off n:Nat} {nw:Bool} {els ys:List (List FV)} (h:oJ ((els.drop off).take n)=ys) (hr:rlk st id=some (.sl nw ty sz els)):Lend st (.vw id sz off n) (.lst false ys):=h ▸ .vw hr
section
variable {S:HS} {Q:HV→aD→Prop}
theorem aL {a:Value} (q:Q (.v a) []):qG3 S (.v a) Q:=⟨[],by simp,rfl,.v _,fun id h=>by simp at h,by rw [HV.ren];exact q⟩
theorem mT {a b:Value} (q:Q (.tup [.v a,.v b]) []):qG3 S (.tup [.v a,.v b]) Q :=
 ⟨[],by simp,rfl,.tup fun x hx=>by simp at hx;rcases hx with rfl|rfl <;> exact .v _,fun id h=>by simp at h,by rw [HV.ren];simp only [List.map_cons,List.map_nil,HV.ren];exact q⟩
theorem gD {a b c:Value} (q:Q (.tup [.v a,.v b,.v c]) []):qG3 S (.tup [.v a,.v b,.v c]) Q :=
 ⟨[],by simp,rfl,.tup fun x hx=>by simp at hx;rcases hx with rfl|rfl|rfl <;> exact .v _,fun id h=>by simp at h,by rw [HV.ren];simp only [List.map_cons,List.map_nil,HV.ren];exact q⟩
theorem lW {id ty sz:Nat} {els:List (List FV)} (hr:rlk S.st id=some (.sl true ty sz els)) (hf:∀ x ∈ els,∀ f ∈ x,FreshF f) (q:Q (.own 0) [(0,.sl true ty sz els)]):qG3 S (.own id) Q :=
 ⟨[id],by simp,by simp [dup],.own _,fun i h r hr'=>by
  simp at h;subst h;rw [hr] at hr';simp only [Option.some.injEq] at hr';subst hr';exact ⟨rfl,hf⟩,by
  rw [HV.ren];simp only [pos,if_true,lN,hr,Row.ren];exact q⟩
theorem qBk {id ty sz:Nat} {els:List (List FV)} {b:Value} (hr:rlk S.st id=some (.sl true ty sz els)) (hf:∀ x ∈ els,∀ f ∈ x,FreshF f) (q:Q (.tup [.own 0,.v b]) [(0,.sl true ty sz els)]):qG3 S (.tup [.own id,.v b]) Q :=
 ⟨[id],by simp,by simp [dup],.tup fun x hx=>by simp at hx;rcases hx with rfl|rfl <;> first|exact .v _|exact .own _,fun i h r hr'=>by
  simp at h;subst h;rw [hr] at hr';simp only [Option.some.injEq] at hr';subst hr';exact ⟨rfl,hf⟩,by
  rw [HV.ren];simp only [List.map_cons,List.map_nil,HV.ren,pos,if_true,lN,hr,Row.ren];exact q⟩
end
theorem zBp {P:Program} {w w':World} {ty sz:Nat} {els:List (List FV)} {v:Value} {l:List Value} (B:Below w.heap.size w w') (h:Own w' w.heap.size ty sz v els.length l) (hw:∀ x ∈ els,x.length=sz)
  (hl:∀ i k (hi:i < els.length) (hk:k < els[i].length),∃ u,l[i * sz + k]?=some u∧u.oneCell'=true∧els[i][k]=.v u) :
  ∃ ρ xs,Good (cx w (fun _=>False) (fun b=>b < w.heap.size)) ⟨[],[(0,.sl true ty sz els)]⟩ (fun _=>none) w' ρ xs∧ρ 0=v:=by
 refine ⟨fun _=>v,fun _=>l,⟨fun id r hr=>?_,fun i j r s b hne hi hj=>?_,fun k x hk=>by simp [hlk] at hk,⟨B.os,B.tape,B.output,B.size,fun b hlt _=>B.block b hlt⟩,fun b hb=>⟨hb,fun h=>h⟩⟩,rfl⟩
 ·simp only [rlk] at hr;split at hr
  ·simp only [Option.some.injEq] at hr;subst hr;refine ⟨⟨h.1,h.2.imp _root_.id fun ⟨g,cap,cur,a,b,d⟩=>⟨g,cap,cur,a,Nat.zero_le _,d⟩⟩,⟨hw,fun i k hi hk=>?_⟩,fun b hb=>⟨.inl (h.lt b hb).1,fun _=>(h.lt b hb).1⟩⟩
   obtain ⟨u,a,b,e⟩:=hl i k hi hk;exact ⟨u,a,b,by rw [e];exact .v u⟩
  ·cases hr
 ·simp only [rlk] at hi hj;split at hi
  ·split at hj
   ·omega
   ·cases hj
  ·cases hi
end Go.Eng
end

section
namespace Go.Eng
open Go Go.RowKit
theorem zJn (j:Nat):qHl [] j=none:=nr rfl
theorem zD6 (k:Nat) (r:List Nat) (j:Nat):qHl (k :: r) j=if j=0 then some k else qHl r (j - 1):=by cases j <;> simp [qHl]
theorem zRq (ids:List Nat) (n j:Nat):sh2 ids n j=match qHl ids j with|some i=>some i|none=>bif decide (j < 8) then some (n + j) else none:=by
 unfold sh2;split <;> rename_i h <;> rw [h];congr 1;rw [Bool.eq_iff_iff];simp [Nat.blt_eq]
theorem zN9 (i:Nat):inL [] i=false:=nr rfl
theorem zKb (k:Nat) (r:List Nat) (i:Nat):inL (k :: r) i=(k == i || inL r i):=nr rfl
theorem zEo:qYk none=true:=nr rfl
theorem zN4 (nw:Bool) (t s:Nat) (xs:List (List FV)):qYk (some (.sl nw t s xs))=true:=nr rfl
theorem zN6 (nw:Bool) (t:Nat) (cs:List HV):qYk (some (.bx nw t cs))=false:=nr rfl
theorem zN5 (nw:Bool) (t s:Nat) (xs:List (List HV)):qYk (some (.hl nw t s xs))=true:=nr rfl
theorem zN8 (nw:Bool) (t s:Nat) (xs:List (List HV)):wV (some (.hl nw t s xs))=False:=nr rfl
theorem zEp:wV none=False:=nr rfl
theorem zN7 (nw:Bool) (t s:Nat) (xs:List (List FV)):wV (some (.sl nw t s xs))=False:=nr rfl
theorem zSr (t:Nat) (cs:List HV):wV (some (.bx true t cs))=False:=nr rfl
theorem zSs (t:Nat) (cs:List HV):wV (some (.bx false t cs))=True:=nr rfl
theorem zCu (ids:List Nat) (st:aD) (n i:Nat):qEs ids st n i=(gR n i || (inL ids i && qYk (rlk st i))):=nr rfl
theorem zPy (ids:List Nat) (n i:Nat):qGk ids n i=(gR n i || inL ids i):=nr rfl
theorem zD4 (ids:List Nat) (st:aD) (j:Nat):lU ids st j=match qHl ids j with|some i=>rlk st i|none=>none:=nr rfl
theorem zQf (nw:Bool) (t s:Nat) (xs:List (List FV)):(Row.sl nw t s xs).dark=.sl nw t s xs:=nr rfl
theorem zQh (nw:Bool) (t:Nat) (cs:List HV):(Row.bx nw t cs).dark=.bx false t cs:=nr rfl
theorem zQg (nw:Bool) (t s:Nat) (xs:List (List HV)):(Row.hl nw t s xs).dark=.hl nw t s xs:=nr rfl
theorem zP9 (o:Option Row) (nw:Bool) (t s:Nat) (xs:List (List HV)):(Row.hl nw t s xs).flag o=.hl nw t s xs:=by
 cases o with
|none=>rfl
|some o=>cases o <;> rfl
theorem zLw (r:Row) (nw:Bool) (t s:Nat) (xs:List (List HV)):r.flag (some (.hl nw t s xs))=r:=by cases r <;> rfl
theorem zF8 (r:Row):r.flag none=r:=nr rfl
theorem zP8 (o:Option Row) (nw:Bool) (t s:Nat) (xs:List (List FV)):(Row.sl nw t s xs).flag o=.sl nw t s xs:=by
 cases o with
|none=>rfl
|some o=>cases o <;> rfl
theorem zQa (nw n2:Bool) (t t2:Nat) (cs c2:List HV):(Row.bx n2 t2 c2).flag (some (.bx nw t cs))=.bx nw t2 c2:=nr rfl
theorem zLv (r:Row) (nw:Bool) (t s:Nat) (xs:List (List FV)):r.flag (some (.sl nw t s xs))=r:=by cases r <;> rfl
theorem zGb (m:Nat→Option Nat) (st:aD) (k:Nat):vC m st k []=[]:=nr rfl
theorem zAx (m:Nat→Option Nat) (st:aD) (k id:Nat) (r:List Nat):vC m st k (id :: r)=match rlk st id with|some row=>(k,(row.ren m).dark) :: vC m st (k + 1) r|none=>vC m st (k + 1) r:=nr rfl
theorem zMz (S0:aD) (ids:List Nat) (n:Nat) (b:aD):swp S0 ids n [] b=b:=nr rfl
theorem zHd (S0:aD) (ids:List Nat) (n j:Nat) (r:Row) (t b:aD):swp S0 ids n ((j,r) :: t) b=((sh2 ids n j).getD 0,(r.ren (sh2 ids n)).flag (lU ids S0 j)) :: swp S0 ids n t b:=nr rfl
theorem zM0 (e:aM) (s:aD) (ids:List Nat) (n:Nat) (st:aD):HS.swap ⟨e,s⟩ ids n st=⟨kJ (qEs ids s n) e,swp s ids n st (dZ (qGk ids n) s)⟩:=nr rfl
theorem zGs (st:aD) (k:Nat):qM3 st k []=True:=nr rfl
theorem yL (st:aD) (k id:Nat) (r:List Nat):qM3 st k (id :: r)=((wV (rlk st id)→k=id)∧qM3 st (k + 1) r):=nr rfl
theorem zEm (ids:List Nat) (st:aD):vW ids st []=True:=nr rfl
theorem zJ4 (ids:List Nat) (st:aD) (j:Nat) (nw:Bool) (t s:Nat) (xs:List (List FV)) (r:aD):vW ids st ((j,.sl nw t s xs) :: r)=vW ids st r:=nr rfl
theorem zJ5 (ids:List Nat) (st:aD) (j:Nat) (nw:Bool) (t s:Nat) (xs:List (List HV)) (r:aD):vW ids st ((j,.hl nw t s xs) :: r)=vW ids st r:=nr rfl
theorem zJ6 (ids:List Nat) (st:aD) (j:Nat) (t:Nat) (cs:List HV) (r:aD):vW ids st ((j,.bx true t cs) :: r)=vW ids st r:=nr rfl
theorem zJ7 (ids:List Nat) (st:aD) (j:Nat) (t:Nat) (cs:List HV) (r:aD):vW ids st ((j,.bx false t cs) :: r)=((qHl ids j=some j∧wV (rlk st j))∧vW ids st r):=by
 rw [rQ];rfl
theorem aX (P:Program) (rs:List ResultVar) (st0:aD) (Q:HV→aD→Prop) (S:HS):qY3 P rs st0 Q .normal S=xG P S rs fun hs=>qNg st0 S (qGc hs) Q:=rfl
theorem cV (P:Program) (rs:List ResultVar) (st0:aD) (Q:HV→aD→Prop) (S:HS):qY3 P rs st0 Q .ret S=xG P S rs fun hs=>qNg st0 S (qGc hs) Q:=rfl
theorem mG (ids:List Nat) {st0:aD} {S:HS} {h:HV} {Q:HV→aD→Prop} (h1:ids.length≤8) (h2:dup ids=false) (h3:qM3 S.st 0 ids) (h4:vW ids S.st st0) {h':HV} {st':aD} (h5:h.ren (pos ids)=h') (h6:lN (pos ids) S.st 0 ids=st') (q:Q h' st'):qNg st0 S h Q :=
 ⟨ids,h1,h2,h3,h4,by rw [h5,h6];exact q⟩
theorem eM:qGc []=.tup []:=nr rfl
section
variable {P:Program} {N:Nat} {x:Code} {Q:gE} {S S':HS}
theorem zCk (id k nid ty sz:Nat) {nw:Bool} {bt:Nat} {cells:List HV} (hne:id≠nid) (hr:rlk S.st id=some (.bx nw bt cells)) (hk:cells[k]?=some (.v (.slice none 0 0)))
  (hs:(⟨kJ (only nid) S.env,(nid,.sl true ty sz []) :: jG id (.bx nw bt ((cells.map (HV.kill (only nid))).set k (.own nid))) (dZ (only nid) S.st)⟩:HS)=S') (h:HW P N x Q S'):HW P N x Q S:=fun c l w I=>by
 subst hs;refine h c l w ?_;obtain ⟨ρ,xs,G⟩:=I
 have G2:=G.new nid (.sl true ty sz []) [] (.slice none 0 0) (w':=w) (Below.refl _ _) (fun b hb=>by cases hb) (fun _ _ =>
  ⟨by rw [aG];exact World.ownsRow_nil w 0 ty sz,⟨by simp,fun i k hi=>absurd hi (by simp)⟩,fun b hb=>by rw [aG] at hb;cases hb⟩)
 have hr2:rlk (dZ (only nid) S.st) id=some (.bx nw bt (cells.map (HV.kill (only nid)))):=by rw [iB,rP hne,cond_false,hr];rfl
 have hl:∀ i,rlk ((nid,Row.sl true ty sz []) :: jG id (.bx nw bt ((cells.map (HV.kill (only nid))).set k (.own nid))) (dZ (only nid) S.st)) i =
   if i=id then some (.bx nw bt ((cells.map (HV.kill (only nid))).set k (.own nid))) else rlk ((nid,Row.sl true ty sz []) :: dZ (only nid) S.st) i:=fun i=>by
  simp only [rlk]
  by_cases e:nid=i
  ·rw [if_pos e,if_neg (by omega),if_pos e]
  ·rw [if_neg e,jN id _ _ _ hr2]
   by_cases e2:i=id
   ·rw [if_pos e2,if_pos e2]
   ·rw [if_neg e2,if_neg e2,if_neg e]
 have hid:rlk ((nid,Row.sl true ty sz []) :: dZ (only nid) S.st) id=some (.bx nw bt (cells.map (HV.kill (only nid)))):=by simp only [rlk];rw [if_neg (by omega)];exact hr2
 have hA:∀ b,c.A (gU ρ nid (.slice none 0 0)) ((nid,Row.sl true ty sz []) :: jG id (.bx nw bt ((cells.map (HV.kill (only nid))).set k (.own nid))) (dZ (only nid) S.st)) b→c.A (gU ρ nid (.slice none 0 0)) ((nid,Row.sl true ty sz []) :: dZ (only nid) S.st) b:=by
  rintro b (h0|⟨i,s,hi,hb⟩)
  ·exact .inl h0
  ·right
   rw [hl] at hi
   by_cases e:i=id
   ·subst e;exact ⟨_,_,hid,hb⟩
   ·rw [if_neg e] at hi;exact ⟨i,s,hi,hb⟩
 refine ⟨gU ρ nid (.slice none 0 0),fun i=>if i=nid then [] else xs i,⟨fun i r hi=>?_,fun i j r s b hne hi hj hbi hbj=>?_,fun j y hj=>?_,G2.kept,G2.a0⟩⟩
 ·rw [hl] at hi
  by_cases e:i=id
  ·subst e;rw [if_pos rfl] at hi;simp only [Option.some.injEq] at hi;subst hi
   have R:=G2.rows i _ hid
   refine ⟨by simpa [Row.ty,Row.sz,Row.len] using R.own,⟨R.rep.1,fun q hq=>?_⟩,R.new⟩
   have hq':q < (cells.map (HV.kill (only nid))).length:=by simpa using hq
   obtain ⟨u,u1,u2,u3⟩:=R.rep.2 q hq'
   by_cases eq:k=q
   ·subst eq;refine ⟨u,u1,u2,?_⟩;rw [List.getElem_set_self]
    have hc:cells[k]'(by simpa using hq')=.v (.slice none 0 0):=by
     have:=List.getElem?_eq_some_iff.1 hk
     exact this.2
    rw [List.getElem_map,hc,HV.kill] at u3
    have:=bK u3
    subst this
    have:=RepH.own (w:=w) (A:=c.A (gU ρ nid (.slice none 0 0)) ((nid,Row.sl true ty sz []) :: jG i (.bx nw bt ((cells.map (HV.kill (only nid))).set k (.own nid))) (dZ (only nid) S.st))) (n0:=c.n0) (ρ:=gU ρ nid (.slice none 0 0)) nid (by rw [aG];rfl)
    rw [aG] at this;exact this
   ·refine ⟨u,u1,u2,?_⟩;rw [List.getElem_set_ne eq];exact u3.up (Nat.le_refl _) (fun _ _ _=>rfl) (fun b _=>hA b) (Nat.le_refl _)
  ·rw [if_neg e] at hi;exact (G2.rows i r hi).up (Nat.le_refl _) (fun _ _ _=>rfl) (fun b _=>hA b) (fun _ _=>rfl)
 ·have back:∀ i s,rlk ((nid,Row.sl true ty sz []) :: jG id (.bx nw bt ((cells.map (HV.kill (only nid))).set k (.own nid))) (dZ (only nid) S.st)) i=some s→∃ s0,rlk ((nid,Row.sl true ty sz []) :: dZ (only nid) S.st) i=some s0:=by
   intro i s hi;rw [hl] at hi
   by_cases e:i=id
   ·subst e;exact ⟨_,hid⟩
   ·rw [if_neg e] at hi;exact ⟨s,hi⟩
  obtain ⟨r0,h1⟩:=back i r hi;obtain ⟨s0,h2⟩:=back j s hj;exact G2.apart i j r0 s0 b hne h1 h2 hbi hbj
 ·obtain ⟨v,h1,h2⟩:=G2.env j y hj;exact ⟨v,h1,h2.up (Nat.le_refl _) (fun _ _ _=>rfl) (fun b _=>hA b) (Nat.le_refl _)⟩
end
section
variable {P:Program} {N:Nat} {x:Code} {Q:gE} {S:HS} {id:Nat} {R:HS→Prop}
end
end Go.Eng
end

section
namespace Go.Eng
open Go Go.RowKit
def zSw (R:HS→Prop) (Q:gE):gE
|.normal,S=>R S
|e,S=>Q e S
section
variable {P:Program} {N:Nat} {x:Code} {Q:gE} {S:HS} {R:HS→Prop}
theorem qEd {ι:Type} (E:ι→HS) (I:ι→Prop) (ks ids:List Nat) (hx:HW P N x (zSw (fun S'=>∃ j,S'.keep ks ids=E j∧I j) Q) S) (hy:∀ S' j,S'.keep ks ids=E j→I j→Q .normal S'):HW P N x Q S :=
 hx.mono fun e S' h=>by
  cases e with
 |normal=>obtain ⟨j,hE,hI⟩:=h;exact hy S' j hE hI
 |_=>exact h
end
theorem qE {P:Program} {N:Nat} {x:Code} {Q:gE} {S S':HS} (k id ty sz:Nat) (hk:hlk S.env k=some (.v (.slice none 0 0))) (hs:((S.kill (only id)).row id (.sl true ty sz [])).rep k (.own id)=S') (h:HW P N x Q S'):HW P N x Q S:=zUg k id ty sz hk (hs ▸ h)
end Go.Eng
end

section
namespace Go.Eng
open Go Go.RowKit
theorem qH5 {P:Program} {N:Nat} {ds:List (Option Nat)} {K:Env→World→Prop}:∀ {ops more:List Oper} {l:Env} {w:World},VC P N ds (fun l w=>VC P N ds K more l w) ops l w→VC P N ds K (ops ++ more) l w
|[],more,l,w,h=>by rw [VC] at h;exact h
|o :: rest,more,l,w,h=>by
  rw [List.cons_append];rw [VC] at h ⊢;obtain ⟨b,hb,hd,h⟩:=qMh h
  have conv:∀ {k:Bool→Prop},k b→gd l ds o.guard k:=by
   intro k hkb;unfold gd at hb ⊢;split
   ·rename_i hg;rw [hg] at hb;dsimp only at hb;rw [hb];exact hkb
   ·rename_i j want hg;rw [hg] at hb;dsimp only at hb;split
    ·rename_i d hd';rw [hd'] at hb;dsimp only at hb;split
     ·rename_i b' hb';rw [hb'] at hb;dsimp only at hb;rw [hb];exact hkb
     ·rename_i v hv hb';rw [hb'] at hb
      cases v <;> dsimp only at hb <;> first|(exact (hv _ rfl).elim)|(rw [hb];exact hkb)
     ·rename_i hb';rw [hb'] at hb;exact hb.elim
    ·rename_i hn;split at hb
     ·rename_i d hd';exact (hn d hd').elim
     ·exact hb.elim
  refine conv ⟨hd,?_⟩
  cases b with
 |true=>exact bE h fun v w' hv=>qH5 hv
 |false=>exact qH5 h
section
variable {P:Program} {N:Nat} {ds:List (Option Nat)} {K:HS→Prop} {S:HS} {Q:gE}
def zA7 (P:Program) (N:Nat) (ds:List (Option Nat)) (K:HS→Prop) (ops:List Oper) (S:HS):Prop :=
 ∀ (c:Ctx) (l:Env) (w:World),Inv c S (lk l) w→VC P N ds (fun l w=>∃ S',Inv c S' (lk l) w∧K S') ops l w
theorem zMo {ops:List Oper} (h:HV2 P N ds K ops S):zA7 P N ds K ops S:=fun c l w I=>xB (c:=c) ops S l w h I
theorem zMp {ops:List Oper} (n:Nat) (ks ids:List Nat) (h:HV2 P N ds (fun S'=>mR (zA7 P N ds K (ops.drop n)) (S'.keep ks ids)) (ops.take n) S):zA7 P N ds K ops S:=fun c l w I=>by
 have:=xB (c:=c) (ops.take n) S l w h I
 rw [← List.take_append_drop n ops];exact qH5 (zJ.V.mono this fun l' w' ⟨S',I',q⟩=>(show zA7 P N ds K (ops.drop n) (S'.keep ks ids) from q) c l' w' (I'.keep ks ids))
theorem zQw {id:Nat} {ops:List Oper} (h:∀ K:HS→Prop,(∀ S',Q .normal S'→K S')→zA7 P N (cT ops) K ops S):HW P N (.region id ops.toArray false) Q S:=fun c l w I =>
 qWa fun K hK=>by
  have:=h (Q .normal) (fun _ h=>h) c l w I
  exact (zJ.V.mono this fun l' w' h=>hK l' w' h)
end
end Go.Eng
end

section
namespace Go.Eng
open Go Go.RowKit
def nm (a b:Nat):Nat→Option Nat:=fun i=>if i=a then some b else if i=b then none else some i
def qVo (m:Nat→Option Nat):aM→aM
|[]=>[]
|(k,h) :: r=>(k,h.ren m) :: qVo m r
def qQx (a b:Nat):aD→aD
|[]=>[]
|(k,r) :: t=>(if k=a then b else k,r.ren (nm a b)) :: qQx a b t
def HS.name (S:HS) (a b:Nat):HS:=⟨qVo (nm a b) S.env,qQx a b S.st⟩
theorem qUy (m:Nat→Option Nat):∀ (l:aM) (k:Nat),hlk (qVo m l) k=(hlk l k).map (HV.ren m)
|[],k=>rfl
|(j,h) :: r,k=>by
  simp only [qVo,hlk];split
  ·rfl
  ·exact qUy m r k
theorem qTi {a b:Nat} (hab:a≠b):∀ (l:aD) (_:rlk l b=none) (k:Nat),rlk (qQx a b l) k=if k=b then (rlk l a).map (Row.ren (nm a b)) else if k=a then none else (rlk l k).map (Row.ren (nm a b))
|[],_,k=>by simp [qQx,rlk]
|(j,r) :: t,h,k=>by
  simp only [rlk] at h
  by_cases hj:j=b
  ·rw [if_pos hj] at h;cases h
  ·rw [if_neg hj] at h
   have ih:=qTi hab t h k
   simp only [qQx,rlk]
   by_cases e:j=a
   ·subst e;rw [if_pos rfl,if_pos rfl]
    by_cases e2:k=b
    ·subst e2;rw [if_pos rfl,if_pos rfl];rfl
    ·rw [if_neg (by omega),ih,if_neg e2,if_neg e2]
     by_cases e3:k=j
     ·rw [if_pos e3,if_pos e3]
     ·rw [if_neg e3,if_neg e3,if_neg (by omega)]
   ·rw [if_neg e,if_neg e]
    by_cases e2:j=k
    ·subst e2;rw [if_pos rfl,if_neg hj,if_neg e,if_pos rfl];rfl
    ·rw [if_neg e2,ih,if_neg e2]
section
variable {P:Program} {N:Nat} {x:Code} {Q:gE} {c:Ctx} {S S':HS} {look:Nat→Option Value} {w:World}
theorem Inv.name (I:Inv c S look w) {a b ty sz:Nat} {nw:Bool} {els:List (List FV)} (hab:a≠b) (hb:rlk S.st b=none) (ha:rlk S.st a=some (.sl nw ty sz els)):Inv c (S.name a b) look w:=by
 obtain ⟨ρ,xs,G⟩:=I
 let ρ':Nat→Value:=fun i=>if i=b then ρ a else ρ i
 let xs':Nat→List Value:=fun i=>if i=b then xs a else xs i
 have hm:∀ i j,nm a b i=some j→ρ' j=ρ i:=fun i j h=>by
  unfold nm at h
  by_cases e:i=a
  ·rw [if_pos e] at h;simp only [Option.some.injEq] at h;subst h;subst e;show (if b=b then _ else _)=_;rw [if_pos rfl]
  ·rw [if_neg e] at h
   by_cases e2:i=b
   ·rw [if_pos e2] at h;cases h
   ·rw [if_neg e2] at h;simp only [Option.some.injEq] at h;subst h;show (if i=b then _ else _)=_;rw [if_neg e2]
 have back:∀ i r,rlk (S.name a b).st i=some r→∃ j r0,nm a b j=some i∧rlk S.st j=some r0∧r=r0.ren (nm a b)∧xs' i=xs j:=by
  intro i r hi;simp only [HS.name,qTi hab _ hb] at hi
  by_cases e:i=b
  ·subst e;rw [if_pos rfl,ha] at hi;simp only [Option.map_some,Option.some.injEq] at hi;exact ⟨a,_,by simp [nm],ha,hi.symm,by show (if i=i then _ else _)=_;rw [if_pos rfl]⟩
  ·rw [if_neg e] at hi
   by_cases e2:i=a
   ·rw [if_pos e2] at hi;cases hi
   ·rw [if_neg e2] at hi
    cases hs:rlk S.st i with
   |none=>rw [hs] at hi;cases hi
   |some r0 =>
     rw [hs] at hi;simp only [Option.map_some,Option.some.injEq] at hi;exact ⟨i,r0,by simp [nm,e,e2],hs,hi.symm,by show (if i=b then _ else _)=_;rw [if_neg e]⟩
 have hA:∀ g,c.A ρ' (S.name a b).st g→c.A ρ S.st g:=by
  rintro g (h0|⟨i,r,hi,hg⟩)
  ·exact .inl h0
  ·obtain ⟨j,r0,h1,h2,-,-⟩:=back i r hi;rw [hm j i h1] at hg;exact .inr ⟨j,r0,h2,hg⟩
 have tr:∀ v y,RepH w (c.A ρ S.st) c.n0 ρ v y→RepH w (c.A ρ' (S.name a b).st) c.n0 ρ' v (y.ren (nm a b)):=fun v y h=>(h.up (Nat.le_refl _) (fun _ _ _=>rfl) (fun b _=>hA b) (Nat.le_refl _)).ren hm
 refine ⟨ρ',xs',fun i r hi=>?_,fun i j r s g hne hi hj hgi hgj=>?_,fun k y hk=>?_,G.kept,G.a0⟩
 ·obtain ⟨j,r0,h1,h2,rfl,h4⟩:=back i r hi
  have R:=G.rows j r0 h2
  obtain ⟨f1,f2,f3,f4⟩:=Row.ren_facts (nm a b) r0;rw [h4];refine ⟨by rw [f1,f2,f3,hm j i h1];exact R.own,?_,fun g hg=>by rw [f4];rw [hm j i h1] at hg;exact R.new g hg⟩
  have rp:=R.rep
  cases r0 with
 |sl nw ty sz els =>
   refine ⟨rp.1,fun p k hp hk=>?_⟩
   obtain ⟨u,u1,u2,u3⟩:=rp.2 p k hp hk;exact ⟨u,u1,u2,u3.up (Nat.le_refl _) (fun _ _ _=>rfl) (fun b _=>hA b) (Nat.le_refl _)⟩
 |bx nw ty cells =>
   refine ⟨?_,fun k hk=>?_⟩
   ·have hji:j=i:=by
     unfold nm at h1
     by_cases e:j=a
     ·subst e;rw [ha] at h2;cases h2
     ·rw [if_neg e] at h1
      by_cases e2:j=b
      ·rw [if_pos e2] at h1;cases h1
      ·rw [if_neg e2] at h1;exact Option.some.inj h1
    rw [hm j i h1];rw [← hji];exact rp.1
   ·rw [List.length_map] at hk;obtain ⟨u,u1,u2,u3⟩:=rp.2 k hk;refine ⟨u,u1,u2,?_⟩;rw [List.getElem_map];exact tr _ _ u3
 |hl nw ty sz els =>
   refine ⟨fun y hy=>?_,fun p k hp hk=>?_⟩
   ·obtain ⟨z,hz,rfl⟩:=List.mem_map.1 hy;rw [List.length_map];exact rp.1 z hz
   ·simp only [List.length_map] at hp;simp only [List.getElem_map,List.length_map] at hk ⊢;obtain ⟨u,u1,u2,u3⟩:=rp.2 p k hp hk;exact ⟨u,u1,u2,tr _ _ u3⟩
 ·obtain ⟨i',r0,h1,h2,-,-⟩:=back i r hi;obtain ⟨j',s0,h3,h4,-,-⟩:=back j s hj;rw [hm i' i h1] at hgi;rw [hm j' j h3] at hgj;exact G.apart i' j' r0 s0 g (fun e=>hne (by subst e;rw [h1] at h3;exact Option.some.inj h3)) h2 h4 hgi hgj
 ·simp only [HS.name,qUy] at hk
  cases hx0:hlk S.env k with
 |none=>rw [hx0] at hk;cases hk
 |some x0 =>
   rw [hx0] at hk;simp only [Option.map_some,Option.some.injEq] at hk;subst hk;obtain ⟨v,h1,h2⟩:=G.env k x0 hx0;exact ⟨v,h1,tr v x0 h2⟩
theorem qEc (a b:Nat) {ty sz:Nat} {nw:Bool} {els:List (List FV)} (hab:a≠b) (hb:rlk S.st b=none) (ha:rlk S.st a=some (.sl nw ty sz els)) (hs:S.name a b=S') (h:HW P N x Q S'):HW P N x Q S:=fun c l w I=>h c l w (hs ▸ I.name hab hb ha)
theorem zWi (id:Nat) {ty sz:Nat} {nw:Bool} {els:List (List FV)} (hr:rlk S.st id=some (.sl nw ty sz els)) (hs:(⟨S.env,jG id (.hl nw ty sz (els.map (List.map FV.h))) S.st⟩:HS)=S') (h:HW P N x Q S'):HW P N x Q S:=fun c l w I=>by
 subst hs;refine h c l w ?_;obtain ⟨ρ,xs,G⟩:=I
 have hl:=jN id (.hl nw ty sz (els.map (List.map FV.h))) S.st _ hr
 have hA:∀ b,c.A ρ (jG id (.hl nw ty sz (els.map (List.map FV.h))) S.st) b→c.A ρ S.st b:=by
  rintro b (h0|⟨i,s,hi,hb⟩)
  ·exact .inl h0
  ·rw [hl] at hi
   by_cases e:i=id
   ·subst e;exact .inr ⟨_,_,hr,hb⟩
   ·rw [if_neg e] at hi;exact .inr ⟨i,s,hi,hb⟩
 have back:∀ i r,rlk (jG id (.hl nw ty sz (els.map (List.map FV.h))) S.st) i=some r→∃ r0,rlk S.st i=some r0:=by
  intro i r hi;rw [hl] at hi
  by_cases e:i=id
  ·subst e;exact ⟨_,hr⟩
  ·rw [if_neg e] at hi;exact ⟨r,hi⟩
 refine ⟨ρ,xs,fun i r hi=>?_,fun i j r s b hne hi hj=>?_,fun k y hk=>?_,G.kept,G.a0⟩
 ·dsimp only at hi;rw [hl] at hi
  by_cases e:i=id
  ·subst e;rw [if_pos rfl] at hi;simp only [Option.some.injEq] at hi;subst hi
   have R:=G.rows i _ hr
   refine ⟨by simpa [Row.ty,Row.sz,Row.len] using R.own,⟨fun y hy=>?_,fun p k hp hk=>?_⟩,R.new⟩
   ·obtain ⟨z,hz,rfl⟩:=List.mem_map.1 hy;rw [List.length_map];exact R.rep.1 z hz
   ·simp only [List.length_map] at hp;simp only [List.getElem_map,List.length_map] at hk ⊢;obtain ⟨u,u1,u2,u3⟩:=R.rep.2 p k hp hk;exact ⟨u,u1,u2,(u3.up (Nat.le_refl _) (fun _ _ _=>rfl) (fun b _=>hA b) (Nat.le_refl _)).h⟩
  ·rw [if_neg e] at hi;exact (G.rows i r hi).up (Nat.le_refl _) (fun _ _ _=>rfl) (fun b _=>hA b) (fun _ _=>rfl)
 ·obtain ⟨r0,h1⟩:=back i r hi;obtain ⟨s0,h2⟩:=back j s hj;exact G.apart i j r0 s0 b hne h1 h2
 ·obtain ⟨v,h1,h2⟩:=G.env k y hk;exact ⟨v,h1,h2.up (Nat.le_refl _) (fun _ _ _=>rfl) (fun b _=>hA b) (Nat.le_refl _)⟩
end
theorem rR (e:aM) (s:aD) (a b:Nat):HS.name ⟨e,s⟩ a b=⟨qVo (nm a b) e,qQx a b s⟩:=rfl
theorem qF0 (a b i:Nat):nm a b i=if i=a then some b else if i=b then none else some i:=rfl
theorem oR (m:Nat→Option Nat):qVo m []=[]:=rfl
theorem lJ (m:Nat→Option Nat) (k:Nat) (h:HV) (r:aM):qVo m ((k,h) :: r)=(k,h.ren m) :: qVo m r:=rfl
theorem nY (a b:Nat):qQx a b []=[]:=rfl
theorem lD (a b k:Nat) (r:Row) (t:aD):qQx a b ((k,r) :: t)=(if k=a then b else k,r.ren (nm a b)) :: qQx a b t:=rfl
end Go.Eng
end
