/-
  The engine of values: texts Rel, Hr, Hk, Hl, Hlo, He, Enc, Ste, Met, Spl, Nam, laid together.
-/
import Derived.Test.YtbdomkfdkfdfgaaGreatDoorEng
import Derived.Test.YtbdomkfdkfdfgaaGreatDoorGb
set_option linter.unusedSimpArgs false
set_option linter.unusedVariables false
section
namespace Go.Eng
open Go Go.RowKit
section
variable {P:Program} {N:Nat} {C:World→Prop} {ops:List Oper} {n:Nat} {l:Env} {R:Nat→Value→World→Prop}
def fU (l:Env) (ops:List Oper) (vs:Nat→Value):Nat→Env
|0=>l
|i + 1=>stp (aK ops i) (vs i) (fU l ops vs i)
def DLt (N:Nat) (ops:List Oper) (n:Nat):Prop:=∀ i t,i < n→aK ops i=some t→t < N
variable {vs:Nat→Value}
theorem xD (hl:DLt N ops n) (hk:aZ N l=true):∀ i,i≤n→aZ N (fU l ops vs i)=true
|0,_=>hk
|i + 1,hi=>iE (xD hl hk i (by omega)) (fun k e=>hl i k (by omega) e)
theorem kK (base:Array Value) (t:Nat):∀ i,(∀ j,j < i→aK ops j≠some t) →
  lk (fU l ops vs i) t=lk l t∧(iK base (fU l ops vs i))[t]?=(iK base l)[t]?
|0,_=>⟨rfl,rfl⟩
|i + 1,h=>by
  obtain ⟨h1,h2⟩:=kK base t i (fun j hj=>h j (by omega))
  have hne:=h i (by omega)
  simp only [fU]
  cases hd:aK ops i with
 |none=>exact ⟨h1,h2⟩
 |some d =>
   have:d≠t:=fun e=>hne (by rw [hd,e])
   simp only [stp,lk,iK,if_neg this];exact ⟨h1,by rw [Array.getElem?_setIfInBounds_ne this];exact h2⟩
theorem jD (hl:DLt N ops n) {base:Array Value} (hbase:base.size=N) {t j:Nat} (hj:aK ops j=some t) (huniq:∀ k,k < n→k≠j→aK ops k≠some t):∀ i,i≤n→j < i →
  lk (fU l ops vs i) t=some (vs j)∧(iK base (fU l ops vs i))[t]?=some (vs j)
|0,_,h=>absurd h (Nat.not_lt_zero _)
|i + 1,hi,h=>by
  simp only [fU]
  by_cases e:j=i
  ·subst e;rw [hj];simp only [stp,lk,iK,if_true,true_and];rw [Array.getElem?_setIfInBounds_self_of_lt (by rw [jQ,hbase];exact hl j t (by omega) hj)]
  ·obtain ⟨h1,h2⟩:=jD hl hbase hj huniq i (by omega) (by omega)
   have hne:=huniq i (by omega) (Ne.symm e)
   cases hd:aK ops i with
  |none=>exact ⟨h1,h2⟩
  |some d =>
    have:d≠t:=fun e=>hne (by rw [hd,e])
    simp only [stp,lk,iK,if_neg this];exact ⟨h1,by rw [Array.getElem?_setIfInBounds_ne this];exact h2⟩
theorem qSs {keys:List Nat} (ok:RegOk keys ops n) (F:Fr N) (hk:aZ N l=true) (bH:∀ t ∈ keys,∃ v,lk l t=some v) (hlt:DLt N ops n)
  {Le:Nat→World→World→Prop} (hLe:∀ i w,Le i w w) (hS:∀ j i u w w',j < n→i < n→j≠i→C w→R j u w→Le i w w'→R j u w')
  (H:∀ i o,i < n→ops[i]?=some o→∀ (vs:Nat→Value) (w:World),C w→(∀ j t,j < i→aK ops j=some t→t ∈ o.looksAt ops.toArray→R j (vs j) w) →
   ∃ b,gd (fU l ops vs i) (bW ops) o.guard (·=b)∧(b=true→Yields P (execOp (evD (fU l ops vs i)) o) w fun u w'=>R i u w'∧C w'∧Le i w w')∧(b=false→R i undef w))
  {Q:Exit→Act→World→Prop} (hT:∀ (vs:Nat→Value) (w:World),C w→(∀ j,j < n→R j (vs j) w)→wpListIn (FW F.ds.2) 0 P ops.toArray Q (ops.drop n) (mk F (fU l ops vs n)) w) :
  ∀ (fuel:Nat) (listed:Array Bool) (a:Act) (w:World) (vs:Nat→Value),unl listed=fuel→Mid N C ops n (iK F.base l) F.ds.1 vs listed a w→(∀ j,j < n→listed.getD j false=true→R j (vs j) w)→wpAnyIn (FW F.ds.2) 0 P .any ops.toArray Q fuel listed a w:=by
 have uniq:∀ i j t,i < n→j < n→aK ops i=some t→aK ops j=some t→i=j:=by
  intro i j t hi hj h1 h2
  rcases Nat.lt_trichotomy i j with h|h|h
  ·rcases ok.uniq j i hj h with e|e
   ·rw [h2] at e;cases e
   ·exact absurd (h2.trans h1.symm) e
  ·exact h
  ·rcases ok.uniq i j hi h with e|e
   ·rw [h1] at e;cases e
   ·exact absurd (h1.trans h2.symm) e
 have final:∀ (listed:Array Bool) (a:Act) (w:World) (vs:Nat→Value),Mid N C ops n (iK F.base l) F.ds.1 vs listed a w→(∀ j,j < n→listed.getD j false=true)→a=mk F (fU l ops vs n):=by
  intro listed a w vs M hall;obtain ⟨tm,df⟩:=a
  have hd:df=F.ds.1:=M.defers
  subst hd;show Act.mk _ _=Act.mk _ _
  congr 1
  apply Array.ext_getElem?
  intro t
  by_cases h:∃ j,j < n∧aK ops j=some t
  ·obtain ⟨j,hj,hd⟩:=h
   have h1:=M.new j t hj (hall j hj) hd
   have h2:=(jD (l:=l) (vs:=vs) hlt F.hN hd (fun k hk hne e=>hne (uniq k j t hk hj e hd)) n (Nat.le_refl _) hj).2
   exact h1.trans h2.symm
  ·have h':∀ j,j < n→aK ops j≠some t:=fun j hj e=>h ⟨j,hj,e⟩
   have h1:=M.old t (fun j hj _=>h' j hj)
   have h2:=(kK (l:=l) (vs:=vs) F.base t n h').2
   exact h1.trans h2.symm
 have slot:∀ (listed:Array Bool) (a:Act) (w:World) (vs:Nat→Value) (i:Nat) (o:Oper) (t:Nat),Mid N C ops n (iK F.base l) F.ds.1 vs listed a w→i < n→ops[i]?=some o→i ∈ Region.ready .any ops.toArray listed→t ∈ o.looksAt ops.toArray →
   ∃ X,a.tmps[t]?=some X∧lk (fU l ops vs i) t=some X:=by
  intro listed a w vs i o t M hi ho hr ht;obtain ⟨l1,l2⟩:=ok.looks i o t hi ho ht
  by_cases h:∃ j,j < n∧aK ops j=some t
  ·obtain ⟨j,hj,hd⟩:=h;obtain ⟨hji,he⟩:=l1 j hj hd;exact ⟨vs j,M.new j t hj (eB hr he) hd,(jD (l:=l) (vs:=vs) hlt F.hN hd (fun k hk hne e=>hne (uniq k j t hk hj e hd)) i (by omega) hji).1⟩
  ·have h':∀ j,j < n→aK ops j≠some t:=fun j hj e=>h ⟨j,hj,e⟩
   rcases l2 with ⟨j,hj,hd⟩|hkey
   ·exact absurd hd (h' j (by omega))
   ·obtain ⟨v,hv⟩:=bH t hkey;refine ⟨v,?_,?_⟩
    ·rw [M.old t (fun j hj _=>h' j hj)];exact jC F hk hv
    ·rw [(kK (l:=l) (vs:=vs) F.base t i (fun j hj=>h' j (by omega))).1];exact hv
 intro fuel
 induction fuel with
|zero =>
  intro listed a w vs hu M MR
  have hall:∀ j,j < ops.length→listed.getD j false=true:=fun j hj=>qH0 hu (by rw [M.size];exact hj)
  have hn:n=ops.length:=by
   rcases Nat.lt_or_ge n ops.length with h|h
   ·have:=M.heads n (hall n h);omega
   ·have:=ok.hn;omega
  have ha:=final listed a w vs M (fun j hj=>hall j (by omega))
  subst ha;exact oT ok 0 n listed _ w (by omega) (Nat.le_refl _) M.size (fun i hi=>⟨fun _=>by omega,fun _=>hall i hi⟩) (hT vs w M.cls fun j hj=>MR j hj (hall j (by omega)))
|succ fuel ih =>
  intro listed a w vs hu M MR
  by_cases hdone:∀ j,j < n→listed.getD j false=true
  ·have ha:=final listed a w vs M hdone
   subst ha
   have hcount:∀ (m:Nat) (x:Array Bool),x.size=ops.length→(∀ i,i < ops.length→(x.getD i false=true↔i < m))→m≤ops.length→m + unl x=ops.length:=by
    intro m;generalize hd:ops.length - m=d
    induction d generalizing m with
   |zero =>
     intro x hx hl hm
     have:unl x=0:=by
      unfold unl;rw [List.length_eq_zero_iff,List.filter_eq_nil_iff];intro b hb;obtain ⟨i,hi,rfl⟩:=List.getElem_of_mem hb
      have hi':i < x.size:=by simpa using hi
      have:=(hl i (by omega)).2 (by omega)
      simp only [Array.getD,hi',dite_true] at this;simp [show x.toList[i]=true from this]
     omega
   |succ d ihd =>
     intro x hx hl hm
     have hmlt:m < ops.length:=by omega
     have h0:x.getD m true=false:=by
      have:¬ x.getD m false=true:=fun e=>by have:=(hl m hmlt).1 e;omega
      have hm':m < x.size:=by omega
      simp only [Array.getD,hm',dite_true] at this ⊢
      simpa using this
     have:=ihd (m + 1) (by omega) (x.setIfInBounds m true) (by simpa using hx) (fun i hi=>by
      by_cases e:m=i
      ·subst e
       have:m < x.size:=by omega
       simp [this]
      ·rw [getD_set_ne false e,hl i hi];omega) (by omega)
     have:=wJ h0
     omega
   have hl:∀ i,i < ops.length→(listed.getD i false=true↔i < n):=fun i hi=>⟨M.heads i,hdone i⟩
   have:=hcount n listed M.size hl ok.hn
   exact oT ok (fuel + 1) n listed _ w (by omega) (Nat.le_refl _) M.size hl (hT vs w M.cls fun j hj=>MR j hj (hdone j hj))
  ·have hex:∃ j,j < n∧listed.getD j false≠true:=by
    refine Classical.byContradiction fun hne=>hdone fun j hj=>?_
    refine Classical.byContradiction fun h=>hne ⟨j,hj,h⟩
   have hn:=ok.hn
   have hready:∃ j,j ∈ Region.ready .any ops.toArray listed:=by
    obtain ⟨j,hj,hjl⟩:=hex
    have:∀ d j,j=d→j < n→listed.getD j false≠true→∃ j,j ∈ Region.ready .any ops.toArray listed:=by
     intro d
     induction d using Nat.strongRecOn with
    |_ d ihd =>
      intro j hd hj hjl;subst hd
      have ho:ops[j]?=some (ops[j]'(by omega)):=List.getElem?_eq_getElem _
      by_cases hall:∀ e ∈ (ops[j]'(by omega)).after,Region.binds .any e=true→listed.getD e.on false=true
      ·refine ⟨j,mem_ready.2 ⟨?_,ops[j]'(by omega),by simp,hall⟩⟩
       have h2:j < listed.size:=by rw [M.size];omega
       simp only [Array.getD,h2,dite_true] at hjl ⊢
       simpa using hjl
      ·have:∃ e ∈ (ops[j]'(by omega)).after,Region.binds .any e=true∧listed.getD e.on false≠true:=by
        refine Classical.byContradiction fun hne=>hall fun e he hb=>?_
        refine Classical.byContradiction fun h=>hne ⟨e,he,hb,h⟩
       obtain ⟨e,he,hb,hl⟩:=this
       have hlt:=ok.down j _ e ho he hb
       exact ihd e.on hlt e.on rfl (by omega) hl
    exact this j j rfl hj hjl
   obtain ⟨j0,hj0⟩:=hready;refine ⟨fun h0=>absurd hj0 (by rw [h0];simp),fun i hi=>?_⟩
   obtain ⟨hun,o,ho,hall⟩:=mem_ready.1 hi
   have ho':ops[i]?=some o:=by simpa using ho
   have hilt:i < ops.length:=(List.getElem?_eq_some_iff.1 ho').1
   have hin:i < n:=by
    rcases Nat.lt_or_ge i n with h|h
    ·exact h
    ·exfalso
     apply hdone
     have key:∀ d j,i - j=d→j < i→listed.getD j false=true:=by
      intro d
      induction d using Nat.strongRecOn with
     |_ d ihd =>
       intro j hd hji;obtain ⟨k,hk1,hk2,hk3⟩:=ok.tail i j hilt h hji
       rcases Nat.lt_or_ge k i with hki|hki
       ·exact M.clos k j (ihd (i - k) (by omega) k rfl hki) hk3
       ·have:k=i:=by omega
        subst this;exact eB hi hk3
     exact fun j hj=>key _ j rfl (by omega)
   have hu':unl (listed.setIfInBounds i true)=fuel:=by have:=wJ hun;omega
   have hdi:aK ops i=o.dst:=by unfold aK;rw [ho'];rfl
   have hlt':hU N o.dst:=by
    cases hd:o.dst with
   |none=>trivial
   |some t=>exact hlt i t hin (hdi.trans hd)
   let nxt:Value→Nat→Value:=fun u j=>if j=i then u else vs j
   have nxt_i:∀ u,nxt u i=u:=fun u=>if_pos rfl
   have nxt_ne:∀ u j,j≠i→nxt u j=vs j:=fun u j h=>if_neg h
   have rest:∀ u w',R i u w'→Le i w w'→∀ j,j < n→(listed.setIfInBounds i true).getD j false=true→R j (nxt u j) w':=by
    intro u w' hu hB j hj hl
    by_cases e:j=i
    ·subst e;rw [nxt_i];exact hu
    ·rw [nxt_ne u j e];rw [getD_set_ne false (Ne.symm e)] at hl;exact hS j i _ w w' hj hin e M.cls (MR j hj hl) hB
   have step:∀ u w',C w'→Mid N C ops n (iK F.base l) F.ds.1 (nxt u) (listed.setIfInBounds i true) (a.put o.dst u) w':=by
    intro u w' hC
    have hlt:=hlt'
    have hset:∀ j,(listed.setIfInBounds i true).getD j false=true→j=i∨listed.getD j false=true:=by
     intro j h
     by_cases e:i=j
     ·exact .inl e.symm
     ·rw [getD_set_ne false e] at h;exact .inr h
    have hseti:(listed.setIfInBounds i true).getD i false=true:=by
     have:i < listed.size:=by rw [M.size];exact hilt
     simp [this]
    refine ⟨by simpa using M.size,?_,?_,?_,?_,?_,?_,hC⟩
    ·intro k j hk he
     rcases hset k hk with rfl|hk
     ·exact getD_set_true (eB hi he)
     ·exact getD_set_true (M.clos k j hk he)
    ·intro k hk
     rcases hset k hk with rfl|hk
     ·exact hin
     ·exact M.heads k hk
    ·cases hd:o.dst <;> exact M.defers
    ·cases hd:o.dst with
    |none=>exact M.tsize
    |some d=>simp only [Act.put,Array.size_setIfInBounds];exact M.tsize
    ·intro j t hj hjl hd
     rcases hset j hjl with rfl|hjl'
     ·rw [hdi] at hd;rw [hd] at hlt ⊢;simp only [Act.put];rw [Array.getElem?_setIfInBounds_self_of_lt (by rw [M.tsize];exact hlt),nxt_i]
     ·by_cases e:j=i
      ·subst e;rw [hdi] at hd;rw [hd] at hlt ⊢;simp only [Act.put];rw [Array.getElem?_setIfInBounds_self_of_lt (by rw [M.tsize];exact hlt),nxt_i]
      ·rw [nxt_ne u j e]
       have h1:=M.new j t hj hjl' hd
       cases hdo:o.dst with
      |none=>exact h1
      |some d =>
        have hne:d≠t:=fun e'=>e (uniq j i t hj hin hd (by rw [hdi,hdo,e']))
        simp only [Act.put];rw [Array.getElem?_setIfInBounds_ne hne];exact h1
    ·intro t ht
     have h1:=M.old t (fun j hj hjl=>ht j hj (getD_set_true hjl))
     have h2:=ht i hin hseti
     rw [hdi] at h2
     cases hdo:o.dst with
    |none=>exact h1
    |some d =>
      have hne:d≠t:=fun e'=>h2 (by rw [hdo,e'])
      simp only [Act.put];rw [Array.getElem?_setIfInBounds_ne hne];exact h1
   obtain ⟨b,hb,hbt,hbf⟩:=H i o hin ho' vs w M.cls fun j t hj hd ht=>by
    obtain ⟨l1,-⟩:=ok.looks i o t hin ho' ht;exact MR j (by omega) (eB hi (l1 j (by omega) hd).2)
   have hw:Region.wanted o (yielded ops.toArray a.tmps)=b:=by
    unfold gd at hb;split at hb
    ·rename_i hg;simp only [Region.wanted,hg];exact hb
    ·rename_i g want hg;split at hb
     ·rename_i d hd;split at hb
      ·rename_i bb hbb
       have hdd:aK ops g=some d:=by
        unfold aK;simp only [bW,List.getElem?_map,Option.map_eq_some_iff] at hd;obtain ⟨x,hx,hx'⟩:=hd;simp [hx,hx']
       obtain ⟨X,hX1,hX2⟩:=slot listed a w vs i o d M hin ho' hi (iD hg hdd);rw [hbb] at hX2
       cases hX2
       have:yielded ops.toArray a.tmps g=some bb:=by
        unfold yielded;unfold aK at hdd;simp only [List.getElem?_toArray,hdd,Option.bind_some,hX1]
       simp only [Region.wanted,hg,this];rw [← hb]
       cases bb <;> cases want <;> rfl
      ·rename_i bb hnb hbb
       have hdd:aK ops g=some d:=by
        unfold aK;simp only [bW,List.getElem?_map,Option.map_eq_some_iff] at hd;obtain ⟨x,hx,hx'⟩:=hd;simp [hx,hx']
       obtain ⟨X,hX1,hX2⟩:=slot listed a w vs i o d M hin ho' hi (iD hg hdd);rw [hbb] at hX2
       cases hX2
       have:yielded ops.toArray a.tmps g=none:=by
        unfold yielded;unfold aK at hdd;simp only [List.getElem?_toArray,hdd,Option.bind_some,hX1];split
        ·rename_i b' e;cases e;exact (hnb b' rfl).elim
        ·rfl
       simp only [Region.wanted,hg,this];rw [← hb];rfl
      ·exact hb.elim
     ·exact hb.elim
   unfold wpOpIn;simp only [ho,hw]
   cases b with
  |true =>
    simp only [if_true];refine (eP ?_)
    have hcong:execOp a.eval o=execOp (evD (fU l ops vs i)) o:=by
     refine execOp_congr o (ok.sel i o ho') (fun x hx=>?_)
     cases x with
    |tmp t =>
      obtain ⟨X,hX1,hX2⟩:=slot listed a w vs i o t M hin ho' hi (rZ hx);simp [Act.eval,evD,ev,hX1,hX2]
    |const c=>rfl
    |global g=>rfl
    |func f=>rfl
    rw [hcong];exact (hbt rfl).mono fun u w' ⟨hu,hC,hB⟩=>ih _ _ _ _ hu' (step u w' hC) (rest u w' hu hB)
  |false =>
    simp only [Bool.false_eq_true,if_false];exact ⟨fun _ _=>trivial,ih _ _ _ _ hu' (step undef w M.cls) (rest undef w (hbf rfl) (hLe i w))⟩
end
section
variable {P:Program} {N:Nat} {Q:xW} {l:Env} {w:World}
theorem zLr {id:Nat} {ops:List Oper} (keys:List Nat) (n:Nat) (hm:P.follows .mixedOrders=true) (bH:pZ l=keys) (hok:vE keys ops n=true) (hlt:DLt N ops n)
  {C:World→Prop} {R:Nat→Value→World→Prop} (hC:C w.drew) {Le:Nat→World→World→Prop} (hLe:∀ i w,Le i w w) (hS:∀ j i u w w',j < n→i < n→j≠i→C w→R j u w→Le i w w'→R j u w')
  (H:∀ i o,i < n→ops[i]?=some o→∀ (vs:Nat→Value) (w:World),C w→(∀ j t,j < i→aK ops j=some t→t ∈ o.looksAt ops.toArray→R j (vs j) w) →
   ∃ b,gd (fU l ops vs i) (bW ops) o.guard (·=b)∧(b=true→Yields P (execOp (evD (fU l ops vs i)) o) w fun u w'=>R i u w'∧C w'∧Le i w w')∧(b=false→R i undef w))
  (hT:∀ (vs:Nat→Value) (w:World),C w→(∀ j,j < n→R j (vs j) w)→VC P N (bW ops) (fun l' w'=>Q .normal l' w') (ops.drop n) (fU l ops vs n) w):W P N (.region id ops.toArray true) Q l w:=fun hk F=>by
 have ok:=oF hok
 refine wpIn_region_any hm ?_
 have:=qSs ok F hk (fun t ht=>sC (by rw [bH];exact ht)) hlt hLe hS H (Q:=qZx N F.ds Q)
  (fun vs w' hw' hR=>tC F (K:=fun l w=>Q .normal l w) (fun l' w' hk' hK=>⟨F,l',rfl,rfl,hk',hK⟩) _ _ _ (xD hlt hk n (Nat.le_refl _)) (hT vs w' hw' hR))
  ops.length (Array.replicate ops.length false) (mk F l) w.drew (fun _=>undef) (lQ _)
  ⟨by simp,(fun i j hi=>by rw [getD_replicate_false] at hi;cases hi),(fun i hi=>by rw [getD_replicate_false] at hi;cases hi),rfl,by simp [mk,jQ,F.hN],(fun j t _ hl=>by rw [getD_replicate_false] at hl;cases hl),fun t _=>rfl,hC⟩
  (fun j _ hl=>by rw [getD_replicate_false] at hl;cases hl)
 simpa using this
theorem zLq {id:Nat} {ops:List Oper} (keys:List Nat) (n:Nat) (hm:P.follows .mixedOrders=true) (bH:pZ l=keys) (hok:vE keys ops n=true) (hlt:DLt N ops n)
  {C:World→Prop} {R:Nat→Value→World→Prop} (hC:C w.drew) (hS:∀ i u w w',C w→R i u w→Below w.heap.size w w'→R i u w')
  (H:∀ i o,i < n→ops[i]?=some o→∀ (vs:Nat→Value) (w:World),C w→(∀ j t,j < i→aK ops j=some t→t ∈ o.looksAt ops.toArray→R j (vs j) w) →
   ∃ b,gd (fU l ops vs i) (bW ops) o.guard (·=b)∧(b=true→Yields P (execOp (evD (fU l ops vs i)) o) w fun u w'=>R i u w'∧C w'∧Below w.heap.size w w')∧(b=false→R i undef w))
  (hT:∀ (vs:Nat→Value) (w:World),C w→(∀ j,j < n→R j (vs j) w)→VC P N (bW ops) (fun l' w'=>Q .normal l' w') (ops.drop n) (fU l ops vs n) w):W P N (.region id ops.toArray true) Q l w :=
 zLr keys n hm bH hok hlt hC (Le:=fun _ w w'=>Below w.heap.size w w') (fun _ w=>Below.refl _ _) (fun j _ u w w' _ _ _ hc hr hb=>hS j u w w' hc hr hb) H hT
end
end Go.Eng
end

section
namespace Go.Eng
open Go Go.RowKit

def bR:Operand→List Nat
|.tmp t=>[t]
|_=>[]
def tK:List Operand→List Nat
|[]=>[]
|x :: r=>bR x ++ tK r
def mP:List (Nat × Operand)→List Nat
|[]=>[]
|(_,x) :: r=>bR x ++ mP r
def qF4:Option Operand→List Nat
|some x=>bR x
|none=>[]
def qJj:Callee→List Nat
|.value x=>bR x
|_=>[]
def bK:Op→List Nat
|.move x=>bR x
|.assign x=>bR x
|.nilCheck x=>bR x
|.pick c a b=>bR c ++ (bR a ++ bR b)
|.extract x _=>bR x
|.field _ x _=>bR x
|.fieldAddr _ x _=>bR x
|.load _ x=>bR x
|.unOp _ _ x=>bR x
|.convert _ _ x=>bR x
|.indexAddr _ x i=>bR x ++ bR i
|.index _ x i=>bR x ++ bR i
|.slice _ x l h none=>bR x ++ (qF4 l ++ qF4 h)
|.binOp _ _ x y _=>bR x ++ bR y
|.build _ ps=>mP ps.toList
|.buildSlice _ _ ps=>mP ps.toList
|.makeSlice _ x y=>bR x ++ bR y
|.call ⟨k,args,_⟩=>qJj k ++ tK args.toList
|_=>[]
theorem gR {x:Operand} {t:Nat} (h:t ∈ bR x):x=.tmp t:=by
 cases x <;> simp [bR] at h
 subst h;rfl
theorem qJi:∀ {l:List Operand} {t:Nat},t ∈ tK l→Operand.tmp t ∈ l
|[],t,h=>by simp [tK] at h
|x :: r,t,h=>by
  simp only [tK,List.mem_append] at h
  rcases h with h|h
  ·rw [gR h];exact List.mem_cons_self ..
  ·exact List.mem_cons_of_mem _ (qJi h)
theorem qAr:∀ {l:List (Nat × Operand)} {t:Nat},t ∈ mP l→Operand.tmp t ∈ l.map (·.2)
|[],t,h=>by simp [mP] at h
|(k,x) :: r,t,h=>by
  simp only [mP,List.mem_append] at h
  rcases h with h|h
  ·rw [List.map_cons,gR h];exact List.mem_cons_self ..
  ·rw [List.map_cons];exact List.mem_cons_of_mem _ (qAr h)
theorem qQa {x:Option Operand} {t:Nat} (h:t ∈ qF4 x):x=some (.tmp t):=by
 cases x with
|none=>simp [qF4] at h
|some x=>rw [gR h]
theorem qU8 {o:Op} {t:Nat} (h:t ∈ bK o):Operand.tmp t ∈ o.operands:=by
 unfold bK at h;split at h
 all_goals try simp only [List.mem_append] at h
 case h_13=>
  simp only [Op.operands]
  rcases h with h|h|h
  ·rw [gR h];simp
  ·rw [qQa h];simp
  ·rw [qQa h];simp
 case h_15=>simpa [Op.operands] using qAr h
 case h_16=>simpa [Op.operands] using qAr h
 case h_18 =>
  simp only [Op.operands,Call.operands,Array.mem_append]
  rcases h with h|h
  ·refine .inl ?_;unfold qJj at h;split at h
   ·rw [gR h];simp
   ·simp at h
  ·exact .inr (by simpa using qJi h)
 case h_19=>simp at h
 all_goals
  simp only [Op.operands]
  first
 |(rw [gR h];simp;done)
 |(rcases h with h|h <;> (rw [gR h];simp))
 |(rcases h with h|h|h <;> (rw [gR h];simp))
def gK (ds:List (Option Nat)):Option (Nat × Bool)→List Nat
|none=>[]
|some (g,_)=>match ds[g]? with
 |some (some d)=>[d]
 |_=>[]
def iY (e:aJ):List Nat→aJ
|[]=>[]
|t :: r=>match hlk e t with
 |some h=>(t,h) :: iY e r
 |none=>iY e r
theorem rV {e:aJ}:∀ {l:List Nat} {t:Nat} {h:HV},hlk (iY e l) t=some h→t ∈ l∧hlk e t=some h
|[],t,h,hh=>by simp [iY,hlk] at hh
|k :: r,t,h,hh=>by
  simp only [iY] at hh;split at hh
  ·rename_i x hx;simp only [hlk] at hh
   by_cases ek:k=t
   ·subst ek;rw [if_pos rfl] at hh;exact ⟨List.mem_cons_self ..,by rw [hx];exact hh⟩
   ·rw [if_neg ek] at hh;obtain ⟨a,b⟩:=rV hh;exact ⟨List.mem_cons_of_mem _ a,b⟩
  ·obtain ⟨a,b⟩:=rV hh;exact ⟨List.mem_cons_of_mem _ a,b⟩
def zLz (P:Program) (f:FuncId) (args:List HV) (T:HS) (K:HV→Prop):Prop :=
 aE P f=true∧∃ h,K h∧∀ (c:Ctx) (look:Nat→Option Value) (w:World) (ρ:Nat→Value) (xs:Nat→List Value) (vs:List Value),Good c T look w ρ xs→uL w (c.A ρ T.st) c.n0 ρ vs args →
  Calls P f vs.toArray w (Ret fun u w'=>RepH w' (c.A ρ T.st) c.n0 ρ u h∧Below w.heap.size w w')
def kX:aJ→Bool
|[]=>true
|(_,.v _) :: r=>kX r
|(_,.lst _ _) :: r=>kX r
|(_,.agg _) :: r=>kX r
|_=>false
def zEe (d:Option Nat) (S:HS) (K:HS→Prop):HOut→Prop
|.go c (.own i) S'=>match rlk S'.st i with
 |some (.sl _ _ _ els)=>c∧K (S.set d (.lst true els))
 |_=>False
|_=>False
def zJb:Op→Bool
|.buildSlice ..=>true
|.makeSlice ..=>true
|_=>false
def xU (P:Program) (o:Oper) (S T:HS) (K:HS→Prop):HOut→Prop
|.go c h _=>match dN o.op with
 |true=>c∧K (S.set o.dst h)
 |false=>match zJb o.op && kX T.env with
  |true=>zEe o.dst S K (hop P ⟨T.env,[]⟩ (oK o.dst) o.op)
  |false=>False
|.call f args=>zLz P f args T (fun x=>kN K (S.set o.dst x))
|.eqn t x y neg=>∃ r,EqR P t x.toArray y.toArray r∧kN K (S.set o.dst (.v (.bool (neg ^^ r))))
|.bytes _ _=>False
|.bad=>False
def zAw (P:Program) (N:Nat) (o:Oper) (S T:HS) (K:HS→Prop):Prop:=match eU N o.dst with
|true=>xU P o S T K (hop P T (oK o.dst) o.op)
|false=>False
def iH (P:Program) (N:Nat) (o:Oper) (S T:HS) (K:HS→Prop):GOut→Prop
|.yes=>zAw P N o S T K
|.no=>kP N o.dst S K
|.ask d b want=>match b == want with
 |true=>zAw P N o (S.rep d (.v (.bool want))) (T.rep d (.v (.bool want))) K
 |false=>kP N o.dst (S.rep d (.v (.bool (!want)))) K
|.bad=>False
def HVr (P:Program) (N:Nat) (ds:List (Option Nat)) (K:HS→Prop):List Oper→HS→Prop
|[],S=>K S
|o :: rest,S=>iH P N o S ⟨iY S.env (gK ds o.guard ++ bK o.op),S.st⟩ (HVr P N ds K rest) (hG (iY S.env (gK ds o.guard ++ bK o.op)) ds o.guard)
end Go.Eng
end

section
namespace Go.Eng
open Go Go.RowKit
section
variable {P:Program} {N:Nat} {c:Ctx} {S T:HS} {Q:fH} {l:Env} {look:Nat→Option Value} {w w':World} {ρ:Nat→Value} {xs:Nat→List Value} {K:HS→Prop}
theorem RepH.above {A:Nat→Prop} {n0:Nat} {v:Value} {x:HV} (h:RepH w A n0 ρ v x) (B:Below w.heap.size w w'):RepH w' A n0 ρ v x:=h.up B.size (fun b hlt _=>B.block b hlt) (fun b _ h=>h) (Nat.le_refl _)
theorem lJ {d:Nat} {h:HV}:∀ {E:aJ},hlk E d=some h→∀ k,hlk (rD d h E) k=hlk E k
|[],e,k=>by simp [hlk] at e
|(j,x) :: r,e,k=>by
  simp only [hlk] at e;simp only [rD]
  by_cases ej:j=d
  ·rw [if_pos ej] at e ⊢;simp only [Option.some.injEq] at e;subst e;rfl
  ·rw [if_neg ej] at e ⊢;simp only [hlk,lJ e k]
theorem Good.sameEnv {E:aJ} {st:aB} (G:Good c ⟨E,st⟩ look w ρ xs) {E':aJ} (h:∀ k,hlk E' k=hlk E k):Good c ⟨E',st⟩ look w ρ xs:=⟨G.rows,G.apart,fun k x hk=>G.env k x (by rw [← h k];exact hk),G.kept,G.a0⟩
theorem qZa (G:Good c T (lk l) w ρ xs) {id i:Nat} {o:Op} {ty:TypeId} {cnd:Prop} {S':HS} (hp:kX T.env=true) (h:hop P ⟨T.env,[]⟩ id o=.go cnd (.own i) S') {nw:Bool} {t sz:Nat} {els:List (List FV)} (hr:rlk S'.st i=some (.sl nw t sz els)) (hc:cnd) :
  aR P l o ty w (fun u w'=>RepH w' (c.A ρ T.st) c.n0 ρ u (.lst true els)∧Below w.heap.size w w') (fun u w'=>RepH w' (c.A ρ T.st) c.n0 ρ u (.lst true els)∧Below w.heap.size w w'):=by
 have hA:∀ b,c.A ρ T.st b→b < w.heap.size:=by
  rintro b (h0|⟨i,r,hi,hb⟩)
  ·have:=(G.a0 b h0).1;have:=G.kept.size;omega
  ·exact G.lt hi hb
 have G2:Good ⟨w,fun _=>False,c.A ρ T.st,c.n0,Nat.le_trans c.hn G.kept.size,fun _ _=>False⟩ ⟨T.env,[]⟩ (lk l) w ρ xs:=by
  refine ⟨fun id r hr=>by simp [rlk] at hr,fun i j r s b hne hi=>by simp [rlk] at hi,fun k x hk=>?_,Kept.refl _ _,fun b hb=>⟨hA b hb,fun h=>h⟩⟩
  obtain ⟨u,h1,h2⟩:=G.env k _ hk;refine ⟨u,h1,h2.up (Nat.le_refl _) (fun _ _ _=>rfl) (fun b _ hb=>?_) (Nat.le_refl _)⟩
  rcases hb with hb|⟨i,r,hi,-⟩
  ·exact hb
  ·simp [rlk] at hi
 refine bB (qP6 G2 (bJ _ _) h hc) fun u w' ⟨ρ2,xs2,G3,r⟩=>?_
 have B:Below w.heap.size w w':=G3.kept.below (fun _ _ h=>h)
 refine ⟨?_,B⟩
 cases r
 obtain ⟨o1,o2,o3⟩:=cM G3 hr
 have R0:=G3.rows i _ hr
 refine .lst (wS o1 o2 (fun p k hp hk=>?_) (fun b hb=>?_))
 ·obtain ⟨u,a,b,d⟩:=o3 p k hp hk;exact ⟨u,a,b,d.up (Nat.le_refl _) (fun _ _ _=>rfl) (fun b _ h=>.inl h) (Nat.le_refl _)⟩
 ·rcases (R0.new b hb).1 with h|h
  ·have h:w.heap.size≤b:=h
   exact ⟨fun hA'=>by have:=hA b hA';omega,fun _=>by have:=c.hn;have:=G.kept.size;omega⟩
  ·exact h.elim
theorem xT {o:Oper} (h:zAw P N o S T K):hU N o.dst∧∃ x,K (S.set o.dst x)∧∀ (c:Ctx) (l:Env) (w:World) (ρ:Nat→Value) (xs:Nat→List Value),Good c T (lk l) w ρ xs →
  aR P l o.op o.type w (fun u w'=>RepH w' (c.A ρ T.st) c.n0 ρ u x∧Below w.heap.size w w') (fun u w'=>RepH w' (c.A ρ T.st) c.n0 ρ u x∧Below w.heap.size w w'):=by
 unfold zAw at h;split at h
 ·rename_i hd;refine ⟨gP hd,?_⟩
  cases ho:hop P T (oK o.dst) o.op with
 |go c' hv S' =>
   rw [ho] at h;unfold xU at h;dsimp only at h;split at h
   ·rename_i hq;obtain ⟨h0,h1⟩:=h;refine ⟨hv,h1,fun c l w ρ xs G=>?_⟩
    obtain ⟨v,hK,hv'⟩:=zGn (ty:=o.type) (qJc (ty:=0) G (bJ _ _) ho hq h0);exact bB (hv' w (Below.refl _ _)) fun u w' ⟨e,B⟩=>by subst e;exact ⟨hK.2.2.above B,B⟩
   ·split at h
    ·rename_i hm;simp only [Bool.and_eq_true] at hm;unfold zEe at h;split at h
     ·rename_i c2 i S2 hm2;split at h
      ·rename_i nw t sz els hr;exact ⟨_,h.2,fun c l w ρ xs G=>qZa G hm.2 hm2 hr h.1⟩
      ·exact h.elim
     ·exact h.elim
    ·exact h.elim
 |call f args =>
   rw [ho] at h;obtain ⟨hf,x,hK,hc⟩:=h;refine ⟨x,hK,fun c l w ρ xs G=>?_⟩
   obtain ⟨y,ay,ats,e,hfn,has⟩:=qC0 ho;rw [e];obtain ⟨vs,e1,e2,e3⟩:=G.evs (bJ _ _) has;unfold aR;simp only [aH,bL,e1,G.fn (bJ _ _) hfn];exact ⟨hf,hc c (lk l) w ρ xs vs G ⟨e2,e3⟩⟩
 |eqn t x y neg =>
   rw [ho] at h;obtain ⟨r,h1,h2⟩:=h;refine ⟨_,h2,fun c l w ρ xs G=>?_⟩
   exact bB (qJd G (bJ _ l) ho h1) fun v w' ⟨e,_,r⟩=>by subst e;exact ⟨r,Below.refl _ _⟩
 |bytes ok s=>rw [ho] at h;exact h.elim
 |bad=>rw [ho] at h;exact h.elim
 ·exact h.elim
def FrOk (ops:List Oper) (E0:aJ) (hs:Nat→HV) (i:Nat) (E:aJ):Prop:=∀ t h,hlk E t=some h→(∃ j,j < i∧aK ops j=some t∧hs j=h)∨((∀ j,j < i→aK ops j≠some t)∧hlk E0 t=some h)
theorem FrOk.congr {ops:List Oper} {E0 E:aJ} {hs hs':Nat→HV} {i:Nat} (h:FrOk ops E0 hs i E) (he:∀ j,j < i→hs' j=hs j):FrOk ops E0 hs' i E:=fun t x hx=>by
 rcases h t x hx with ⟨j,a,b,d⟩|r
 ·exact .inl ⟨j,a,b,by rw [he j a];exact d⟩
 ·exact .inr r
theorem FrOk.env {ops:List Oper} {E0 E E':aJ} {hs:Nat→HV} {i:Nat} (h:FrOk ops E0 hs i E) (he:∀ t x,hlk E' t=some x→hlk E t=some x):FrOk ops E0 hs i E':=fun t x hx=>h t x (he t x hx)
theorem FrOk.set {ops:List Oper} {E0:aJ} {hs:Nat→HV} {i:Nat} {S:HS} (h:FrOk ops E0 hs i S.env) {o:Oper} (ho:ops[i]?=some o):FrOk ops E0 hs (i + 1) (S.set o.dst (hs i)).env:=by
 have hd:aK ops i=o.dst:=by unfold aK;rw [ho];rfl
 intro t x hx
 cases e:o.dst with
|none =>
  rw [e] at hx hd
  rcases h t x hx with ⟨j,a,b,d⟩|⟨a,b⟩
  ·exact .inl ⟨j,by omega,b,d⟩
  ·refine .inr ⟨fun j hj=>?_,b⟩
   by_cases ej:j=i
   ·subst ej;rw [hd];simp
   ·exact a j (by omega)
|some d =>
  rw [e] at hx hd;simp only [HS.set,hlk] at hx
  by_cases et:d=t
  ·rw [if_pos et] at hx;simp only [Option.some.injEq] at hx;exact .inl ⟨i,by omega,by rw [hd,et],hx⟩
  ·rw [if_neg et] at hx
   rcases h t x hx with ⟨j,a,b,d'⟩|⟨a,b⟩
   ·exact .inl ⟨j,by omega,b,d'⟩
   ·refine .inr ⟨fun j hj=>?_,b⟩
    by_cases ej:j=i
    ·subst ej;rw [hd];simpa using et
    ·exact a j (by omega)
structure HeadOk (P:Program) (N:Nat) (ops:List Oper) (E0:aJ) (st:aB) (hs:Nat→HV) (i:Nat) (o:Oper):Prop where
 lt:hU N o.dst
 head:∃ T:aJ,FrOk ops E0 hs i T∧(∀ t h,hlk T t=some h→t ∈ gK (bW ops) o.guard ++ bK o.op)∧∀ (c:Ctx) (l:Env) (w:World) (ρ:Nat→Value) (xs:Nat→List Value),Good c ⟨T,st⟩ (lk l) w ρ xs →
  ∃ b,gd l (bW ops) o.guard (·=b)∧(b=true→aR P l o.op o.type w (fun u w'=>RepH w' (c.A ρ st) c.n0 ρ u (hs i)∧Below w.heap.size w w') (fun u w'=>RepH w' (c.A ρ st) c.n0 ρ u (hs i)∧Below w.heap.size w w'))∧(b=false→hs i=.v undef)
theorem uM {d:Option Nat} (h:kP N d S K):hU N d∧K (S.set d (.v undef)):=by
 unfold kP at h;split at h
 ·rename_i hd;exact ⟨gP hd,h⟩
 ·exact h.elim
theorem qFm {ops:List Oper} {E0:aJ} {st:aB}:∀ (rest:List Oper) (i:Nat) (S:HS) (hs0:Nat→HV),(∀ k o,rest[k]?=some o→ops[i + k]?=some o)→S.st=st→FrOk ops E0 hs0 i S.env→HVr P N (bW ops) K rest S →
  ∃ hs,(∀ j,j < i→hs j=hs0 j)∧(∀ k o,rest[k]?=some o→HeadOk P N ops E0 st hs (i + k) o)∧∃ S',S'.st=st∧FrOk ops E0 hs (i + rest.length) S'.env∧K S'
|[],i,S,hs0,hops,hst,F,h=>⟨hs0,fun _ _=>rfl,fun k o hk=>by simp at hk,S,hst,F,h⟩
|o :: rest,i,S,hs0,hops,hst,F,h=>by
  have hoi:ops[i]?=some o:=hops 0 o (by simp)
  rw [HVr] at h;generalize hT:iY S.env (gK (bW ops) o.guard ++ bK o.op)=T at h
  have TF:∀ t x,hlk T t=some x→t ∈ gK (bW ops) o.guard ++ bK o.op∧hlk S.env t=some x:=fun t x hx=>by subst hT;exact rV hx
  have key:∀ (S1:HS) (x:HV),S1.st=st→FrOk ops E0 hs0 i S1.env→HVr P N (bW ops) K rest (S1.set o.dst x)→hU N o.dst →
    (∀ (c:Ctx) (l:Env) (w:World) (ρ:Nat→Value) (xs:Nat→List Value),Good c ⟨T,st⟩ (lk l) w ρ xs →
     ∃ b,gd l (bW ops) o.guard (·=b)∧(b=true→aR P l o.op o.type w (fun u w'=>RepH w' (c.A ρ st) c.n0 ρ u x∧Below w.heap.size w w') (fun u w'=>RepH w' (c.A ρ st) c.n0 ρ u x∧Below w.heap.size w w'))∧(b=false→x=.v undef)) →
    ∃ hs,(∀ j,j < i→hs j=hs0 j)∧(∀ k o',(o :: rest)[k]?=some o'→HeadOk P N ops E0 st hs (i + k) o')∧∃ S',S'.st=st∧FrOk ops E0 hs (i + (o :: rest).length) S'.env∧K S':=by
   intro S1 x hst1 F1 hK hlt hrun
   let hs1:Nat→HV:=fun j=>if j=i then x else hs0 j
   have e1:hs1 i=x:=if_pos rfl
   have e2:∀ j,j < i→hs1 j=hs0 j:=fun j hj=>if_neg (by omega)
   have F2:FrOk ops E0 hs1 (i + 1) (S1.set o.dst x).env:=by
    have:=(F1.congr e2).set hoi
    rw [e1] at this;exact this
   obtain ⟨hs,a,b,S',d,e,f⟩:=qFm rest (i + 1) (S1.set o.dst x) hs1 (fun k o' hk=>by
    have:=hops (k + 1) o' (by simpa using hk)
    rw [show i + 1 + k=i + (k + 1) by omega];exact this) (by cases o.dst <;> exact hst1) F2 hK
   have ei:hs i=x:=by rw [a i (by omega),e1]
   have ej:∀ j,j < i→hs j=hs0 j:=fun j hj=>by rw [a j (by omega),e2 j hj]
   refine ⟨hs,ej,fun k o' hk=>?_,S',d,?_,f⟩
   ·cases k with
   |zero =>
     simp only [List.getElem?_cons_zero,Option.some.injEq] at hk;subst hk;exact ⟨hlt,T,(F.congr ej).env (fun t x hx=>(TF t x hx).2),fun t x hx=>(TF t x hx).1,by rw [Nat.add_zero,ei];exact hrun⟩
   |succ k =>
     have:=b k o' (by simpa using hk)
     rw [show i + 1 + k=i + (k + 1) by omega] at this;exact this
   ·rw [List.length_cons,show i + (rest.length + 1)=i + 1 + rest.length by omega];exact e
  cases hg:hG T (bW ops) o.guard with
 |yes =>
   rw [hg] at h;obtain ⟨hlt,x,hK,hv⟩:=xT h;refine key S x hst F hK hlt fun c l w ρ xs G=>⟨true,qNb (S:=⟨T,st⟩) hg rfl,fun _=>?_,fun e=>by cases e⟩
   have:=hv c l w ρ xs (by rw [hst];exact G)
   rw [hst] at this;exact this
 |no =>
   rw [hg] at h;obtain ⟨hlt,hK⟩:=uM h;exact key S _ hst F hK hlt fun c l w ρ xs G=>⟨false,zDa (S:=⟨T,st⟩) ⟨ρ,xs,G⟩ hg rfl,fun e=>(by cases e),fun _=>rfl⟩
 |ask d b want =>
   rw [hg] at h;obtain ⟨j,hj,hd,hb⟩:=zAa (S:=⟨T,st⟩) hg
   have hbS:=(TF d _ hb).2
   simp only [iH] at h;split at h
   ·rename_i e
    have e':b=want:=by simpa using e
    subst e';obtain ⟨hlt,x,hK,hv⟩:=xT h;refine key (S.rep d (.v (.bool b))) x hst (F.env fun t x hx=>by rw [← lJ hbS t];exact hx) hK hlt fun c l w ρ xs G=>⟨true,(uE (S:=⟨T,st⟩) ⟨ρ,xs,G⟩ hg (k:=(·=true)) e).1,fun _=>?_,fun e=>by cases e⟩
    have:=hv c l w ρ xs (by rw [hst];exact G.sameEnv (lJ hb))
    simp only [HS.rep] at this;rw [hst] at this;exact this
   ·rename_i e
    have e':b=!want:=by cases b <;> cases want <;> simp_all
    subst e';obtain ⟨hlt,hK⟩:=uM h;exact key (S.rep d (.v (.bool (!want)))) _ hst (F.env fun t x hx=>by rw [← lJ hbS t];exact hx) hK hlt fun c l w ρ xs G=>⟨false,(uE (S:=⟨T,st⟩) ⟨ρ,xs,G⟩ hg (k:=(·=false)) e).1,fun e=>(by cases e),fun _=>rfl⟩
 |bad=>rw [hg] at h;exact h.elim
end
end Go.Eng
end

section
namespace Go.Eng
open Go Go.RowKit
section
variable {P:Program} {N:Nat} {c:Ctx} {S T:HS} {Q:fH} {l:Env} {look:Nat→Option Value} {w w':World} {ρ:Nat→Value} {xs:Nat→List Value} {K:HS→Prop}
theorem pV {ops:List Oper} {o:Oper} {t:Nat} (h:t ∈ gK (bW ops) o.guard ++ bK o.op):t ∈ o.looksAt ops.toArray:=by
 rcases List.mem_append.1 h with h|h
 ·cases hg:o.guard with
 |none=>rw [hg] at h;simp [gK] at h
 |some p =>
   obtain ⟨g,b⟩:=p;rw [hg] at h;simp only [gK] at h;split at h
   ·rename_i d hd;simp only [List.mem_singleton] at h;subst h;refine iD hg ?_;unfold aK;simp only [bW,List.getElem?_map,Option.map_eq_some_iff] at hd;obtain ⟨x,hx,hx'⟩:=hd;simp [hx,hx']
   ·simp at h
 ·exact rZ (qU8 h)
theorem sL {x:HV} {k:Nat}:∀ {e:aJ},hlk e k=some x→k ∈ bH e
|[],h=>by simp [hlk] at h
|(j,y) :: r,h=>by
  simp only [hlk] at h
  by_cases ej:j=k
  ·simp [bH,ej]
  ·rw [if_neg ej] at h
   have:=sL h
   simp only [bH,List.map_cons,List.mem_cons];exact .inr this
theorem zNk {id:Nat} {ops:List Oper} (n:Nat) (hm:P.follows .mixedOrders=true) (hok:vE (bH S.env) ops n=true)
  (h:∀ K:HS→Prop,(∀ S',Q .normal S'→K S')→HVr P N (bW ops) (fun S'=>kN (HV2 P N (bW ops) K (ops.drop n)) S') (ops.take n) S):HW P N (.region id ops.toArray true) Q S:=fun c l w I=>by
 have hks:∀ k ∈ bH S.env,∃ v,lk l k=some v:=fun k hk=>by
  obtain ⟨x,hx⟩:=nV hk;obtain ⟨ρ,xs,G⟩:=I;obtain ⟨v,h1,-⟩:=G.env k x hx;exact ⟨v,h1⟩
 refine qFl (bH S.env) ?_
 have I':Inv c S (lk (keep (bH S.env) l)) w:=I.agree fun k x hk=>nE (sL hk)
 have hkk:pZ (keep (bH S.env) l)=bH S.env:=oJ hks
 generalize keep (bH S.env) l=l' at I' hkk;obtain ⟨ρ,xs,G⟩:=I'
 have ok:=oF hok
 have hlen:(ops.take n).length=n:=by rw [List.length_take];have:=ok.hn;omega
 have get_take:∀ {i:Nat} {o:Oper},(ops.take n)[i]?=some o→i < n∧ops[i]?=some o:=fun {i o} h=>by
  have hi:=(List.getElem?_eq_some_iff.1 h).1
  rw [hlen] at hi;rw [List.getElem?_take_of_lt hi] at h;exact ⟨hi,h⟩
 obtain ⟨hs,-,heads,S1,e1,F1,h1⟩:=qFm (E0:=S.env) (st:=S.st) (ops.take n) 0 S (fun _=>.junk) (fun k o hk=>by rw [Nat.zero_add];exact (get_take hk).2) rfl (fun t x hx=>.inr ⟨fun j hj=>absurd hj (Nat.not_lt_zero _),hx⟩) (h (Q .normal) fun _ h=>h)
 rw [hlen,Nat.zero_add] at F1
 have head:∀ i o,i < n→ops[i]?=some o→HeadOk P N ops S.env S.st hs i o:=fun i o hi ho=>by
  have:=heads i o (by rw [List.getElem?_take_of_lt hi];exact ho)
  rw [Nat.zero_add] at this;exact this
 have uniq:∀ i j t,i < n→j < n→aK ops i=some t→aK ops j=some t→i=j:=by
  intro i j t hi hj h1 h2
  rcases Nat.lt_trichotomy i j with h|h|h
  ·rcases ok.uniq j i hj h with e|e
   ·rw [h2] at e;cases e
   ·exact absurd (h2.trans h1.symm) e
  ·exact h
  ·rcases ok.uniq i j hi h with e|e
   ·rw [h1] at e;cases e
   ·exact absurd (h1.trans h2.symm) e
 have hlt:DLt N ops n:=fun i t hi hd=>by
  obtain ⟨o,ho,hod⟩:=oS hd
  have:=(head i o hi ho).lt
  rw [hod] at this;exact this
 -- what a frame of the heads' names reads
 have frame:∀ (vs:Nat→Value) (w':World) (i:Nat) (E:aJ),i≤n→Below w.heap.size w w'→FrOk ops S.env hs i E →
   (∀ j t x,j < i→aK ops j=some t→hlk E t=some x→RepH w' (c.A ρ S.st) c.n0 ρ (vs j) (hs j))→Good c ⟨E,S.st⟩ (lk (fU l' ops vs i)) w' ρ xs:=fun vs w' i E hi hB F hv=>by
  have GB:=G.below hB
  refine ⟨GB.rows,GB.apart,fun k x hk=>?_,GB.kept,GB.a0⟩
  rcases F k x hk with ⟨j,a,b,d⟩|⟨a,b⟩
  ·refine ⟨vs j,(jD (l:=l') (vs:=vs) hlt (base:=Array.replicate N undef) (by simp) b (fun q hq hne e=>hne (uniq q j k hq (by omega) e b)) i hi a).1,?_⟩
   rw [← d];exact hv j k x a b hk
  ·obtain ⟨v,v1,v2⟩:=GB.env k x b;exact ⟨v,by rw [(kK (l:=l') (vs:=vs) #[] k i a).1];exact v1,v2⟩
 refine zLq (bH S.env) n hm hkk hok hlt (C:=fun w'=>Below w.heap.size w w') (R:=fun j u w'=>RepH w' (c.A ρ S.st) c.n0 ρ u (hs j)) (Below.refl _ _).drew (fun i u w1 w2 _ hr hB=>hr.above hB) ?_ ?_
 ·intro i o hi ho vs w1 hC hR;obtain ⟨T,TF,TS,run⟩:=(head i o hi ho).head
  have GT:Good c ⟨T,S.st⟩ (lk (fU l' ops vs i)) w1 ρ xs:=frame vs w1 i T (by omega) hC TF fun j t x hj hd hx=>hR j t hj hd (pV (TS t x hx))
  obtain ⟨b,b1,b2,b3⟩:=run c _ w1 ρ xs GT;refine ⟨b,b1,fun hb=>?_,fun hb=>?_⟩
  ·exact (jG (fun x X hx=>by simp [evD,hx]) (b2 hb)).mono fun u w2 ⟨hu,hB⟩=>⟨hu,hC.trans (hB.mono hC.size),hB⟩
  ·rw [b3 hb];exact .v _
 ·intro vs w1 hC hR;obtain ⟨E1,st1⟩:=S1
  have e1:st1=S.st:=e1
  subst e1
  have G1:=frame vs w1 n E1 (Nat.le_refl _) hC F1 fun j t x hj _ _=>hR j hj
  exact HW_drw.V2.mono' (qB4 _ _ _ _ h1 ⟨ρ,xs,G1⟩) fun l2 w2 h2=>h2
theorem zUz {f:FuncId} {args args':List HV} {x:HV} {K:HV→Prop} (hc:aE P f=true) (H:HFun P f args' (fun h st=>h=x∧st=[])) (hf:FreshH x) (hn:∀ ρ ρ':Nat→Value,∀ (w:World) (A:Nat→Prop) (n:Nat) (v:Value),RepH w A n ρ v x→RepH w A n ρ' v x) (hl:Lends T.st args args') (hK:K x):zLz P f args T K :=
 ⟨hc,x,hK,fun c look w ρ xs vs G R=>Ret.mono (H w vs (nU G R hl)) fun v w' ⟨B,h,st,h8,⟨e1,e2⟩,ρ',xs',G',hr⟩=>⟨by
  subst e1;subst e2
  have hw:c.n0≤w.heap.size:=Nat.le_trans c.hn G.kept.size
  refine hn ρ' ρ _ _ _ _ (hr.up (Nat.le_refl _) (fun _ _ _=>rfl) (fun b _ hA=>?_) hw)
  left
  show b < w.heap.size
  rcases hA with h0|⟨i,r,hi,hb⟩
  ·have:=(G.a0 b h0).1;have:=G.kept.size;omega
  ·exact G.lt hi hb,B⟩⟩
end
end Go.Eng
end

section
namespace Go.Eng
open Go Go.RowKit
section
variable {P:Program} {T:HS}
theorem zCz {f:FuncId} {args args':List HV} {ty sz:Nat} {els:List (List FV)} {K:HV→Prop} (hc:aE P f=true) (H:HFun P f args' (fun h st=>h=.own 0∧st=[(0,.sl true ty sz els)])) (hl:Lends T.st args args') (hK:K (.lst true els)):zLz P f args T K :=
 ⟨hc,_,hK,fun c look w ρ xs vs G R=>Ret.mono (H w vs (nU G R hl)) fun v w' ⟨B,h,st,h8,⟨e1,e2⟩,ρ',xs',G',hr⟩=>⟨by
  subst e1;subst e2
  have hw:c.n0≤w.heap.size:=Nat.le_trans c.hn G.kept.size
  have hA:∀ b,c.A ρ T.st b→b < w.heap.size:=by
   rintro b (h0|⟨i,r,hi,hb⟩)
   ·have:=(G.a0 b h0).1;have:=G.kept.size;omega
   ·exact G.lt hi hb
  have e0:rlk (HS.st ⟨[],[(0,Row.sl true ty sz els)]⟩) 0=some (.sl true ty sz els):=rfl
  cases hr
  obtain ⟨o1,o2,o3⟩:=cM G' e0
  have R0:=G'.rows 0 _ e0
  refine .lst (wS o1 o2 (fun p k hp hk=>?_) (fun b hb=>?_))
  ·obtain ⟨u,a,b,d⟩:=o3 p k hp hk;exact ⟨u,a,b,d.up (Nat.le_refl _) (fun _ _ _=>rfl) (fun b _ h=>.inl (hA b h)) hw⟩
  ·rcases (R0.new b hb).1 with h|h
   ·have h:w.heap.size≤b:=h
    exact ⟨fun hA'=>by have:=hA b hA';omega,fun _=>by omega⟩
   ·exact h.elim,B⟩⟩
end
end Go.Eng
end

section
namespace Go.Eng
open Go Go.RowKit
theorem zS (t:Nat):hlk [] t=none:=nr rfl
theorem zM (k:Nat) (v:HV) (r:aJ) (t:Nat):hlk ((k,v) :: r) t=if k=t then some v else hlk r t:=nr rfl
theorem zX (t:Nat):rlk [] t=none:=nr rfl
theorem zU (k:Nat) (v:Row) (r:aB) (t:Nat):rlk ((k,v) :: r) t=if k=t then some v else rlk r t:=nr rfl
theorem zCy (l:aJ) (t:Nat):hev l (.tmp t)=hlk l t:=nr rfl
theorem qRs (l:aJ) (v:Value):hev l (.const v)=some (.v v):=nr rfl
theorem qLq (l:aJ) (g:Nat):hev l (.global g)=some (.v (.pointer (some ⟨g,0,none⟩))):=nr rfl
theorem qW5 (l:aJ) (f:FuncId):hev l (.func f)=some (.v (.func (.func f) #[] #[])):=nr rfl
theorem qW4 (l:aJ):jA l []=some []:=nr rfl
theorem qRr (l:aJ) (x:Operand) (r:List Operand):jA l (x :: r)=match hev l x with|some v=>(match jA l r with|some vs=>some (v :: vs)|none=>none)|none=>none:=nr rfl
theorem zJd (x:Value):qEs (some (.v x))=some x:=nr rfl
theorem qQ4  : qEs none=none:=nr rfl
theorem qV7 (fr:Bool) (xs:List (List FV)):qEs (some (.lst fr xs))=none:=nr rfl
theorem qV6 (i:Nat):qEs (some (.own i))=none:=nr rfl
theorem qV5 (i s j k:Nat):qEs (some (.ptr i s j k))=none:=nr rfl
theorem qV8 (fr:Bool) (xs:List (List FV)) (s j k:Nat):qEs (some (.elt fr xs s j k))=none:=nr rfl
theorem qV9 (cs:List HV):qEs (some (.agg cs))=none:=nr rfl
theorem qV4 (cs:List HV):qEs (some (.tup cs))=none:=nr rfl
theorem zCb (i s o n:Nat):qEs (some (.vw i s o n))=none:=nr rfl
theorem qQ5  : qEs (some .junk)=none:=nr rfl
theorem qMh (S:HS) (id:Nat) (P:Program) (o:Op) (c:Prop) (v:Value):mX S id P o (some (c,v))=.go c (.v v) S:=nr rfl
theorem qMi (S:HS) (id:Nat) (P:Program) (o:Op):mX S id P o none=gD P S id o:=nr rfl
theorem zJr (P:Program) (S:HS) (id:Nat) (o:Op):hop P S id o=mX S id P o (aH P (lo S.env) o):=nr rfl
theorem qRw (P:Program) (S:HS) (id:Nat) (x:Operand):gD P S id (.move x)=uQ S (hev S.env x):=nr rfl
theorem qGn (P:Program) (S:HS) (id:Nat) (x:Operand):gD P S id (.assign x)=uQ S (hev S.env x):=nr rfl
theorem qRu (P:Program) (S:HS) (id:Nat) (c a b:Operand):gD P S id (.pick c a b)=qC7 S (hev S.env c) (hev S.env a) (hev S.env b):=nr rfl
theorem qC5 (P:Program) (S:HS) (id:Nat) (x:Operand) (i:Nat):gD P S id (.extract x i)=kF S i (hev S.env x):=nr rfl
theorem qLw (P:Program) (S:HS) (id:Nat) (t:TypeId) (x:Operand) (f:Nat):gD P S id (.field t x f)=rG S (qDd P t f) (hev S.env x):=nr rfl
theorem qLx (P:Program) (S:HS) (id:Nat) (t:TypeId) (x:Operand) (f:Nat):gD P S id (.fieldAddr t x f)=rJ S (eM P t f) (hev S.env x):=nr rfl
theorem qRv (P:Program) (S:HS) (id:Nat) (x:Operand):gD P S id (.nilCheck x)=qPo S (hev S.env x):=nr rfl
theorem qLv (P:Program) (S:HS) (id:Nat) (t:TypeId) (x i:Operand):gD P S id (.indexAddr t x i)=lK S (aW P t) (qD0 P t) (hev S.env x) (hev S.env i):=nr rfl
theorem qLs (P:Program) (S:HS) (id:Nat) (t:TypeId) (x:Operand) (l h:Option Operand):gD P S id (.slice t x l h none)=oM S (aW P t) l h (hev S.env x):=nr rfl
theorem qRx (P:Program) (S:HS) (id:Nat) (t:TypeId) (x:Operand):gD P S id (.load t x)=qG S (aY P t) (hev S.env x):=nr rfl
theorem qLr (P:Program) (S:HS) (id:Nat) (t:TypeId) (x y:Operand):gD P S id (.store t x y)=rE S (aY P t) (hev S.env x) (hev S.env y):=nr rfl
theorem qL1 (P:Program) (S:HS) (id:Nat) (t:TypeId):gD P S id (.alloc t)=mV S id t (dL P t):=nr rfl
theorem qW9 (P:Program) (S:HS) (id:Nat) (t:TypeId) (x:Operand):gD P S id (.box t x)=qXp S id t (hev S.env x):=nr rfl
theorem qL0 (P:Program) (S:HS) (id:Nat) (t:TypeId) (ps:Array (Nat × Operand)):gD P S id (.build t ps)=uC S (bS P t) (bU P t) (dL P t) (iC S.env ps.toList):=nr rfl
theorem qGm (P:Program) (S:HS) (id:Nat) (t n:TypeId) (ps:Array (Nat × Operand)):gD P S id (.buildSlice t n ps)=jH S id n (iB P t) (iC S.env ps.toList):=nr rfl
theorem qLt (P:Program) (S:HS) (id:Nat) (t:TypeId) (x y:Operand):gD P S id (.makeSlice t x y)=qGv S id (iB P t) (hev S.env x) (hev S.env y):=nr rfl
theorem qW7 (P:Program) (S:HS) (id:Nat) (args:Array Operand) (ats:Array TypeId):gD P S id (.call ⟨.builtin .len,args,ats⟩)=match jA S.env args.toList with|some [h]=>qMo S (bM ((aW P (dJ ats)).isSome=true∧ats.size=1)) (some h)|_=>.bad:=nr rfl
theorem qXa (P:Program) (S:HS) (id:Nat) (args:Array Operand) (ats:Array TypeId):gD P S id (.call ⟨.builtin .append,args,ats⟩)=iN S id (ats == #[dJ ats,dJ ats]) (qY8 P ats) (iB P (dJ ats)) (jA S.env args.toList):=nr rfl
theorem qLz (P:Program) (S:HS) (id:Nat) (f:FuncId) (args:Array Operand) (ats:Array TypeId):gD P S id (.call ⟨.value (.func f),args,ats⟩)=qG0 f (jA S.env args.toList):=nr rfl
theorem qW8 (P:Program) (S:HS) (id:Nat) (t:TypeId) (x y:Operand) (u:TypeId):gD P S id (.binOp .eql t x y u)=hEq S (qHc P t) t false (hev S.env x) (hev S.env y):=nr rfl
theorem qW6 (P:Program) (S:HS) (id:Nat) (t:TypeId) (x y:Operand) (u:TypeId):gD P S id (.binOp .neq t x y u)=hEq S (qHc P t) t true (hev S.env x) (hev S.env y):=nr rfl
theorem qRz (P:Program) (S:HS) (id:Nat) (s d:TypeId) (x:Operand):gD P S id (.convert s d x)=qM S (qBy P s d) (qNx P s d) (hev S.env x):=nr rfl
theorem qXf (S:HS) (h:HV):uQ S (some h)=.go True h S:=nr rfl
theorem qXc (S:HS) (t:Bool) (a b:HV):qC7 S (some (.v (.bool t))) (some a) (some b)=.go True (bif t then a else b) S:=nr rfl
theorem qGx (S:HS) (i:Nat) (hs:List HV):kF S i (some (.tup hs))=match hs[i]? with|some h=>.go True h S|none=>.bad:=nr rfl
theorem qLu (P:Program) (S:HS) (id:Nat) (t:TypeId) (x i:Operand):gD P S id (.index t x i)=nK S (qN9 P t) (hev S.env x) (hev S.env i):=nr rfl
theorem qGw (S:HS) (m:Nat) (hs:List HV) (k:IntKind) (n:Int):nK S (some m) (some (.agg hs)) (some (.v (.int k n)))=match hs[n.toNat]? with|some h=>.go (bM (0≤n∧n < m)) h S|none=>.bad:=nr rfl
theorem qM0 (S:HS) (off:Nat) (hs:List HV):rG S (some (off,none)) (some (.agg hs))=match hs[off]? with|some h=>.go True h S|none=>.bad:=nr rfl
theorem qMz (S:HS) (off n:Nat) (hs:List HV):rG S (some (off,some n)) (some (.agg hs))=.go (bM (off + n≤hs.length)) (.agg ((hs.drop off).take n)) S:=nr rfl
theorem qM1 (S:HS) (off id sz i k:Nat):rJ S (some off) (some (.ptr id sz i k))=.go True (.ptr id sz i (k + off)) S:=nr rfl
theorem qM2 (S:HS) (off:Nat) (fr:Bool) (xs:List (List FV)) (sz i k:Nat):rJ S (some off) (some (.elt fr xs sz i k))=.go True (.elt fr xs sz i (k + off)) S:=nr rfl
theorem qXd (S:HS) (id sz i k:Nat):qPo S (some (.ptr id sz i k))=.go True (.ptr id sz i k) S:=nr rfl
theorem qXe (S:HS) (fr:Bool) (xs:List (List FV)) (sz i k:Nat):qPo S (some (.elt fr xs sz i k))=.go True (.elt fr xs sz i k) S:=nr rfl
theorem qMq (S:HS) (id:Nat) (us ua:Option (Nat × Nat)) (kk:IntKind) (n:Int):lK S us ua (some (.own id)) (some (.v (.int kk n)))=nL S id n us (rlk S.st id):=nr rfl
theorem qMr (S:HS) (fr:Bool) (xs:List (List FV)) (us ua:Option (Nat × Nat)) (kk:IntKind) (n:Int):lK S us ua (some (.lst fr xs)) (some (.v (.int kk n)))=qK S fr xs n us:=nr rfl
theorem qMp (S:HS) (id sz i k:Nat) (us ua:Option (Nat × Nat)) (kk:IntKind) (n:Int):lK S us ua (some (.ptr id sz i k)) (some (.v (.int kk n)))=qJ S id sz i k n ua:=nr rfl
theorem qMs (S:HS) (fr:Bool) (xs:List (List FV)) (sz i k:Nat) (us ua:Option (Nat × Nat)) (kk:IntKind) (n:Int):lK S us ua (some (.elt fr xs sz i k)) (some (.v (.int kk n)))=qL S fr xs sz i k n ua:=nr rfl
theorem qMv (S:HS) (id:Nat) (n:Int) (e sz:Nat) (nw:Bool) (ty s:Nat) (els:List (List FV)):nL S id n (some (e,sz)) (some (.sl nw ty s els))=.go (bM (sz=s∧0≤n∧n < els.length)) (.ptr id s n.toNat 0) S:=nr rfl
theorem qMx (S:HS) (fr:Bool) (xs:List (List FV)) (n:Int) (e sz:Nat):qK S fr xs n (some (e,sz))=.go (bM (0≤n∧n < xs.length)∧Wid sz xs) (.elt fr xs sz n.toNat 0) S:=nr rfl
theorem qMw (S:HS) (id sz i k:Nat) (n:Int) (len size:Nat):qJ S id sz i k n (some (len,size))=.go (bM (0≤n∧n < len)) (.ptr id sz i (k + n.toNat * size)) S:=nr rfl
theorem qMy (S:HS) (fr:Bool) (xs:List (List FV)) (sz i k:Nat) (n:Int) (len size:Nat):qL S fr xs sz i k n (some (len,size))=.go (bM (0≤n∧n < len)) (.elt fr xs sz i (k + n.toNat * size)) S:=nr rfl
theorem zC0 (S:HS) (c:Prop) (i s o n:Nat):qMo S c (some (.vw i s o n))=.go c (.v (.int .i64 n)) S:=nr rfl
theorem qMd (S:HS) (us:Option (Nat × Nat)) (l h:Option Operand) (id:Nat):oM S us l h (some (.own id))=qE S id (jL (lo S.env) l 0) (jL (lo S.env) h (zMj (rlk S.st id))) us (rlk S.st id):=nr rfl
theorem qR4 (S:HS) (us:Option (Nat × Nat)) (l h:Option Operand) (id sz off n:Nat):oM S us l h (some (.vw id sz off n))=qD S id sz off (jL (lo S.env) l 0) (jL (lo S.env) h n) us (rlk S.st id):=nr rfl
theorem qMf (S:HS) (id:Nat) (a b:Int) (e sz:Nat) (nw:Bool) (ty s:Nat) (els:List (List FV)):qE S id (some a) (some b) (some (e,sz)) (some (.sl nw ty s els))=.go (bM (sz=s∧0≤a∧a≤b∧b≤els.length)) (.vw id s a.toNat (b.toNat - a.toNat)) S:=nr rfl
theorem qMe (S:HS) (id sz off:Nat) (a b:Int) (e sz':Nat) (nw:Bool) (ty s:Nat) (els:List (List FV)):qD S id sz off (some a) (some b) (some (e,sz')) (some (.sl nw ty s els))=.go (bM (sz'=sz∧s=sz∧0≤a∧a≤b∧off + b≤els.length)) (.vw id sz (off + a.toNat) (b.toNat - a.toNat)) S:=nr rfl
theorem zA8 (nw:Bool) (ty s:Nat) (els:List (List FV)):zMj (some (.sl nw ty s els))=els.length:=nr rfl
theorem qSb (S:HS) (id s off m:Nat) (us ua:Option (Nat × Nat)) (kk:IntKind) (n:Int):lK S us ua (some (.vw id s off m)) (some (.v (.int kk n)))=qH S id s off m n us (rlk S.st id):=nr rfl
theorem qMt (S:HS) (id s off m:Nat) (n:Int) (e sz:Nat) (nw:Bool) (ty s':Nat) (els:List (List FV)):qH S id s off m n (some (e,sz)) (some (.sl nw ty s' els))=.go (bM (sz=s∧s'=s∧0≤n∧n < m)) (.ptr id s (off + n.toNat) 0) S:=nr rfl
theorem qQw (st:aB) (sz id s off n:Nat):jM st sz (.vw id s off n)=match rlk st id with|some (.sl _ _ s' els)=>some (bM (s=sz∧s'=sz),(els.drop off).take n)|_=>none:=nr rfl
theorem qR0 (i s o n:Nat):dF (.vw i s o n)=some [.vw i s o n]:=nr rfl
theorem zCq (i s o n:Nat):(HV.vw i s o n).one=true:=nr rfl
theorem gC (p:Nat→Bool) (i s o n:Nat):HV.kill p (.vw i s o n)=bif p i then .junk else .vw i s o n:=by rw [HV.kill]
theorem qC (m:Nat→Option Nat) (i s o n:Nat):HV.ren m (.vw i s o n)=match m i with|some j=>.vw j s o n|none=>.junk:=by rw [HV.ren];cases m i <;> rfl
theorem qB (id:Nat) (x0:HV) (i s o n:Nat):HV.sub id x0 (.vw i s o n)=if i=id then zGj x0 s o n else .vw i s o n:=by rw [HV.sub]
theorem qQo (i s o n:Nat):tY (.vw i s o n)=[]:=nr rfl
theorem qKm (i s o n:Nat):wU (.vw i s o n)=[]:=nr rfl
theorem qXh (S:HS) (c:Prop) (id:Nat):qMo S c (some (.own id))=qC8 S c (rlk S.st id):=nr rfl
theorem qXi (S:HS) (c:Prop) (fr:Bool) (xs:List (List FV)):qMo S c (some (.lst fr xs))=.go c (.v (.int .i64 xs.length)) S:=nr rfl
theorem qXj (S:HS) (c:Prop) (nw:Bool) (ty s:Nat) (els:List (List HV)):qC8 S c (some (.hl nw ty s els))=.go c (.v (.int .i64 els.length)) S:=nr rfl
theorem qMu (S:HS) (id:Nat) (n:Int) (e sz:Nat) (nw:Bool) (ty s:Nat) (els:List (List HV)):nL S id n (some (e,sz)) (some (.hl nw ty s els))=.go (bM (sz=s∧0≤n∧n < els.length)) (.ptr id s n.toNat 0) S:=nr rfl
theorem qXk (S:HS) (c:Prop) (nw:Bool) (ty s:Nat) (els:List (List FV)):qC8 S c (some (.sl nw ty s els))=.go c (.v (.int .i64 els.length)) S:=nr rfl
theorem qR5 (S:HS) (us:Option (Nat × Nat)) (l h:Option Operand) (fr:Bool) (xs:List (List FV)):oM S us l h (some (.lst fr xs))=qF S fr xs (jL (lo S.env) l 0) (jL (lo S.env) h xs.length) us:=nr rfl
theorem qMg (S:HS) (fr:Bool) (xs:List (List FV)) (a b:Int) (e sz:Nat):qF S fr xs (some a) (some b) (some (e,sz))=.go (bM (0≤a∧a≤b∧b≤xs.length)∧Wid sz xs) (.lst fr ((xs.take b.toNat).drop a.toNat)) S:=nr rfl
theorem qR6 (S:HS) (kt:Option (Option Nat)) (id sz i k:Nat):qG S kt (some (.ptr id sz i k))=kE S sz i k kt (rlk S.st id):=nr rfl
theorem qR7 (S:HS) (kt:Option (Option Nat)) (fr:Bool) (xs:List (List FV)) (sz i k:Nat):qG S kt (some (.elt fr xs sz i k))=rF S xs i k kt:=nr rfl
theorem qR8 (S:HS) (sz i k:Nat) (nw:Bool) (ty s:Nat) (els:List (List FV)):kE S sz i k (some none) (some (.sl nw ty s els))=.go (bM (sz=s∧i < els.length∧k < (els.getD i []).length)) ((els.getD i []).getD k default).h S:=nr rfl
theorem qMj (S:HS) (sz i k n:Nat) (nw:Bool) (ty s:Nat) (els:List (List FV)):kE S sz i k (some (some n)) (some (.sl nw ty s els))=.go (bM (sz=s∧i < els.length∧k + n≤(els.getD i []).length)) (.agg ((((els.getD i []).drop k).take n).map FV.h)) S:=nr rfl
theorem qSa (S:HS) (sz i k:Nat) (nw:Bool) (ty:Nat) (cells:List HV):kE S sz i k (some none) (some (.bx nw ty cells))=.go (bM (i=0∧k < cells.length)) (cells.getD k .junk) S:=nr rfl
theorem qMl (S:HS) (sz i k n:Nat) (nw:Bool) (ty:Nat) (cells:List HV):kE S sz i k (some (some n)) (some (.bx nw ty cells))=.go (bM (i=0∧k + n≤cells.length)) (.agg ((cells.drop k).take n)) S:=nr rfl
theorem qR9 (S:HS) (sz i k:Nat) (nw:Bool) (ty s:Nat) (els:List (List HV)):kE S sz i k (some none) (some (.hl nw ty s els))=.go (bM (sz=s∧i < els.length∧k < (els.getD i []).length)) ((els.getD i []).getD k .junk) S:=nr rfl
theorem qMk (S:HS) (sz i k n:Nat) (nw:Bool) (ty s:Nat) (els:List (List HV)):kE S sz i k (some (some n)) (some (.hl nw ty s els))=.go (bM (sz=s∧i < els.length∧k + n≤(els.getD i []).length)) (.agg (((els.getD i []).drop k).take n)) S:=nr rfl
theorem qMb (S:HS) (id sz i k:Nat) (kt:Option (Option Nat)) (h:HV) (nw:Bool) (ty s:Nat) (els:List (List HV)):lT S id sz i k kt h (some (.hl nw ty s els))=nG S id sz i k nw ty s els kt h:=nr rfl
theorem qGr (S:HS) (id sz i k:Nat) (nw:Bool) (ty s:Nat) (els:List (List HV)) (h:HV):nG S id sz i k nw ty s els (some none) h=.go (bM (sz=s∧i < els.length∧k < (els.getD i []).length∧h.one=true)) (.v undef) ⟨S.env,gJ id (.hl nw ty s (els.set i ((els.getD i []).set k h))) S.st⟩:=nr (by cases h <;> rfl)
theorem qGs (S:HS) (id sz i k n:Nat) (nw:Bool) (ty s:Nat) (els:List (List HV)) (hs:List HV):nG S id sz i k nw ty s els (some (some n)) (.agg hs)=.go (bM (sz=s∧i < els.length∧hs.length=n∧k + n≤(els.getD i []).length)) (.v undef) ⟨S.env,gJ id (.hl nw ty s (els.set i (splice (els.getD i []) k hs))) S.st⟩:=nr rfl
theorem qMm (S:HS) (xs:List (List FV)) (i k:Nat):rF S xs i k (some none)=.go (bM (i < xs.length∧k < (xs.getD i []).length)) ((xs.getD i []).getD k default).h S:=nr rfl
theorem qMn (S:HS) (xs:List (List FV)) (i k n:Nat):rF S xs i k (some (some n))=.go (bM (i < xs.length∧k + n≤(xs.getD i []).length)) (.agg ((((xs.getD i []).drop k).take n).map FV.h)) S:=nr rfl
theorem qR3 (S:HS) (kt:Option (Option Nat)) (id sz i k:Nat) (h:HV):rE S kt (some (.ptr id sz i k)) (some h)=lT S id sz i k kt h (rlk S.st id):=nr rfl
theorem qMa (S:HS) (id sz i k:Nat) (kt:Option (Option Nat)) (h:HV) (nw:Bool) (ty s:Nat) (els:List (List FV)):lT S id sz i k kt h (some (.sl nw ty s els))=nF S id sz i k nw ty s els kt h:=nr rfl
theorem qMc (S:HS) (id sz i k:Nat) (kt:Option (Option Nat)) (h:HV) (nw:Bool) (ty:Nat) (cells:List HV):lT S id sz i k kt h (some (.bx nw ty cells))=nJ S id i k nw ty cells kt h:=nr rfl
theorem qGp (S:HS) (id sz i k:Nat) (nw:Bool) (ty s:Nat) (els:List (List FV)) (h:HV):nF S id sz i k nw ty s els (some none) h=match h.f with|some f=>.go (bM (sz=s∧i < els.length∧k < (els.getD i []).length∧f.one=true)) (.v undef) ⟨S.env,gJ id (.sl nw ty s (els.set i ((els.getD i []).set k f))) S.st⟩|none=>.bad:=nr rfl
theorem qGq (S:HS) (id sz i k n:Nat) (nw:Bool) (ty s:Nat) (els:List (List FV)) (hs:List HV):nF S id sz i k nw ty s els (some (some n)) (.agg hs)=match HV.fs hs with|some fs=>.go (bM (sz=s∧i < els.length∧fs.length=n∧k + n≤(els.getD i []).length)) (.v undef) ⟨S.env,gJ id (.sl nw ty s (els.set i (splice (els.getD i []) k fs))) S.st⟩|none=>.bad:=nr rfl
theorem qGt (S:HS) (id i k:Nat) (nw:Bool) (ty:Nat) (cells:List HV) (h:HV):nJ S id i k nw ty cells (some none) h=.go (bM (i=0∧k < cells.length∧h.one=true)) (.v undef) ⟨S.env,gJ id (.bx nw ty (cells.set k h)) S.st⟩:=nr (by cases h <;> rfl)
theorem qGu (S:HS) (id i k n:Nat) (nw:Bool) (ty:Nat) (cells:List HV) (hs:List HV):nJ S id i k nw ty cells (some (some n)) (.agg hs)=.go (bM (i=0∧hs.length=n∧k + n≤cells.length)) (.v undef) ⟨S.env,gJ id (.bx nw ty (splice cells k hs)) S.st⟩:=nr rfl
theorem qSk (S:HS) (id:Nat) (t:TypeId) (z:Array Value):mV S id t (some z)=.go (bM (qX z=true)) (.ptr id z.size 0 0) ((S.kill (only id)).row id (.bx true t (z.toList.map .v))):=nr rfl
theorem zC7 (S:HS) (id:Nat) (t:TypeId) (h:HV):qXp S id t (some h)=qM8 S id t (dF h):=nr rfl
theorem qXo (S:HS) (id:Nat) (t:TypeId) (cs:List HV):qM8 S id t (some cs)=.go True (.ptr id cs.length 0 0) ((S.kill (only id)).row id (.bx true t (cs.map (HV.kill (only id))))):=nr rfl
theorem qKh (l:aJ):iC l []=some []:=nr rfl
theorem qGe (l:aJ) (i:Nat) (x:Operand) (r:List (Nat × Operand)):iC l ((i,x) :: r)=match hev l x with|some v=>(match iC l r with|some vs=>some ((i,v) :: vs)|none=>none)|none=>none:=nr rfl
theorem qRq (bG:Nat→Option (Nat × Nat)) (cells:List HV):qC4 bG cells []=some (True,cells):=nr rfl
theorem qLp (bG:Nat→Option (Nat × Nat)) (cells:List HV) (i:Nat) (h:HV) (r:List (Nat × HV)):qC4 bG cells ((i,h) :: r)=match bG i with|some (off,n)=>(match dF h with|some cs=>(match qC4 bG (splice cells off cs) r with|some (c,out)=>some (bM (cs.length=n∧off + n≤cells.length)∧c,out)|none=>none)|none=>none)|none=>none:=nr rfl
theorem qSj (S:HS) (ok:Bool) (bG:Nat→Option (Nat × Nat)) (z:Array Value) (ps:List (Nat × HV)):uC S ok bG (some z) (some ps)=qN S (ok && qX z) (qC4 bG (z.toList.map .v) ps):=nr rfl
theorem qM7 (S:HS) (ok:Bool) (c:Prop) (cs:List HV):qN S ok (some (c,cs))=.go (bM (ok=true)∧c) (.agg cs) S:=nr rfl
theorem qWy (sz:Nat) (els:List (List FV)):qUa sz els []=some (True,els):=nr rfl
theorem qRl (sz:Nat) (els:List (List FV)) (i:Nat) (h:HV) (r:List (Nat × HV)):qUa sz els ((i,h) :: r)=match dF h with|some cs=>(match HV.fs cs with|some fs=>(match qUa sz (els.set i fs) r with|some (c,out)=>some (bM (fs.length=sz∧i < els.length)∧c,out)|none=>none)|none=>none)|none=>none:=nr rfl
theorem qM4 (S:HS) (id n e sz by':Nat) (z:Array Value) (ps:List (Nat × HV)):jH S id n (some (e,sz,by',z)) (some ps)=match qX z && z.size == sz with|true=>jB S id e sz n z ps (qYp ps)|false=>.bad:=nr rfl
theorem qYo  : qYp []=true:=nr rfl
theorem qTa (i:Nat) (h:HV) (r:List (Nat × HV)):qYp ((i,h) :: r)=match dF h with|some cs=>((HV.fs cs).isSome && qYp r)|none=>qYp r:=nr rfl
theorem qRm (sz:Nat) (els:List (List HV)):qC2 sz els []=some (True,els):=nr rfl
theorem qLo (sz:Nat) (els:List (List HV)) (i:Nat) (h:HV) (r:List (Nat × HV)):qC2 sz els ((i,h) :: r)=match dF h with|some cs=>(match qC2 sz (els.set i cs) r with|some (c,out)=>some (bM (cs.length=sz∧i < els.length)∧c,out)|none=>none)|none=>none:=nr rfl
theorem zJt (id:Nat) (els:List (List HV)):hkl id els=els.map (List.map (HV.kill (only id))):=nr rfl
theorem qM5 (S:HS) (id e sz n:Nat) (z:Array Value) (ps:List (Nat × HV)):jB S id e sz n z ps true=kJ S id e sz n (qUa sz (List.replicate n (z.toList.map .v)) ps):=nr rfl
theorem qM6 (S:HS) (id e sz n:Nat) (z:Array Value) (ps:List (Nat × HV)):jB S id e sz n z ps false=kG S id e sz n (qC2 sz (List.replicate n (z.toList.map .v)) ps):=nr rfl
theorem qG1 (S:HS) (id e sz n:Nat) (c:Prop) (els:List (List HV)):kG S id e sz n (some (c,els))=.go (bM (n * sz≤16777216∧n≤16777216)∧c) (.own id) ((S.kill (only id)).row id (.hl true e sz (hkl id els))):=nr rfl
theorem qG2 (S:HS) (id e sz n:Nat) (c:Prop) (els:List (List FV)):kJ S id e sz n (some (c,els))=.go (bM (n * sz≤16777216∧n≤16777216)∧c) (.own id) ((S.kill (only id)).row id (.sl true e sz els)):=nr rfl
theorem qXg (S:HS) (id e sz by':Nat) (z:Array Value) (n m:Int):qGv S id (some (e,sz,by',z)) (some (.v (.int .i64 n))) (some (.v (.int .i64 m)))=match qX z && z.size == sz with|true=>.go (bM (n=m∧0≤n∧by' * n.toNat≤281474976710656∧n.toNat≤maxLen)) (.own id) ((S.kill (only id)).row id (.sl true e sz (List.replicate n.toNat (z.toList.map .v))))|false=>.bad:=nr rfl
theorem qKs (st:aB) (sz id:Nat):jM st sz (.own id)=match rlk st id with|some (.sl _ _ s els)=>some (bM (s=sz),els)|_=>none:=nr rfl
theorem qKu (st:aB) (sz:Nat) (fr:Bool) (xs:List (List FV)):jM st sz (.lst fr xs)=some (Wid sz xs,xs):=nr rfl
theorem qKt (st:aB) (sz:Nat):jM st sz (.v (.slice none 0 0))=some (True,[]):=nr rfl
theorem qLy (P:Program) (S:HS) (id:Nat) (t:Nat) (args:Array Operand) (ats:Array TypeId):gD P S id (.call ⟨.value (.tmp t),args,ats⟩)=qBs (fnH (hlk S.env t)) (jA S.env args.toList):=nr rfl
theorem zQf (f:FuncId):fnH (some (.v (.func (.func f) #[] #[])))=some f:=nr rfl
theorem qGz (f:FuncId) (a:Option (List HV)):qBs (some f) a=qG0 f a:=nr rfl
theorem qRy (P:Program) (S:HS) (id:Nat) (args:Array Operand) (ats:Array TypeId):gD P S id (.call ⟨.builtin .copy,args,ats⟩)=sP S (ats == #[dJ ats,dJ ats]) (aW P (dJ ats)) (jA S.env args.toList):=nr rfl
theorem qSc (S:HS) (us:Option (Nat × Nat)) (id:Nat) (x:HV):sP S true us (some [.own id,x])=oN S id 0 none none x us (rlk S.st id):=nr rfl
theorem qXm (S:HS) (us:Option (Nat × Nat)) (id s off n:Nat) (x:HV):sP S true us (some [.vw id s off n,x])=oN S id off (some s) (some n) x us (rlk S.st id):=nr rfl
theorem qM3 (S:HS) (id off:Nat) (x:HV) (e sz:Nat) (nw:Bool) (ty s:Nat) (els:List (List FV)):oN S id off none none x (some (e,sz)) (some (.sl nw ty s els))=match decide (sz=s) with|true=>vX S id s off els.length (s=s) nw ty els (jM S.st s x)|false=>.bad:=nr rfl
theorem qSd (S:HS) (id off s0 n:Nat) (x:HV) (e sz:Nat) (nw:Bool) (ty s:Nat) (els:List (List FV)):oN S id off (some s0) (some n) x (some (e,sz)) (some (.sl nw ty s els))=match decide (sz=s) with|true=>vX S id s off n (s0=s) nw ty els (jM S.st s x)|false=>.bad:=nr rfl
def cpy (els:List (List FV)) (off:Nat) (news:List (List FV)) (n:Nat):List (List FV):=splice els off (news.take n)
def cpn (news:List (List FV)) (n:Nat):Nat:=min news.length n
theorem qGy (S:HS) (id sz off n:Nat) (ok:Prop) (nw:Bool) (ty:Nat) (els:List (List FV)) (c:Prop) (news:List (List FV)):vX S id sz off n ok nw ty els (some (c,news))=.go (c∧bM (off + n≤els.length∧0 < sz∧ok)) (.v (.int .i64 (cpn news n:Nat))) ⟨S.env,gJ id (.sl nw ty sz (cpy els off news n)) S.st⟩:=nr rfl
theorem qG3 (S:HS) (nid:Nat) (same str:Bool) (e sz by':Nat) (z:Array Value) (id:Nat) (x:HV):iN S nid same str (some (e,sz,by',z)) (some [.own id,x])=match (same || str) && z.size == sz with|true=>qC9 S id e sz by' same x (qQ0 same str S.st sz x) (rlk S.st id)|false=>.bad:=nr rfl
theorem qQx (st:aB) (sz id:Nat):qKv st sz (.own id)=match rlk st id with|some (.sl _ _ s els)=>some (bM (s=sz),els.map (List.map FV.h))|some (.hl _ _ s els)=>some (bM (s=sz),els)|_=>none:=nr rfl
theorem qQz (st:aB) (sz:Nat) (fr:Bool) (xs:List (List FV)):qKv st sz (.lst fr xs)=some (Wid sz xs,xs.map (List.map FV.h)):=nr rfl
theorem qQy (st:aB) (sz:Nat):qKv st sz (.v (.slice none 0 0))=some (True,[]):=nr rfl
theorem zEb (a b c d:Nat):(#[a,b] == #[c,d])=(a == c && b == d):=by rw [Bool.eq_iff_iff];simp
theorem zB6 (str:Bool) (st:aB) (sz:Nat) (x:HV):qQ0 true str st sz x=jM st sz x:=nr rfl
theorem zB7 (st:aB) (sz:Nat) (x:HV):qQ0 false true st sz x=qVx x:=nr rfl
theorem qQv (s:ByteArray):qVx (.v (.string s))=some (True,iU s):=nr rfl
theorem qG4 (S:HS) (nid:Nat) (same str:Bool) (e sz by':Nat) (z:Array Value) (x:HV):iN S nid same str (some (e,sz,by',z)) (some [.v (.slice none 0 0),x])=match same && z.size == sz with|true=>vY S nid e sz by' true [] (jM S.st sz x)|false=>.bad:=nr rfl
theorem qXq (S:HS) (id e sz by':Nat) (same:Bool) (x:HV) (news:Option (Prop × List (List FV))) (nw:Bool) (ty s:Nat) (els:List (List HV)):qC9 S id e sz by' same x news (some (.hl nw ty s els))=match same && (decide (ty=e) && decide (s=sz)) with|true=>qG5 S id e sz by' nw els (qKv S.st sz x)|false=>.bad:=nr rfl
theorem qXt (S:HS) (id e sz by':Nat) (nw:Bool) (els news:List (List HV)) (c:Prop):qG5 S id e sz by' nw els (some (c,news))=.go (c∧bM ((els.length + news.length) * by'≤140737488355328∧0 < by'∧0 < sz)) (.own id) ((S.kill (only id)).row id (.hl nw e sz (hkl id (els ++ news)))):=nr rfl
theorem qXr (S:HS) (id e sz by':Nat) (same:Bool) (x:HV) (news:Option (Prop × List (List FV))) (nw:Bool) (ty s:Nat) (els:List (List FV)):qC9 S id e sz by' same x news (some (.sl nw ty s els))=match decide (ty=e) && decide (s=sz) with|true=>vY S id e sz by' nw els news|false=>.bad:=nr rfl
theorem qXs (S:HS) (id e sz by':Nat) (nw:Bool) (els:List (List FV)) (c:Prop) (news:List (List FV)):vY S id e sz by' nw els (some (c,news))=.go (c∧bM ((els.length + news.length) * by'≤140737488355328∧0 < by'∧0 < sz)) (.own id) ((S.kill (only id)).row id (.sl nw e sz (els ++ news))):=nr rfl
theorem qQ3  : sB []=some []:=nr rfl
theorem qK5 (x:Value) (r:List HV):sB (.v x :: r)=match sB r with|some vs=>some (x :: vs)|none=>none:=nr rfl
theorem zJ1 (S:HS) (up:Bool) (t:TypeId) (neg:Bool) (xs ys:List HV):hEq S up t neg (some (.agg xs)) (some (.agg ys))=qUb t neg (sB xs) (sB ys):=nr rfl
theorem zC4 (S:HS) (up:Bool) (t:TypeId) (neg:Bool) (a b c d:Nat):hEq S up t neg (some (.ptr a b c d)) (some (.v (.pointer none)))=.go (bM (up=true)) (.v (.bool neg)) S:=nr rfl
theorem zC5 (S:HS) (up:Bool) (t:TypeId) (neg fr:Bool) (xs:List (List FV)) (a b c:Nat):hEq S up t neg (some (.elt fr xs a b c)) (some (.v (.pointer none)))=.go (bM (up=true)) (.v (.bool neg)) S:=nr rfl
theorem qSe (S:HS) (ok okB:Bool) (s:ByteArray):qM S ok okB (some (.v (.string s)))=.bytes okB s:=nr rfl
theorem qSf (S:HS) (ok okB:Bool) (id:Nat):qM S ok okB (some (.own id))=qBr S ok (rlk S.st id):=nr rfl
theorem qSg (S:HS) (ok okB fr:Bool) (xs:List (List FV)):qM S ok okB (some (.lst fr xs))=oP S ok (oY xs):=nr rfl
theorem qSh (S:HS) (ok nw:Bool) (t s:Nat) (els:List (List FV)):qBr S ok (some (.sl nw t s els))=oP S ok (oY els):=nr rfl
theorem qSi (S:HS) (ok:Bool) (ns:List Int):oP S ok (some ns)=.go (bM (ok=true)) (.v (.string (strOfNums ns))) S:=nr rfl
theorem qN2  : oY []=some []:=nr rfl
theorem qG8 (n:Int) (r:List (List FV)):oY ([.v (.int .u8 n)] :: r)=match oY r with|some ns=>some (n :: ns)|none=>none:=nr rfl
theorem zC6 (t:TypeId) (neg:Bool) (xs ys:List Value):qUb t neg (some xs) (some ys)=.eqn t xs ys neg:=nr rfl
theorem qXn (f:FuncId) (hs:List HV):qG0 f (some hs)=.call f hs:=nr rfl
theorem zEa (ats:Array TypeId):dJ ats=ats.getD 0 0:=nr rfl
theorem qQr (z:Array Value):qX z=z.toList.all (fun v=>v.oneCell'):=nr rfl
theorem zTp (x:Value):(HV.v x).f=some (.v x):=nr rfl
theorem zJy (i:Nat):(HV.own i).f=none:=nr rfl
theorem zQe (i s o n:Nat):(HV.vw i s o n).f=none:=nr rfl
theorem zJx (i s j k:Nat):(HV.ptr i s j k).f=none:=nr rfl
theorem zJz (fr:Bool) (xs:List (List FV)):(HV.lst fr xs).f=some (.lst fr xs):=nr rfl
theorem zCx  : HV.fs []=some []:=nr rfl
theorem qW3 (h:HV) (r:List HV):HV.fs (h :: r)=match h.f,HV.fs r with|some f,some fs=>some (f :: fs)|_,_=>none:=nr rfl
theorem zJ6 (x:Value):(FV.v x).one=x.oneCell':=nr rfl
theorem qXx (fr:Bool) (xs:List (List FV)):(FV.lst fr xs).one=true:=nr rfl
theorem zJs (x:Value):(HV.v x).one=x.oneCell':=nr rfl
theorem qWu (fr:Bool) (xs:List (List FV)):(HV.lst fr xs).one=true:=nr rfl
theorem qWt (i:Nat):(HV.own i).one=true:=nr rfl
theorem qWs (i s j k:Nat):(HV.ptr i s j k).one=true:=nr rfl
theorem zTr (x:Value):(FV.v x).h=.v x:=nr rfl
theorem zKx (fr:Bool) (xs:List (List FV)):(FV.lst fr xs).h=.lst fr xs:=nr rfl
theorem zB3 (k:IntKind) (n:Int):Value.oneCell' (.int k n)=true:=nr rfl
theorem qL5 (k:IntKind) (n:Int):dF (.v (.int k n))=some [.v (.int k n)]:=nr rfl
theorem qVu (b:Bool):Value.oneCell' (.bool b)=true:=nr rfl
theorem qGo (b:Bool):dF (.v (.bool b))=some [.v (.bool b)]:=nr rfl
theorem zB1 (s:ByteArray):Value.oneCell' (.string s)=true:=nr rfl
theorem qL3 (s:ByteArray):dF (.v (.string s))=some [.v (.string s)]:=nr rfl
theorem qQq (a:Option Addr) (n c:Nat):Value.oneCell' (.slice a n c)=true:=nr rfl
theorem qC6 (a:Option Addr) (n c:Nat):dF (.v (.slice a n c))=some [.v (.slice a n c)]:=nr rfl
theorem zB2 (a:Option Addr):Value.oneCell' (.pointer a)=true:=nr rfl
theorem qL4 (a:Option Addr):dF (.v (.pointer a))=some [.v (.pointer a)]:=nr rfl
theorem qL9 (cs:List HV):dF (.agg cs)=some cs:=nr rfl
theorem qL8 (fr:Bool) (xs:List (List FV)):dF (.lst fr xs)=some [.lst fr xs]:=nr rfl
theorem qL7 (i:Nat):dF (.own i)=some [.own i]:=nr rfl
theorem qL6 (i s j k:Nat):dF (.ptr i s j k)=some [.ptr i s j k]:=nr rfl
theorem qP3 {α:Type} (l:List α) (k:Nat) (cs:List α):splice l k cs=l.take k ++ cs ++ l.drop (k + cs.length):=nr rfl
theorem lR (e:aJ) (s:aB) (p:Nat→Bool):HS.kill ⟨e,s⟩ p=⟨gZ p e,cR p s⟩:=nr rfl
theorem qS (e:aJ) (s:aB) (id:Nat) (r:Row):HS.row ⟨e,s⟩ id r=⟨e,(id,r) :: s⟩:=nr rfl
theorem qVa (e:aJ) (s:aB) (k:Nat) (h:HV):HS.set ⟨e,s⟩ (some k) h=⟨(k,h) :: e,s⟩:=nr rfl
theorem qVb (S:HS) (h:HV):HS.set S none h=S:=nr rfl
theorem qT (e:aJ) (s:aB) (d:Nat) (h:HV):HS.rep ⟨e,s⟩ d h=⟨rD d h e,s⟩:=nr rfl
theorem iZ (d:Nat) (h:HV):rD d h []=[]:=nr rfl
theorem gU (d:Nat) (h:HV) (k:Nat) (x:HV) (r:aJ):rD d h ((k,x) :: r)=if k=d then (k,h) :: r else (k,x) :: rD d h r:=nr rfl
theorem fE (p:Nat→Bool):gZ p []=[]:=nr rfl
theorem eE (p:Nat→Bool) (k:Nat) (h:HV) (r:aJ):gZ p ((k,h) :: r)=(k,h.kill p) :: gZ p r:=nr rfl
theorem eW (p:Nat→Bool):cR p []=[]:=nr rfl
theorem dZ (p:Nat→Bool) (k:Nat) (h:Row) (r:aB):cR p ((k,h) :: r)=bif p k then cR p r else (k,h.kill p) :: cR p r:=nr rfl
theorem fX (p:Nat→Bool) (nw:Bool) (t s:Nat) (xs:List (List FV)):(Row.sl nw t s xs).kill p=.sl nw t s xs:=nr rfl
theorem fY (p:Nat→Bool) (nw:Bool) (t s:Nat) (xs:List (List HV)):(Row.hl nw t s xs).kill p=.hl nw t s (xs.map (List.map (HV.kill p))):=nr rfl
theorem fZ (p:Nat→Bool) (nw:Bool) (t:Nat) (cs:List HV):(Row.bx nw t cs).kill p=.bx nw t (cs.map (HV.kill p)):=nr rfl
theorem iM (p:Nat→Bool) (x:Value):HV.kill p (.v x)=.v x:=by rw [HV.kill]
theorem qE2 (m:Nat→Option Nat) (x:Value):HV.ren m (.v x)=.v x:=by rw [HV.ren]
theorem vT (id:Nat) (x0:HV) (x:Value):HV.sub id x0 (.v x)=.v x:=by rw [HV.sub]
theorem fC (p:Nat→Bool) (fr:Bool) (xs:List (List FV)):HV.kill p (.lst fr xs)=.lst fr xs:=by rw [HV.kill]
theorem sG (m:Nat→Option Nat) (fr:Bool) (xs:List (List FV)):HV.ren m (.lst fr xs)=.lst fr xs:=by rw [HV.ren]
theorem mG (id:Nat) (x0:HV) (fr:Bool) (xs:List (List FV)):HV.sub id x0 (.lst fr xs)=.lst fr xs:=by rw [HV.sub]
theorem gV (p:Nat→Bool) (fr:Bool) (xs:List (List FV)) (s j k:Nat):HV.kill p (.elt fr xs s j k)=.elt fr xs s j k:=by rw [HV.kill]
theorem qWp (m:Nat→Option Nat) (fr:Bool) (xs:List (List FV)) (s j k:Nat):HV.ren m (.elt fr xs s j k)=.elt fr xs s j k:=by rw [HV.ren]
theorem mH (id:Nat) (x0:HV) (fr:Bool) (xs:List (List FV)) (s j k:Nat):HV.sub id x0 (.elt fr xs s j k)=.elt fr xs s j k:=by rw [HV.sub]
theorem eD (p:Nat→Bool):HV.kill p .junk=.junk:=by rw [HV.kill]
theorem sJ (m:Nat→Option Nat):HV.ren m .junk=.junk:=by rw [HV.ren]
theorem jR (id:Nat) (x0:HV):HV.sub id x0 .junk=.junk:=by rw [HV.sub]
theorem fB (p:Nat→Bool) (i:Nat):HV.kill p (.own i)=bif p i then .junk else .own i:=by rw [HV.kill]
theorem fA (p:Nat→Bool) (i s j k:Nat):HV.kill p (.ptr i s j k)=bif p i then .junk else .ptr i s j k:=by rw [HV.kill]
theorem fD (p:Nat→Bool) (cs:List HV):HV.kill p (.agg cs)=.agg (cs.map (HV.kill p)):=by rw [HV.kill]
theorem eZ (p:Nat→Bool) (cs:List HV):HV.kill p (.tup cs)=.tup (cs.map (HV.kill p)):=by rw [HV.kill]
theorem sF (m:Nat→Option Nat) (i:Nat):HV.ren m (.own i)=match m i with|some j=>.own j|none=>.junk:=by rw [HV.ren];cases m i <;> rfl
theorem vU (m:Nat→Option Nat) (i s j k:Nat):HV.ren m (.ptr i s j k)=match m i with|some i'=>.ptr i' s j k|none=>.junk:=by rw [HV.ren];cases m i <;> rfl
theorem sK (m:Nat→Option Nat) (cs:List HV):HV.ren m (.agg cs)=.agg (cs.map (HV.ren m)):=by rw [HV.ren]
theorem sE (m:Nat→Option Nat) (cs:List HV):HV.ren m (.tup cs)=.tup (cs.map (HV.ren m)):=by rw [HV.ren]
theorem mF (id:Nat) (x0:HV) (i:Nat):HV.sub id x0 (.own i)=if i=id then x0 else .own i:=by rw [HV.sub]
theorem mE (id:Nat) (x0:HV) (i s j k:Nat):HV.sub id x0 (.ptr i s j k)=if i=id then .junk else .ptr i s j k:=by rw [HV.sub]
theorem mJ (id:Nat) (x0:HV) (cs:List HV):HV.sub id x0 (.agg cs)=.agg (cs.map (HV.sub id x0)):=by rw [HV.sub]
theorem mD (id:Nat) (x0:HV) (cs:List HV):HV.sub id x0 (.tup cs)=.tup (cs.map (HV.sub id x0)):=by rw [HV.sub]
theorem wN (m:Nat→Option Nat) (nw:Bool) (t s:Nat) (xs:List (List FV)):(Row.sl nw t s xs).ren m=.sl nw t s xs:=nr rfl
theorem wP (m:Nat→Option Nat) (nw:Bool) (t s:Nat) (xs:List (List HV)):(Row.hl nw t s xs).ren m=.hl nw t s (xs.map (List.map (HV.ren m))):=nr rfl
theorem wQ (m:Nat→Option Nat) (nw:Bool) (t:Nat) (cs:List HV):(Row.bx nw t cs).ren m=.bx nw t (cs.map (HV.ren m)):=nr rfl
theorem pK (id:Nat) (x0:HV) (nw:Bool) (t s:Nat) (xs:List (List FV)):(Row.sl nw t s xs).sub id x0=.sl nw t s xs:=nr rfl
theorem pM (id:Nat) (x0:HV) (nw:Bool) (t s:Nat) (xs:List (List HV)):(Row.hl nw t s xs).sub id x0=.hl nw t s (xs.map (List.map (HV.sub id x0))):=nr rfl
theorem pN (id:Nat) (x0:HV) (nw:Bool) (t:Nat) (cs:List HV):(Row.bx nw t cs).sub id x0=.bx nw t (cs.map (HV.sub id x0)):=nr rfl
theorem iL (id i:Nat):only id i=(i == id):=nr rfl
theorem qX9 (n i:Nat):eG n i=(decide (n≤i) && decide (i < n + 8)):=by rw [Bool.eq_iff_iff];simp [eG]
theorem zPm (n i:Nat):sh n i=bif decide (i < 8) then some (n + i) else none:=by unfold sh;congr 1;rw [Bool.eq_iff_iff];simp
theorem zEc (e:aJ) (s:aB) (n:Nat) (st:aB):HS.adds ⟨e,s⟩ n st=⟨gZ (eG n) e,qCp n st (cR (eG n) s)⟩:=nr rfl
theorem qQf (n:Nat) (b:aB):qCp n [] b=b:=nr rfl
theorem qJv (n k:Nat) (r:Row) (t b:aB):qCp n ((k,r) :: t) b=(n + k,r.ren (sh n)) :: qCp n t b:=nr rfl
theorem pQ (e:aJ) (s:aB) (id:Nat) (x:HV):HS.rest ⟨e,s⟩ id x=⟨qX6 id x e,qH8 id x s⟩:=nr rfl
theorem mK (id:Nat) (x:HV):qX6 id x []=[]:=nr rfl
theorem jU (id:Nat) (x:HV) (k:Nat) (h:HV) (r:aJ):qX6 id x ((k,h) :: r)=(k,HV.sub id x h) :: qX6 id x r:=nr rfl
theorem lU (id:Nat) (x:HV):qH8 id x []=[]:=nr rfl
theorem jN (id:Nat) (x:HV) (k:Nat) (h:Row) (r:aB):qH8 id x ((k,h) :: r)=if k=id then qH8 id x r else (k,h.sub id x) :: qH8 id x r:=nr rfl
theorem qU0 (id:Nat) (r:Row):gJ id r []=[]:=nr rfl
theorem qP2 (id:Nat) (r:Row) (k:Nat) (s:Row) (t:aB):gJ id r ((k,s) :: t)=if k=id then (k,r) :: t else (k,s) :: gJ id r t:=nr rfl
theorem zC3 (l:aJ) (ds:List (Option Nat)):hG l ds none=.yes:=nr rfl
theorem zC2 (l:aJ) (ds:List (Option Nat)) (j:Nat) (want:Bool):hG l ds (some (j,want))=match ds[j]? with|some (some d)=>hGv d want (hlk l d)|_=>.bad:=nr rfl
theorem qXl (d:Nat) (want b:Bool):hGv d want (some (.v (.bool b)))=.ask d b want:=nr rfl
theorem zC1 (d:Nat) (want:Bool) (vs:Array Value):hGv d want (some (.v (.tuple vs)))=.no:=nr rfl
theorem zJu (P:Program) (d:Option Nat) (S:HS) (K:HS→Prop) (c:Prop) (h:HV) (S':HS):qFp P d S K (.go c h S')=(c∧K (S'.set d h)):=nr rfl
theorem qW1 (P:Program) (d:Option Nat) (S:HS) (K:HS→Prop) (f:FuncId) (args:List HV):qFp P d S K (.call f args)=HAt P f args S (fun h S'=>kN K (S'.set d h)):=nr rfl
theorem zCv (P:Program) (d:Option Nat) (S:HS) (K:HS→Prop) (t:TypeId) (x y:List Value) (neg:Bool):qFp P d S K (.eqn t x y neg)=∃ r,EqR P t x.toArray y.toArray r∧kN K (S.set d (.v (.bool (neg ^^ r)))):=nr rfl
theorem qRp (P:Program) (d:Option Nat) (S:HS) (K:HS→Prop) (ok:Bool) (s:ByteArray):qFp P d S K (.bytes ok s)=(bM (ok=true∧s.size≤9223372036854775807)∧K (S.set d (.lst true (iU s)))):=nr rfl
theorem zJv (P:Program) (N:Nat) (o:Oper) (S:HS) (K:HS→Prop):HGo P N o S K=zNr P N o (kQ S o.op) K:=nr rfl
theorem zCw (P:Program) (N:Nat) (o:Oper) (S:HS) (K:HS→Prop):zNr P N o S K=match eU N o.dst with|true=>qFp P o.dst S K (hop P S (oK o.dst) o.op)|false=>False:=nr rfl
theorem qRg (S:HS) (x:Operand):kQ S (.move x)=S:=nr rfl
theorem qGl (S:HS) (x:Operand):kQ S (.assign x)=S:=nr rfl
theorem qRe (S:HS) (c a b:Operand):kQ S (.pick c a b)=S:=nr rfl
theorem qCz (S:HS) (x:Operand) (i:Nat):kQ S (.extract x i)=S:=nr rfl
theorem qLj (S:HS) (t:TypeId) (x:Operand) (f:Nat):kQ S (.field t x f)=S:=nr rfl
theorem qLk (S:HS) (t:TypeId) (x:Operand) (f:Nat):kQ S (.fieldAddr t x f)=S:=nr rfl
theorem qRf (S:HS) (x:Operand):kQ S (.nilCheck x)=S:=nr rfl
theorem qLi (S:HS) (t:TypeId) (x i:Operand):kQ S (.indexAddr t x i)=S:=nr rfl
theorem qLg (S:HS) (t:TypeId) (x:Operand) (l h m:Option Operand):kQ S (.slice t x l h m)=S:=nr rfl
theorem qRi (S:HS) (t:TypeId) (x:Operand):kQ S (.load t x)=S:=nr rfl
theorem qLl (S:HS) (t:TypeId) (ps:Array (Nat × Operand)):kQ S (.build t ps)=S:=nr rfl
theorem qWr (S:HS) (b:BinOp) (t:TypeId) (x y:Operand) (u:TypeId):kQ S (.binOp b t x y u)=S:=nr rfl
theorem zCo (S:HS) (u:UnOp) (t:TypeId) (x:Operand):kQ S (.unOp u t x)=S:=nr rfl
theorem qRj (S:HS) (s d:TypeId) (x:Operand):kQ S (.convert s d x)=S:=nr rfl
theorem qLh (S:HS) (t:TypeId) (x i:Operand):kQ S (.index t x i)=S:=nr rfl
theorem qRk (S:HS) (c:Call):kQ S (.call c)=S:=nr rfl
theorem qLm (S:HS) (t:TypeId):kQ S (.alloc t)=S:=nr rfl
theorem qWq (S:HS) (t:TypeId) (x:Operand):kQ S (.box t x)=S:=nr rfl
theorem qRh (S:HS) (t:TypeId) (x y:Operand):kQ S (.makeSlice t x y)=S:=nr rfl
theorem qLf (S:HS) (t:TypeId) (x y:Operand):kQ S (.store t x y)=restAll S (zHz S (hev S.env x) (hev S.env y)):=nr rfl
theorem qGk (S:HS) (t n:TypeId) (ps:Array (Nat × Operand)):kQ S (.buildSlice t n ps)=restAll S (zH0 (iC S.env ps.toList)):=nr rfl
theorem qVm (S:HS) (id sz i k:Nat) (h:HV):zHz S (some (.ptr id sz i k)) (some h)=qVq S h (rlk S.st id):=nr rfl
theorem qVn (S:HS) (h:HV) (nw:Bool) (ty s:Nat) (els:List (List FV)):qVq S h (some (.sl nw ty s els))=tY h:=nr rfl
theorem qVp (S:HS) (h:HV) (nw:Bool) (ty:Nat) (cs:List HV):qVq S h (some (.bx nw ty cs))=[]:=nr rfl
theorem qVr (ps:List (Nat × HV)):zH0 (some ps)=ps.flatMap fun p=>tY p.2:=nr rfl
theorem qKj (i:Nat):tY (.own i)=[i]:=nr rfl
theorem qVs (x:Value):tY (.v x)=[]:=nr rfl
theorem qKk (fr:Bool) (xs:List (List FV)):tY (.lst fr xs)=[]:=nr rfl
theorem qKl (cs:List HV):tY (.agg cs)=cs.flatMap wU:=nr rfl
theorem qGf (i:Nat):wU (.own i)=[i]:=nr rfl
theorem qQp (x:Value):wU (.v x)=[]:=nr rfl
theorem qGg (fr:Bool) (xs:List (List FV)):wU (.lst fr xs)=[]:=nr rfl
theorem qF5 (S:HS):restAll S []=S:=nr rfl
theorem qCn (S:HS) (i:Nat) (r:List Nat):restAll S (i :: r)=restAll (qCm S i) r:=nr rfl
theorem qJs (e:aJ) (s:aB) (i:Nat):qCm ⟨e,s⟩ i=match decide (i < 1000000) with|true=>(match rlk s i with|some (.sl nw _ _ els)=>HS.rest ⟨e,s⟩ i (.lst nw els)|_=>⟨e,s⟩)|false=>⟨e,s⟩:=by unfold qCm;rw [show Nat.blt i held=decide (i < 1000000) by rw [Bool.eq_iff_iff];simp [Nat.blt_eq,held]];rfl
theorem qVo (S:HS) (h:HV) (nw:Bool) (ty s:Nat) (els:List (List HV)):qVq S h (some (.hl nw ty s els))=[]:=nr rfl
theorem qWm (N:Nat) (d:Option Nat) (S:HS) (K:HS→Prop):kP N d S K=match eU N d with|true=>K (S.set d (.v undef))|false=>False:=nr rfl
theorem qRc (P:Program) (N:Nat) (o:Oper) (S:HS) (K:HS→Prop):qTc P N o S K .yes=HGo P N o S K:=nr rfl
theorem qWl (P:Program) (N:Nat) (o:Oper) (S:HS) (K:HS→Prop):qTc P N o S K .no=kP N o.dst S K:=nr rfl
theorem qRd (P:Program) (N:Nat) (o:Oper) (S:HS) (K:HS→Prop) (d:Nat) (b want:Bool):qTc P N o S K (.ask d b want)=match b == want with|true=>HGo P N o (S.rep d (.v (.bool want))) K|false=>kP N o.dst (S.rep d (.v (.bool (!want)))) K:=nr rfl
theorem zCn (P:Program) (N:Nat) (ds:List (Option Nat)) (K:HS→Prop) (S:HS):HV2 P N ds K [] S=K S:=nr rfl
theorem qWk (P:Program) (N:Nat) (ds:List (Option Nat)) (K:HS→Prop) (o:Oper) (rest:List Oper) (S:HS):HV2 P N ds K (o :: rest) S=qTc P N o S (HV2 P N ds K rest) (hG S.env ds o.guard):=nr rfl
theorem zCt (P:Program) (o:Oper) (S:HS) (K:HS→Prop) (c:Prop) (h:HV) (S':HS):qDy P o S K (.go c h S')=(dN o.op=true∧c∧K (S.set o.dst h)):=nr rfl
theorem qRo (P:Program) (o:Oper) (S:HS) (K:HS→Prop) (f:FuncId) (args:List HV):qDy P o S K (.call f args)=zR4 P f args S (fun x=>kN K (S.set o.dst (.v x))):=nr rfl
theorem qW0 (P:Program) (o:Oper) (S:HS) (K:HS→Prop) (t:TypeId) (x y:List Value) (neg:Bool):qDy P o S K (.eqn t x y neg)=∃ r,EqR P t x.toArray y.toArray r∧kN K (S.set o.dst (.v (.bool (neg ^^ r)))):=nr rfl
theorem zCu (P:Program) (N:Nat) (o:Oper) (S:HS) (K:HS→Prop):qYy P N o S K=match eU N o.dst with|true=>qDy P o S K (hop P S (oK o.dst) o.op)|false=>False:=nr rfl
theorem qLc (P:Program) (N:Nat) (o:Oper) (S:HS) (K:HS→Prop):qFo P N o S K .yes=qYy P N o S K:=nr rfl
theorem qRb (P:Program) (N:Nat) (o:Oper) (S:HS) (K:HS→Prop):qFo P N o S K .no=kP N o.dst S K:=nr rfl
theorem qLd (P:Program) (N:Nat) (o:Oper) (S:HS) (K:HS→Prop) (d:Nat) (b want:Bool):qFo P N o S K (.ask d b want)=match b == want with|true=>qYy P N o (S.rep d (.v (.bool want))) K|false=>kP N o.dst (S.rep d (.v (.bool (!want)))) K:=nr rfl
theorem zCm (P:Program) (N:Nat) (ds:List (Option Nat)) (K:HS→Prop) (S:HS):HVq P N ds K [] S=K S:=nr rfl
theorem qWi (P:Program) (N:Nat) (ds:List (Option Nat)) (K:HS→Prop) (o:Oper) (rest:List Oper) (S:HS):HVq P N ds K (o :: rest) S=qFo P N o S (HVq P N ds K rest) (hG S.env ds o.guard):=nr rfl
theorem qP9 (t:Nat):bR (.tmp t)=[t]:=nr rfl
theorem qF3 (v:Value):bR (.const v)=[]:=nr rfl
theorem qCk (g:Nat):bR (.global g)=[]:=nr rfl
theorem qJk (f:FuncId):bR (.func f)=[]:=nr rfl
theorem qJh  : tK []=[]:=nr rfl
theorem qF2 (x:Operand) (r:List Operand):tK (x :: r)=bR x ++ tK r:=nr rfl
theorem qJf  : mP []=[]:=nr rfl
theorem qF0 (k:Nat) (x:Operand) (r:List (Nat × Operand)):mP ((k,x) :: r)=bR x ++ mP r:=nr rfl
theorem qJl (x:Operand):qF4 (some x)=bR x:=nr rfl
theorem qJm  : qF4 none=[]:=nr rfl
theorem qCf (x:Operand):bK (.move x)=bR x:=nr rfl
theorem uZ (x:Operand):bK (.assign x)=bR x:=nr rfl
theorem qCe (x:Operand):bK (.nilCheck x)=bR x:=nr rfl
theorem qCd (c a b:Operand):bK (.pick c a b)=bR c ++ (bR a ++ bR b):=nr rfl
theorem uP (x:Operand) (i:Nat):bK (.extract x i)=bR x:=nr rfl
theorem yZ (t:TypeId) (x:Operand) (f:Nat):bK (.field t x f)=bR x:=nr rfl
theorem zF (t:TypeId) (x:Operand) (f:Nat):bK (.fieldAddr t x f)=bR x:=nr rfl
theorem qCg (t:TypeId) (x:Operand):bK (.load t x)=bR x:=nr rfl
theorem qJg (u:UnOp) (t:TypeId) (x:Operand):bK (.unOp u t x)=bR x:=nr rfl
theorem qCh (s d:TypeId) (x:Operand):bK (.convert s d x)=bR x:=nr rfl
theorem yY (t:TypeId) (x i:Operand):bK (.indexAddr t x i)=bR x ++ bR i:=nr rfl
theorem yX (t:TypeId) (x i:Operand):bK (.index t x i)=bR x ++ bR i:=nr rfl
theorem xZ (t:TypeId) (x:Operand) (l h:Option Operand):bK (.slice t x l h none)=bR x ++ (qF4 l ++ qF4 h):=nr rfl
theorem qF1 (b:BinOp) (t:TypeId) (x y:Operand) (u:TypeId):bK (.binOp b t x y u)=bR x ++ bR y:=nr rfl
theorem qAa (t:TypeId) (ps:Array (Nat × Operand)):bK (.build t ps)=mP ps.toList:=nr rfl
theorem oD (t:TypeId) (n:Nat) (ps:Array (Nat × Operand)):bK (.buildSlice t n ps)=mP ps.toList:=nr rfl
theorem yR (t:TypeId) (x y:Operand):bK (.makeSlice t x y)=bR x ++ bR y:=nr rfl
theorem qCi (k:Callee) (args:Array Operand) (ats:Array TypeId):bK (.call ⟨k,args,ats⟩)=qJj k ++ tK args.toList:=nr rfl
theorem qCj (x:Operand):qJj (.value x)=bR x:=nr rfl
theorem vA (b:Builtin):qJj (.builtin b)=[]:=nr rfl
theorem qJo (ds:List (Option Nat)):gK ds none=[]:=nr rfl
theorem qJn (ds:List (Option Nat)) (g:Nat) (b:Bool):gK ds (some (g,b))=match ds[g]? with|some (some d)=>[d]|_=>[]:=nr rfl
theorem qQk (e:aJ):iY e []=[]:=nr rfl
theorem qKf (e:aJ) (t:Nat) (r:List Nat):iY e (t :: r)=match hlk e t with|some h=>(t,h) :: iY e r|none=>iY e r:=nr rfl
theorem qKb  : kX []=true:=nr rfl
theorem qVj (k:Nat) (v:Value) (r:aJ):kX ((k,.v v) :: r)=kX r:=nr rfl
theorem qKc (k:Nat) (b:Bool) (xs:List (List FV)) (r:aJ):kX ((k,.lst b xs) :: r)=kX r:=nr rfl
theorem qKd (k:Nat) (hs:List HV) (r:aJ):kX ((k,.agg hs) :: r)=kX r:=nr rfl
theorem qWv (d:Option Nat) (S:HS) (K:HS→Prop) (c:Prop) (i:Nat) (S':HS):zEe d S K (.go c (.own i) S')=match rlk S'.st i with|some (.sl _ _ _ els)=>c∧K (S.set d (.lst true els))|_=>False:=nr rfl
theorem qGj (t:TypeId) (n:Nat) (ps:Array (Nat × Operand)):zJb (.buildSlice t n ps)=true:=nr rfl
theorem qKy (t:TypeId) (x y:Operand):zJb (.makeSlice t x y)=true:=nr rfl
theorem qCq (t:TypeId) (n:Nat) (ps:Array (Nat × Operand)):dN (.buildSlice t n ps)=false:=nr rfl
theorem qF7 (t:TypeId) (x y:Operand):dN (.makeSlice t x y)=false:=nr rfl
theorem zCr (P:Program) (o:Oper) (S T:HS) (K:HS→Prop) (c:Prop) (h:HV) (S':HS):xU P o S T K (.go c h S')=match dN o.op with|true=>c∧K (S.set o.dst h)|false=>(match zJb o.op && kX T.env with|true=>zEe o.dst S K (hop P ⟨T.env,[]⟩ (oK o.dst) o.op)|false=>False):=nr rfl
theorem qRn (P:Program) (o:Oper) (S T:HS) (K:HS→Prop) (f:FuncId) (args:List HV):xU P o S T K (.call f args)=zLz P f args T (fun x=>kN K (S.set o.dst x)):=nr rfl
theorem qWz (P:Program) (o:Oper) (S T:HS) (K:HS→Prop) (t:TypeId) (x y:List Value) (neg:Bool):xU P o S T K (.eqn t x y neg)=∃ r,EqR P t x.toArray y.toArray r∧kN K (S.set o.dst (.v (.bool (neg ^^ r)))):=nr rfl
theorem zCs (P:Program) (N:Nat) (o:Oper) (S T:HS) (K:HS→Prop):zAw P N o S T K=match eU N o.dst with|true=>xU P o S T K (hop P T (oK o.dst) o.op)|false=>False:=nr rfl
theorem qLa (P:Program) (N:Nat) (o:Oper) (S T:HS) (K:HS→Prop):iH P N o S T K .yes=zAw P N o S T K:=nr rfl
theorem qRa (P:Program) (N:Nat) (o:Oper) (S T:HS) (K:HS→Prop):iH P N o S T K .no=kP N o.dst S K:=nr rfl
theorem qLb (P:Program) (N:Nat) (o:Oper) (S T:HS) (K:HS→Prop) (d:Nat) (b want:Bool):iH P N o S T K (.ask d b want)=match b == want with|true=>zAw P N o (S.rep d (.v (.bool want))) (T.rep d (.v (.bool want))) K|false=>kP N o.dst (S.rep d (.v (.bool (!want)))) K:=nr rfl
theorem zCl (P:Program) (N:Nat) (ds:List (Option Nat)) (K:HS→Prop) (S:HS):HVr P N ds K [] S=K S:=nr rfl
theorem qWh (P:Program) (N:Nat) (ds:List (Option Nat)) (K:HS→Prop) (o:Oper) (rest:List Oper) (S:HS):HVr P N ds K (o :: rest) S=iH P N o S ⟨iY S.env (gK ds o.guard ++ bK o.op),S.st⟩ (HVr P N ds K rest) (hG (iY S.env (gK ds o.guard ++ bK o.op)) ds o.guard):=nr rfl
theorem qQ8 (k:Nat):oK (some k)=8 * k:=nr rfl
theorem qQ9  : oK none=0:=nr rfl
theorem qJy (x:Operand):dN (.move x)=true:=nr rfl
theorem qCr (x:Operand):dN (.assign x)=true:=nr rfl
theorem qJw (c a b:Operand):dN (.pick c a b)=true:=nr rfl
theorem qAb (x:Operand) (i:Nat):dN (.extract x i)=true:=nr rfl
theorem qGa (t:TypeId) (x:Operand) (f:Nat):dN (.field t x f)=true:=nr rfl
theorem qGb (t:TypeId) (x:Operand) (f:Nat):dN (.fieldAddr t x f)=true:=nr rfl
theorem qJx (x:Operand):dN (.nilCheck x)=true:=nr rfl
theorem qF9 (t:TypeId) (x i:Operand):dN (.indexAddr t x i)=true:=nr rfl
theorem qF6 (t:TypeId) (x:Operand) (l h m:Option Operand):dN (.slice t x l h m)=true:=nr rfl
theorem qJz (t:TypeId) (x:Operand):dN (.load t x)=true:=nr rfl
theorem qGc (t:TypeId) (ps:Array (Nat × Operand)):dN (.build t ps)=true:=nr rfl
theorem qQi (b:BinOp) (t:TypeId) (x y:Operand) (u:TypeId):dN (.binOp b t x y u)=true:=nr rfl
theorem qVi (u:UnOp) (t:TypeId) (x:Operand):dN (.unOp u t x)=true:=nr rfl
theorem qJ0 (s d:TypeId) (x:Operand):dN (.convert s d x)=true:=nr rfl
theorem qF8 (t:TypeId) (x i:Operand):dN (.index t x i)=true:=nr rfl
theorem qQh (args:Array Operand) (ats:Array TypeId):dN (.call ⟨.builtin .len,args,ats⟩)=true:=nr rfl
theorem qQg (args:Array Operand) (ats:Array TypeId):dN (.call ⟨.builtin .min,args,ats⟩)=true:=nr rfl
theorem qS9 (k:Nat):uS k []=[]:=nr rfl
theorem qN6 (k:Nat) (v:HV) (r:List HV):uS k (v :: r)=(k,v) :: uS (k + 1) r:=nr rfl
theorem zZ (e:aJ) (s:aB) (ks ids:List Nat):HS.keep ⟨e,s⟩ ks ids=⟨vW ks e,rQ ids s⟩:=nr rfl
theorem zR (l:aJ):vW [] l=[]:=nr rfl
theorem zP (k:Nat) (r:List Nat) (l:aJ):vW (k :: r) l=match hlk l k with|some v=>(k,v) :: vW r l|none=>vW r l:=nr rfl
theorem zQ (l:aB):rQ [] l=[]:=nr rfl
theorem zN (k:Nat) (r:List Nat) (l:aB):rQ (k :: r) l=match rlk l k with|some v=>(k,v) :: rQ r l|none=>rQ r l:=nr rfl
theorem yA (P:Program) (rs:List ResultVar) (Q:HV→aB→Prop) (S:HS):zJw P rs Q .normal S=pD P S rs fun hs=>qB5 S (qBq hs) Q:=nr rfl
theorem yM (P:Program) (rs:List ResultVar) (Q:HV→aB→Prop) (S:HS):zJw P rs Q .ret S=pD P S rs fun hs=>qB5 S (qBq hs) Q:=nr rfl
theorem yH (P:Program) (S:HS) (K:List HV→Prop):pD P S [] K=K []:=nr rfl
theorem aA (P:Program) (S:HS) (p ty:Nat) (r:List ResultVar) (K:List HV→Prop):pD P S (.cell p ty :: r) K=zQ1 (qG S (aY P ty) (hlk S.env p)) fun h=>pD P S r fun hs=>K (h :: hs):=nr rfl
theorem aD (c:Prop) (h:HV) (S:HS) (K:HV→Prop):zQ1 (.go c h S) K=(c∧K h):=nr rfl
theorem yE (P:Program) (S:HS) (t:Nat) (r:List ResultVar) (K:List HV→Prop):pD P S (.tmp t :: r) K=match hlk S.env t with|some h=>pD P S r fun hs=>K (h :: hs)|none=>False:=nr rfl
theorem yK (h:HV):qBq [h]=h:=nr rfl
theorem yJ (a b:HV) (r:List HV):qBq (a :: b :: r)=.tup (a :: b :: r):=nr rfl
theorem zMn (i:Nat):pos [] i=none:=nr rfl
theorem yF (k:Nat) (r:List Nat) (i:Nat):pos (k :: r) i=if k=i then some 0 else (pos r i).map (· + 1):=nr rfl
theorem zE1 (m:Nat→Option Nat) (st:aB) (k:Nat):iR m st k []=[]:=nr rfl
theorem yG (m:Nat→Option Nat) (st:aB) (k id:Nat) (r:List Nat):iR m st k (id :: r)=match rlk st id with|some row=>(k,row.ren m) :: iR m st (k + 1) r|none=>iR m st (k + 1) r:=nr rfl
theorem qNy {p:Prop} (h:p):bM p=True:=eq_true h
theorem qSx:bM True=True:=rfl
theorem ltT {a b:Int} (h:a < b):decide (a < b)=true:=decide_eq_true h
theorem ltF {a b:Int} (h:b≤a):decide (a < b)=false:=decide_eq_false (by omega)
theorem leT {a b:Int} (h:a≤b):decide (a≤b)=true:=decide_eq_true h
theorem leF {a b:Int} (h:b < a):decide (a≤b)=false:=decide_eq_false (by omega)
theorem eqT {a b:Int} (h:a=b):decide (a=b)=true:=decide_eq_true h
theorem eqF {a b:Int} (h:a < b∨b < a):decide (a=b)=false:=decide_eq_false (by omega)
theorem zM2 {α:Type} {l:List α} {i:Nat} {d:α} (h:i < l.length):l.getD i d=l[i]:=eR h
theorem sR {α β:Type} {f:α→β} {l:List α} {i:Nat} {d:β} (h:i < l.length):(l.map f).getD i d=f (l[i]):=by rw [zM2 (by simpa using h),List.getElem_map]
theorem qNc:(default:FV)=.v (.bool false):=rfl
theorem zQr {x:Int} (h1:-9223372036854775808≤x) (h2:x≤9223372036854775807):IntKind.i64.wrap x=x:=zSj ⟨by unfold zS6;exact h1,by unfold zTn;exact h2⟩
theorem qH4 (n:Nat):((n:Int) + 1).toNat=n + 1:=by omega
theorem qPw (n m:Nat):((n:Int) + (m:Int)).toNat=n + m:=by omega
theorem qB6 {α:Type} {f:α→List FV} {sz:Nat} (l:List α) (h:∀ a,(f a).length=sz):Wid sz (l.map f):=fun x hx=>by
 obtain ⟨a,-,rfl⟩:=List.mem_map.1 hx;exact h a
end Go.Eng
end

section
namespace Go.Eng
open Go Go.RowKit
def qUz (s:ByteArray):List FV:=[.v (.string s)]
def cX (a:List ByteArray):List (List FV):=a.map qUz
theorem cY (a:List ByteArray):(cX a).length=a.length:=by simp [cX]
theorem rM (a:List ByteArray):Wid 1 (cX a)=True:=eq_true (qB6 a fun _=>rfl)
theorem qCa {a:List ByteArray} {i:Nat} {d:List FV} (h:i < a.length):(cX a).getD i d=[.v (.string a[i])]:=by unfold cX;rw [sR h];rfl
theorem tG (a:List ByteArray):∀ x ∈ cX a,∀ f ∈ x,FreshF f:=fun x hx f hf=>by
 obtain ⟨s,-,rfl⟩:=List.mem_map.1 hx;simp [qUz] at hf;subst hf;exact .v _
theorem kR (a:List ByteArray) (s:ByteArray):cX a ++ [[.v (.string s)]]=cX (a ++ [s]):=by simp [cX,qUz]
theorem zGr (a b:List ByteArray):cX a ++ cX b=cX (a ++ b):=by simp [cX]
theorem zEo (a:List ByteArray) (n:Nat):(cX a).take n=cX (a.take n):=by simp [cX,List.map_take]
theorem zR0 {P:Program} {N:Nat} {x:Code} {Q:fH} {S:HS} (k id ty sz:Nat) (hk:hlk S.env k=some (.v (.slice none 0 0))) (h:HW P N x Q (((S.kill (only id)).row id (.sl true ty sz [])).rep k (.own id))):HW P N x Q S:=fun c l w I=>by
 refine h c l w ?_;obtain ⟨ρ,xs,G⟩:=I
 have G2:=G.new id (.sl true ty sz []) [] (.slice none 0 0) (w':=w) (Below.refl _ _) (fun b hb=>by cases hb) (fun _ _ =>
  ⟨by rw [aG];exact World.ownsRow_nil w 0 ty sz,⟨by simp,fun i k hi=>absurd hi (by simp)⟩,fun b hb=>by rw [aG] at hb;cases hb⟩)
 refine ⟨_,_,G2.rows,G2.apart,fun j y hj=>?_,G2.kept,G2.a0⟩
 simp only [HS.rep,qLn] at hj
 by_cases e:j=k
 ·subst e;rw [if_pos rfl] at hj
  have h1:hlk ((S.kill (only id)).row id (.sl true ty sz [])).env j=some (.v (.slice none 0 0)):=by
   show hlk (gZ (only id) S.env) j=_
   rw [jS,hk];simp [HV.kill]
  rw [h1] at hj;simp only [Option.map_some,Option.some.injEq] at hj;subst hj;obtain ⟨v,a,b⟩:=G2.env j _ h1
  have:=bF b
  subst this;refine ⟨_,a,?_⟩
  have:=RepH.own (w:=w) (A:=c.A (eJ ρ id (.slice none 0 0)) (((S.kill (only id)).row id (.sl true ty sz [])).rep j (.own id)).st) (n0:=c.n0) (ρ:=eJ ρ id (.slice none 0 0)) id (by rw [aG];rfl)
  rw [aG] at this;exact this
 ·rw [if_neg e] at hj;exact G2.env j y hj
theorem qC3 {P:Program} {f:FuncId} {args:List HV} {x:Value} (h:∀ (w:World) (vs:List Value),uL w (fun _=>False) w.heap.size (fun _=>undef) vs args→Calls P f vs.toArray w (Ret fun r w'=>r=x∧Below w.heap.size w w')):HFun P f args (fun h st=>h=.v x∧st=[]):=fun w vs R =>
 Ret.mono (h w vs R) fun v w' ⟨hv,B⟩=>⟨B,.v x,[],fun i r hi=>by simp [rlk] at hi,⟨rfl,rfl⟩,fun _=>undef,fun _=>[],⟨fun id r hr=>by simp [rlk] at hr,fun i j r s b hne hi=>by simp [rlk] at hi,fun k x hk=>by simp [hlk] at hk,⟨B.os,B.tape,B.output,B.size,fun b hlt _=>B.block b hlt⟩,fun b hb=>⟨hb,fun h=>h⟩⟩,by rw [hv];exact .v x⟩
theorem aT {st:aB} {fr:Bool} {xs ys:List (List FV)} (h:qY xs=ys):Lend st (.lst fr xs) (.lst false ys):=h ▸ .lst fr xs
theorem pX {st:aB} {id ty sz:Nat} {nw:Bool} {els ys:List (List FV)} (h:qY els=ys) (hr:rlk st id=some (.sl nw ty sz els)):Lend st (.own id) (.lst false ys):=h ▸ .own hr
section
variable {S:HS} {Q:HV→aB→Prop}
theorem aM {a:Value} (q:Q (.v a) []):qB5 S (.v a) Q:=⟨[],by simp,rfl,.v _,fun id h=>by simp at h,by rw [HV.ren];exact q⟩
theorem qHq {a b:Value} (q:Q (.tup [.v a,.v b]) []):qB5 S (.tup [.v a,.v b]) Q :=
 ⟨[],by simp,rfl,.tup fun x hx=>by simp at hx;rcases hx with rfl|rfl <;> exact .v _,fun id h=>by simp at h,by rw [HV.ren];simp only [List.map_cons,List.map_nil,HV.ren];exact q⟩
theorem qLe {a b c:Value} (q:Q (.tup [.v a,.v b,.v c]) []):qB5 S (.tup [.v a,.v b,.v c]) Q :=
 ⟨[],by simp,rfl,.tup fun x hx=>by simp at hx;rcases hx with rfl|rfl|rfl <;> exact .v _,fun id h=>by simp at h,by rw [HV.ren];simp only [List.map_cons,List.map_nil,HV.ren];exact q⟩
theorem rC {id ty sz:Nat} {els:List (List FV)} (hr:rlk S.st id=some (.sl true ty sz els)) (hf:∀ x ∈ els,∀ f ∈ x,FreshF f) (q:Q (.own 0) [(0,.sl true ty sz els)]):qB5 S (.own id) Q :=
 ⟨[id],by simp,by simp [dup],.own _,fun i h r hr'=>by
  simp at h;subst h;rw [hr] at hr';simp only [Option.some.injEq] at hr';subst hr';exact ⟨rfl,hf⟩,by
  rw [HV.ren];simp only [pos,if_true,iR,hr,Row.ren];exact q⟩
theorem qHr {id ty sz:Nat} {els:List (List FV)} {b:Value} (hr:rlk S.st id=some (.sl true ty sz els)) (hf:∀ x ∈ els,∀ f ∈ x,FreshF f) (q:Q (.tup [.own 0,.v b]) [(0,.sl true ty sz els)]):qB5 S (.tup [.own id,.v b]) Q :=
 ⟨[id],by simp,by simp [dup],.tup fun x hx=>by simp at hx;rcases hx with rfl|rfl <;> first|exact .v _|exact .own _,fun i h r hr'=>by
  simp at h;subst h;rw [hr] at hr';simp only [Option.some.injEq] at hr';subst hr';exact ⟨rfl,hf⟩,by
  rw [HV.ren];simp only [List.map_cons,List.map_nil,HV.ren,pos,if_true,iR,hr,Row.ren];exact q⟩
end
end Go.Eng
end

section
namespace Go.Eng
open Go Go.RowKit
theorem qVv (j:Nat):qEo [] j=none:=nr rfl
theorem qQt (k:Nat) (r:List Nat) (j:Nat):qEo (k :: r) j=if j=0 then some k else qEo r (j - 1):=by cases j <;> simp [qEo]
theorem zGu (ids:List Nat) (n j:Nat):sh2 ids n j=match qEo ids j with|some i=>some i|none=>bif decide (j < 8) then some (n + j) else none:=by
 unfold sh2;split <;> rename_i h <;> rw [h];congr 1;rw [Bool.eq_iff_iff];simp [Nat.blt_eq]
theorem zCj (i:Nat):inL [] i=false:=nr rfl
theorem qWf (k:Nat) (r:List Nat) (i:Nat):inL (k :: r) i=(k == i || inL r i):=nr rfl
theorem qQ6:qZ4 none=true:=nr rfl
theorem zCe (nw:Bool) (t s:Nat) (xs:List (List FV)):qZ4 (some (.sl nw t s xs))=true:=nr rfl
theorem zCg (nw:Bool) (t:Nat) (cs:List HV):qZ4 (some (.bx nw t cs))=false:=nr rfl
theorem zCf (nw:Bool) (t s:Nat) (xs:List (List HV)):qZ4 (some (.hl nw t s xs))=true:=nr rfl
theorem zCi (nw:Bool) (t s:Nat) (xs:List (List HV)):qZ (some (.hl nw t s xs))=False:=nr rfl
theorem qQ7:qZ none=False:=nr rfl
theorem zCh (nw:Bool) (t s:Nat) (xs:List (List FV)):qZ (some (.sl nw t s xs))=False:=nr rfl
theorem zJn (t:Nat) (cs:List HV):qZ (some (.bx true t cs))=False:=nr rfl
theorem zJo (t:Nat) (cs:List HV):qZ (some (.bx false t cs))=True:=nr rfl
theorem qPv (ids:List Nat) (st:aB) (n i:Nat):qAg ids st n i=(eG n i || (inL ids i && qZ4 (rlk st i))):=nr rfl
theorem zC8 (ids:List Nat) (n i:Nat):qDa ids n i=(eG n i || inL ids i):=nr rfl
theorem qQs (ids:List Nat) (st:aB) (j:Nat):iW ids st j=match qEo ids j with|some i=>rlk st i|none=>none:=nr rfl
theorem zD1 (nw:Bool) (t s:Nat) (xs:List (List FV)):(Row.sl nw t s xs).dark=.sl nw t s xs:=nr rfl
theorem zD3 (nw:Bool) (t:Nat) (cs:List HV):(Row.bx nw t cs).dark=.bx false t cs:=nr rfl
theorem zD2 (nw:Bool) (t s:Nat) (xs:List (List HV)):(Row.hl nw t s xs).dark=.hl nw t s xs:=nr rfl
theorem zDv (o:Option Row) (nw:Bool) (t s:Nat) (xs:List (List HV)):(Row.hl nw t s xs).flag o=.hl nw t s xs:=by
 cases o with
|none=>rfl
|some o=>cases o <;> rfl
theorem qX2 (r:Row) (nw:Bool) (t s:Nat) (xs:List (List HV)):r.flag (some (.hl nw t s xs))=r:=by cases r <;> rfl
theorem qSl (r:Row):r.flag none=r:=nr rfl
theorem zDu (o:Option Row) (nw:Bool) (t s:Nat) (xs:List (List FV)):(Row.sl nw t s xs).flag o=.sl nw t s xs:=by
 cases o with
|none=>rfl
|some o=>cases o <;> rfl
theorem zDw (nw n2:Bool) (t t2:Nat) (cs c2:List HV):(Row.bx n2 t2 c2).flag (some (.bx nw t cs))=.bx nw t2 c2:=nr rfl
theorem qX1 (r:Row) (nw:Bool) (t s:Nat) (xs:List (List FV)):r.flag (some (.sl nw t s xs))=r:=by cases r <;> rfl
theorem qSt (m:Nat→Option Nat) (st:aB) (k:Nat):oU m st k []=[]:=nr rfl
theorem qNt (m:Nat→Option Nat) (st:aB) (k id:Nat) (r:List Nat):oU m st k (id :: r)=match rlk st id with|some row=>(k,(row.ren m).dark) :: oU m st (k + 1) r|none=>oU m st (k + 1) r:=nr rfl
theorem zA1 (S0:aB) (ids:List Nat) (n:Nat) (b:aB):swp S0 ids n [] b=b:=nr rfl
theorem qUx (S0:aB) (ids:List Nat) (n j:Nat) (r:Row) (t b:aB):swp S0 ids n ((j,r) :: t) b=((sh2 ids n j).getD 0,(r.ren (sh2 ids n)).flag (iW ids S0 j)) :: swp S0 ids n t b:=nr rfl
theorem zA2 (e:aJ) (s:aB) (ids:List Nat) (n:Nat) (st:aB):HS.swap ⟨e,s⟩ ids n st=⟨gZ (qAg ids s n) e,swp s ids n st (cR (qDa ids n) s)⟩:=nr rfl
theorem zGb (st:aB) (k:Nat):qN4 st k []=True:=nr rfl
theorem yL (st:aB) (k id:Nat) (r:List Nat):qN4 st k (id :: r)=((qZ (rlk st id)→k=id)∧qN4 st (k + 1) r):=nr rfl
theorem zFo (ids:List Nat) (st:aB):qA ids st []=True:=nr rfl
theorem zJi (ids:List Nat) (st:aB) (j:Nat) (nw:Bool) (t s:Nat) (xs:List (List FV)) (r:aB):qA ids st ((j,.sl nw t s xs) :: r)=qA ids st r:=nr rfl
theorem zJj (ids:List Nat) (st:aB) (j:Nat) (nw:Bool) (t s:Nat) (xs:List (List HV)) (r:aB):qA ids st ((j,.hl nw t s xs) :: r)=qA ids st r:=nr rfl
theorem zJk (ids:List Nat) (st:aB) (j:Nat) (t:Nat) (cs:List HV) (r:aB):qA ids st ((j,.bx true t cs) :: r)=qA ids st r:=nr rfl
theorem zJl (ids:List Nat) (st:aB) (j:Nat) (t:Nat) (cs:List HV) (r:aB):qA ids st ((j,.bx false t cs) :: r)=((qEo ids j=some j∧qZ (rlk st j))∧qA ids st r):=by
 rw [nD];rfl
theorem bT (P:Program) (rs:List ResultVar) (st0:aB) (Q:HV→aB→Prop) (S:HS):qZ9 P rs st0 Q .normal S=pD P S rs fun hs=>qPd st0 S (qBq hs) Q:=rfl
theorem dE (P:Program) (rs:List ResultVar) (st0:aB) (Q:HV→aB→Prop) (S:HS):qZ9 P rs st0 Q .ret S=pD P S rs fun hs=>qPd st0 S (qBq hs) Q:=rfl
theorem oL (ids:List Nat) {st0:aB} {S:HS} {h:HV} {Q:HV→aB→Prop} (h1:ids.length≤8) (h2:dup ids=false) (h3:qN4 S.st 0 ids) (h4:qA ids S.st st0) {h':HV} {st':aB} (h5:h.ren (pos ids)=h') (h6:iR (pos ids) S.st 0 ids=st') (q:Q h' st'):qPd st0 S h Q :=
 ⟨ids,h1,h2,h3,h4,by rw [h5,h6];exact q⟩
theorem fF:qBq []=.tup []:=nr rfl
section
variable {P:Program} {N:Nat} {x:Code} {Q:fH} {S S':HS}
theorem zNi (id k nid ty sz:Nat) {nw:Bool} {bt:Nat} {cells:List HV} (hne:id≠nid) (hr:rlk S.st id=some (.bx nw bt cells)) (hk:cells[k]?=some (.v (.slice none 0 0)))
  (hs:(⟨gZ (only nid) S.env,(nid,.sl true ty sz []) :: gJ id (.bx nw bt ((cells.map (HV.kill (only nid))).set k (.own nid))) (cR (only nid) S.st)⟩:HS)=S') (h:HW P N x Q S'):HW P N x Q S:=fun c l w I=>by
 subst hs;refine h c l w ?_;obtain ⟨ρ,xs,G⟩:=I
 have G2:=G.new nid (.sl true ty sz []) [] (.slice none 0 0) (w':=w) (Below.refl _ _) (fun b hb=>by cases hb) (fun _ _ =>
  ⟨by rw [aG];exact World.ownsRow_nil w 0 ty sz,⟨by simp,fun i k hi=>absurd hi (by simp)⟩,fun b hb=>by rw [aG] at hb;cases hb⟩)
 have hr2:rlk (cR (only nid) S.st) id=some (.bx nw bt (cells.map (HV.kill (only nid)))):=by rw [eX,nC hne,cond_false,hr];rfl
 have hl:∀ i,rlk ((nid,Row.sl true ty sz []) :: gJ id (.bx nw bt ((cells.map (HV.kill (only nid))).set k (.own nid))) (cR (only nid) S.st)) i =
   if i=id then some (.bx nw bt ((cells.map (HV.kill (only nid))).set k (.own nid))) else rlk ((nid,Row.sl true ty sz []) :: cR (only nid) S.st) i:=fun i=>by
  simp only [rlk]
  by_cases e:nid=i
  ·rw [if_pos e,if_neg (by omega),if_pos e]
  ·rw [if_neg e,gL id _ _ _ hr2]
   by_cases e2:i=id
   ·rw [if_pos e2,if_pos e2]
   ·rw [if_neg e2,if_neg e2,if_neg e]
 have hid:rlk ((nid,Row.sl true ty sz []) :: cR (only nid) S.st) id=some (.bx nw bt (cells.map (HV.kill (only nid)))):=by simp only [rlk];rw [if_neg (by omega)];exact hr2
 have hA:∀ b,c.A (eJ ρ nid (.slice none 0 0)) ((nid,Row.sl true ty sz []) :: gJ id (.bx nw bt ((cells.map (HV.kill (only nid))).set k (.own nid))) (cR (only nid) S.st)) b→c.A (eJ ρ nid (.slice none 0 0)) ((nid,Row.sl true ty sz []) :: cR (only nid) S.st) b:=by
  rintro b (h0|⟨i,s,hi,hb⟩)
  ·exact .inl h0
  ·right
   rw [hl] at hi
   by_cases e:i=id
   ·subst e;exact ⟨_,_,hid,hb⟩
   ·rw [if_neg e] at hi;exact ⟨i,s,hi,hb⟩
 refine ⟨eJ ρ nid (.slice none 0 0),fun i=>if i=nid then [] else xs i,⟨fun i r hi=>?_,fun i j r s b hne hi hj hbi hbj=>?_,fun j y hj=>?_,G2.kept,G2.a0⟩⟩
 ·rw [hl] at hi
  by_cases e:i=id
  ·subst e;rw [if_pos rfl] at hi;simp only [Option.some.injEq] at hi;subst hi
   have R:=G2.rows i _ hid
   refine ⟨by simpa [Row.ty,Row.sz,Row.len] using R.own,⟨R.rep.1,fun q hq=>?_⟩,R.new⟩
   have hq':q < (cells.map (HV.kill (only nid))).length:=by simpa using hq
   obtain ⟨u,u1,u2,u3⟩:=R.rep.2 q hq'
   by_cases eq:k=q
   ·subst eq;refine ⟨u,u1,u2,?_⟩;rw [List.getElem_set_self]
    have hc:cells[k]'(by simpa using hq')=.v (.slice none 0 0):=by
     have:=List.getElem?_eq_some_iff.1 hk
     exact this.2
    rw [List.getElem_map,hc,HV.kill] at u3
    have:=bF u3
    subst this
    have:=RepH.own (w:=w) (A:=c.A (eJ ρ nid (.slice none 0 0)) ((nid,Row.sl true ty sz []) :: gJ i (.bx nw bt ((cells.map (HV.kill (only nid))).set k (.own nid))) (cR (only nid) S.st))) (n0:=c.n0) (ρ:=eJ ρ nid (.slice none 0 0)) nid (by rw [aG];rfl)
    rw [aG] at this;exact this
   ·refine ⟨u,u1,u2,?_⟩;rw [List.getElem_set_ne eq];exact u3.up (Nat.le_refl _) (fun _ _ _=>rfl) (fun b _=>hA b) (Nat.le_refl _)
  ·rw [if_neg e] at hi;exact (G2.rows i r hi).up (Nat.le_refl _) (fun _ _ _=>rfl) (fun b _=>hA b) (fun _ _=>rfl)
 ·have back:∀ i s,rlk ((nid,Row.sl true ty sz []) :: gJ id (.bx nw bt ((cells.map (HV.kill (only nid))).set k (.own nid))) (cR (only nid) S.st)) i=some s→∃ s0,rlk ((nid,Row.sl true ty sz []) :: cR (only nid) S.st) i=some s0:=by
   intro i s hi;rw [hl] at hi
   by_cases e:i=id
   ·subst e;exact ⟨_,hid⟩
   ·rw [if_neg e] at hi;exact ⟨s,hi⟩
  obtain ⟨r0,h1⟩:=back i r hi;obtain ⟨s0,h2⟩:=back j s hj;exact G2.apart i j r0 s0 b hne h1 h2 hbi hbj
 ·obtain ⟨v,h1,h2⟩:=G2.env j y hj;exact ⟨v,h1,h2.up (Nat.le_refl _) (fun _ _ _=>rfl) (fun b _=>hA b) (Nat.le_refl _)⟩
end
section
variable {P:Program} {N:Nat} {x:Code} {Q:fH} {S:HS} {id:Nat} {R:HS→Prop}
end
end Go.Eng
end

section
namespace Go.Eng
open Go Go.RowKit
def zRa (R:HS→Prop) (Q:fH):fH
|.normal,S=>R S
|e,S=>Q e S
section
variable {P:Program} {N:Nat} {x:Code} {Q:fH} {S:HS} {R:HS→Prop}
theorem qHy {ι:Type} (E:ι→HS) (I:ι→Prop) (ks ids:List Nat) (hx:HW P N x (zRa (fun S'=>∃ j,S'.keep ks ids=E j∧I j) Q) S) (hy:∀ S' j,S'.keep ks ids=E j→I j→Q .normal S'):HW P N x Q S :=
 hx.mono fun e S' h=>by
  cases e with
 |normal=>obtain ⟨j,hE,hI⟩:=h;exact hy S' j hE hI
 |_=>exact h
end
theorem qR {P:Program} {N:Nat} {x:Code} {Q:fH} {S S':HS} (k id ty sz:Nat) (hk:hlk S.env k=some (.v (.slice none 0 0))) (hs:((S.kill (only id)).row id (.sl true ty sz [])).rep k (.own id)=S') (h:HW P N x Q S'):HW P N x Q S:=zR0 k id ty sz hk (hs ▸ h)
end Go.Eng
end

section
namespace Go.Eng
open Go Go.RowKit
section
variable {P:Program} {N:Nat} {ds:List (Option Nat)} {K:HS→Prop} {S:HS} {Q:fH}
end
end Go.Eng
end

section
namespace Go.Eng
open Go Go.RowKit
def nm (a b:Nat):Nat→Option Nat:=fun i=>if i=a then some b else if i=b then none else some i
def qX7 (m:Nat→Option Nat):aJ→aJ
|[]=>[]
|(k,h) :: r=>(k,h.ren m) :: qX7 m r
def qTi (a b:Nat):aB→aB
|[]=>[]
|(k,r) :: t=>(if k=a then b else k,r.ren (nm a b)) :: qTi a b t
def HS.name (S:HS) (a b:Nat):HS:=⟨qX7 (nm a b) S.env,qTi a b S.st⟩
theorem qWx (m:Nat→Option Nat):∀ (l:aJ) (k:Nat),hlk (qX7 m l) k=(hlk l k).map (HV.ren m)
|[],k=>rfl
|(j,h) :: r,k=>by
  simp only [qX7,hlk];split
  ·rfl
  ·exact qWx m r k
theorem qVd {a b:Nat} (hab:a≠b):∀ (l:aB) (_:rlk l b=none) (k:Nat),rlk (qTi a b l) k=if k=b then (rlk l a).map (Row.ren (nm a b)) else if k=a then none else (rlk l k).map (Row.ren (nm a b))
|[],_,k=>by simp [qTi,rlk]
|(j,r) :: t,h,k=>by
  simp only [rlk] at h
  by_cases hj:j=b
  ·rw [if_pos hj] at h;cases h
  ·rw [if_neg hj] at h
   have ih:=qVd hab t h k
   simp only [qTi,rlk]
   by_cases e:j=a
   ·subst e;rw [if_pos rfl,if_pos rfl]
    by_cases e2:k=b
    ·subst e2;rw [if_pos rfl,if_pos rfl];rfl
    ·rw [if_neg (by omega),ih,if_neg e2,if_neg e2]
     by_cases e3:k=j
     ·rw [if_pos e3,if_pos e3]
     ·rw [if_neg e3,if_neg e3,if_neg (by omega)]
   ·rw [if_neg e,if_neg e]
    by_cases e2:j=k
    ·subst e2;rw [if_pos rfl,if_neg hj,if_neg e,if_pos rfl];rfl
    ·rw [if_neg e2,ih,if_neg e2]
section
variable {P:Program} {N:Nat} {x:Code} {Q:fH} {c:Ctx} {S S':HS} {look:Nat→Option Value} {w:World}
theorem Inv.name (I:Inv c S look w) {a b ty sz:Nat} {nw:Bool} {els:List (List FV)} (hab:a≠b) (hb:rlk S.st b=none) (ha:rlk S.st a=some (.sl nw ty sz els)):Inv c (S.name a b) look w:=by
 obtain ⟨ρ,xs,G⟩:=I
 let ρ':Nat→Value:=fun i=>if i=b then ρ a else ρ i
 let xs':Nat→List Value:=fun i=>if i=b then xs a else xs i
 have hm:∀ i j,nm a b i=some j→ρ' j=ρ i:=fun i j h=>by
  unfold nm at h
  by_cases e:i=a
  ·rw [if_pos e] at h;simp only [Option.some.injEq] at h;subst h;subst e;show (if b=b then _ else _)=_;rw [if_pos rfl]
  ·rw [if_neg e] at h
   by_cases e2:i=b
   ·rw [if_pos e2] at h;cases h
   ·rw [if_neg e2] at h;simp only [Option.some.injEq] at h;subst h;show (if i=b then _ else _)=_;rw [if_neg e2]
 have back:∀ i r,rlk (S.name a b).st i=some r→∃ j r0,nm a b j=some i∧rlk S.st j=some r0∧r=r0.ren (nm a b)∧xs' i=xs j:=by
  intro i r hi;simp only [HS.name,qVd hab _ hb] at hi
  by_cases e:i=b
  ·subst e;rw [if_pos rfl,ha] at hi;simp only [Option.map_some,Option.some.injEq] at hi;exact ⟨a,_,by simp [nm],ha,hi.symm,by show (if i=i then _ else _)=_;rw [if_pos rfl]⟩
  ·rw [if_neg e] at hi
   by_cases e2:i=a
   ·rw [if_pos e2] at hi;cases hi
   ·rw [if_neg e2] at hi
    cases hs:rlk S.st i with
   |none=>rw [hs] at hi;cases hi
   |some r0 =>
     rw [hs] at hi;simp only [Option.map_some,Option.some.injEq] at hi;exact ⟨i,r0,by simp [nm,e,e2],hs,hi.symm,by show (if i=b then _ else _)=_;rw [if_neg e]⟩
 have hA:∀ g,c.A ρ' (S.name a b).st g→c.A ρ S.st g:=by
  rintro g (h0|⟨i,r,hi,hg⟩)
  ·exact .inl h0
  ·obtain ⟨j,r0,h1,h2,-,-⟩:=back i r hi;rw [hm j i h1] at hg;exact .inr ⟨j,r0,h2,hg⟩
 have tr:∀ v y,RepH w (c.A ρ S.st) c.n0 ρ v y→RepH w (c.A ρ' (S.name a b).st) c.n0 ρ' v (y.ren (nm a b)):=fun v y h=>(h.up (Nat.le_refl _) (fun _ _ _=>rfl) (fun b _=>hA b) (Nat.le_refl _)).ren hm
 refine ⟨ρ',xs',fun i r hi=>?_,fun i j r s g hne hi hj hgi hgj=>?_,fun k y hk=>?_,G.kept,G.a0⟩
 ·obtain ⟨j,r0,h1,h2,rfl,h4⟩:=back i r hi
  have R:=G.rows j r0 h2
  obtain ⟨f1,f2,f3,f4⟩:=Row.ren_facts (nm a b) r0;rw [h4];refine ⟨by rw [f1,f2,f3,hm j i h1];exact R.own,?_,fun g hg=>by rw [f4];rw [hm j i h1] at hg;exact R.new g hg⟩
  have rp:=R.rep
  cases r0 with
 |sl nw ty sz els =>
   refine ⟨rp.1,fun p k hp hk=>?_⟩
   obtain ⟨u,u1,u2,u3⟩:=rp.2 p k hp hk;exact ⟨u,u1,u2,u3.up (Nat.le_refl _) (fun _ _ _=>rfl) (fun b _=>hA b) (Nat.le_refl _)⟩
 |bx nw ty cells =>
   refine ⟨?_,fun k hk=>?_⟩
   ·have hji:j=i:=by
     unfold nm at h1
     by_cases e:j=a
     ·subst e;rw [ha] at h2;cases h2
     ·rw [if_neg e] at h1
      by_cases e2:j=b
      ·rw [if_pos e2] at h1;cases h1
      ·rw [if_neg e2] at h1;exact Option.some.inj h1
    rw [hm j i h1];rw [← hji];exact rp.1
   ·rw [List.length_map] at hk;obtain ⟨u,u1,u2,u3⟩:=rp.2 k hk;refine ⟨u,u1,u2,?_⟩;rw [List.getElem_map];exact tr _ _ u3
 |hl nw ty sz els =>
   refine ⟨fun y hy=>?_,fun p k hp hk=>?_⟩
   ·obtain ⟨z,hz,rfl⟩:=List.mem_map.1 hy;rw [List.length_map];exact rp.1 z hz
   ·simp only [List.length_map] at hp;simp only [List.getElem_map,List.length_map] at hk ⊢;obtain ⟨u,u1,u2,u3⟩:=rp.2 p k hp hk;exact ⟨u,u1,u2,tr _ _ u3⟩
 ·obtain ⟨i',r0,h1,h2,-,-⟩:=back i r hi;obtain ⟨j',s0,h3,h4,-,-⟩:=back j s hj;rw [hm i' i h1] at hgi;rw [hm j' j h3] at hgj;exact G.apart i' j' r0 s0 g (fun e=>hne (by subst e;rw [h1] at h3;exact Option.some.inj h3)) h2 h4 hgi hgj
 ·simp only [HS.name,qWx] at hk
  cases hx0:hlk S.env k with
 |none=>rw [hx0] at hk;cases hk
 |some x0 =>
   rw [hx0] at hk;simp only [Option.map_some,Option.some.injEq] at hk;subst hk;obtain ⟨v,h1,h2⟩:=G.env k x0 hx0;exact ⟨v,h1,tr v x0 h2⟩
theorem qUt (a b:Nat) {ty sz:Nat} {nw:Bool} {els:List (List FV)} (hab:a≠b) (hb:rlk S.st b=none) (ha:rlk S.st a=some (.sl nw ty sz els)) (hs:S.name a b=S') (h:HW P N x Q S'):HW P N x Q S:=fun c l w I=>h c l w (hs ▸ I.name hab hb ha)
end
theorem qT0 (e:aJ) (s:aB) (a b:Nat):HS.name ⟨e,s⟩ a b=⟨qX7 (nm a b) e,qTi a b s⟩:=rfl
theorem zH9 (a b i:Nat):nm a b i=if i=a then some b else if i=b then none else some i:=rfl
theorem qNk (m:Nat→Option Nat):qX7 m []=[]:=rfl
theorem qE8 (m:Nat→Option Nat) (k:Nat) (h:HV) (r:aJ):qX7 m ((k,h) :: r)=(k,h.ren m) :: qX7 m r:=rfl
theorem qH9 (a b:Nat):qTi a b []=[]:=rfl
theorem qD2 (a b k:Nat) (r:Row) (t:aB):qTi a b ((k,r) :: t)=(if k=a then b else k,r.ren (nm a b)) :: qTi a b t:=rfl
end Go.Eng
end
