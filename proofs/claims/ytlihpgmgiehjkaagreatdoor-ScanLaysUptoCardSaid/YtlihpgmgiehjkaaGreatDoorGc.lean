/-
  The engine of values: texts Rel, Hr, Hk, Hl, Hlo, He, Enc, Ste, Met, Spl, Nam, laid together.
-/
import Derived.Test.YtlihpgmgiehjkaaGreatDoorEng
import Derived.Test.YtlihpgmgiehjkaaGreatDoorGb
set_option linter.unusedSimpArgs false
set_option linter.unusedVariables false
section
namespace Go.Eng
open Go Go.RowKit
section
variable {P:Program} {N:Nat} {C:World→Prop} {ops:List Oper} {n:Nat} {l:Env} {R:Nat→Value→World→Prop}
def cZ (l:Env) (ops:List Oper) (vs:Nat→Value):Nat→Env
|0=>l
|i + 1=>stp (aM ops i) (vs i) (cZ l ops vs i)
def DLt (N:Nat) (ops:List Oper) (n:Nat):Prop:=∀ i t,i < n→aM ops i=some t→t < N
variable {vs:Nat→Value}
theorem tN (hl:DLt N ops n) (hk:bH N l=true):∀ i,i≤n→bH N (cZ l ops vs i)=true
|0,_=>hk
|i + 1,hi=>dV (tN hl hk i (by omega)) (fun k e=>hl i k (by omega) e)
theorem fX (base:Array Value) (t:Nat):∀ i,(∀ j,j < i→aM ops j≠some t) →
  lk (cZ l ops vs i) t=lk l t∧(fR base (cZ l ops vs i))[t]?=(fR base l)[t]?
|0,_=>⟨rfl,rfl⟩
|i + 1,h=>by
  obtain ⟨h1,h2⟩:=fX base t i (fun j hj=>h j (by omega))
  have hne:=h i (by omega)
  simp only [cZ]
  cases hd:aM ops i with
 |none=>exact ⟨h1,h2⟩
 |some d =>
   have:d≠t:=fun e=>hne (by rw [hd,e])
   simp only [stp,lk,fR,if_neg this];exact ⟨h1,by rw [Array.getElem?_setIfInBounds_ne this];exact h2⟩
theorem fY (hl:DLt N ops n) {base:Array Value} (hbase:base.size=N) {t j:Nat} (hj:aM ops j=some t) (huniq:∀ k,k < n→k≠j→aM ops k≠some t):∀ i,i≤n→j < i →
  lk (cZ l ops vs i) t=some (vs j)∧(fR base (cZ l ops vs i))[t]?=some (vs j)
|0,_,h=>absurd h (Nat.not_lt_zero _)
|i + 1,hi,h=>by
  simp only [cZ]
  by_cases e:j=i
  ·subst e;rw [hj];simp only [stp,lk,fR,if_true,true_and];rw [Array.getElem?_setIfInBounds_self_of_lt (by rw [gU,hbase];exact hl j t (by omega) hj)]
  ·obtain ⟨h1,h2⟩:=fY hl hbase hj huniq i (by omega) (by omega)
   have hne:=huniq i (by omega) (Ne.symm e)
   cases hd:aM ops i with
  |none=>exact ⟨h1,h2⟩
  |some d =>
    have:d≠t:=fun e=>hne (by rw [hd,e])
    simp only [stp,lk,fR,if_neg this];exact ⟨h1,by rw [Array.getElem?_setIfInBounds_ne this];exact h2⟩
theorem qR4 {keys:List Nat} (ok:RegOk keys ops n) (F:Fr N) (hk:bH N l=true) (bF:∀ t ∈ keys,∃ v,lk l t=some v) (hlt:DLt N ops n)
  {Le:Nat→World→World→Prop} (hLe:∀ i w,Le i w w) (hS:∀ j i u w w',j < n→i < n→j≠i→C w→R j u w→Le i w w'→R j u w')
  (H:∀ i o,i < n→ops[i]?=some o→∀ (vs:Nat→Value) (w:World),C w→(∀ j t,j < i→aM ops j=some t→t ∈ o.looksAt ops.toArray→R j (vs j) w) →
   ∃ b,gd (cZ l ops vs i) (cD ops) o.guard (·=b)∧(b=true→Yields P (execOp (evD (cZ l ops vs i)) o) w fun u w'=>R i u w'∧C w'∧Le i w w')∧(b=false→R i undef w))
  {Q:Exit→Act→World→Prop} (hT:∀ (vs:Nat→Value) (w:World),C w→(∀ j,j < n→R j (vs j) w)→wpListIn (FW F.ds.2) 0 P ops.toArray Q (ops.drop n) (mk F (cZ l ops vs n)) w) :
  ∀ (fuel:Nat) (listed:Array Bool) (a:Act) (w:World) (vs:Nat→Value),unl listed=fuel→Mid N C ops n (fR F.base l) F.ds.1 vs listed a w→(∀ j,j < n→listed.getD j false=true→R j (vs j) w)→wpAnyIn (FW F.ds.2) 0 P .any ops.toArray Q fuel listed a w:=by
 have uniq:∀ i j t,i < n→j < n→aM ops i=some t→aM ops j=some t→i=j:=by
  intro i j t hi hj h1 h2
  rcases Nat.lt_trichotomy i j with h|h|h
  ·rcases ok.uniq j i hj h with e|e
   ·rw [h2] at e;cases e
   ·exact absurd (h2.trans h1.symm) e
  ·exact h
  ·rcases ok.uniq i j hi h with e|e
   ·rw [h1] at e;cases e
   ·exact absurd (h1.trans h2.symm) e
 have final:∀ (listed:Array Bool) (a:Act) (w:World) (vs:Nat→Value),Mid N C ops n (fR F.base l) F.ds.1 vs listed a w→(∀ j,j < n→listed.getD j false=true)→a=mk F (cZ l ops vs n):=by
  intro listed a w vs M hall;obtain ⟨tm,df⟩:=a
  have hd:df=F.ds.1:=M.defers
  subst hd;show Act.mk _ _=Act.mk _ _
  congr 1
  apply Array.ext_getElem?
  intro t
  by_cases h:∃ j,j < n∧aM ops j=some t
  ·obtain ⟨j,hj,hd⟩:=h
   have h1:=M.new j t hj (hall j hj) hd
   have h2:=(fY (l:=l) (vs:=vs) hlt F.hN hd (fun k hk hne e=>hne (uniq k j t hk hj e hd)) n (Nat.le_refl _) hj).2
   exact h1.trans h2.symm
  ·have h':∀ j,j < n→aM ops j≠some t:=fun j hj e=>h ⟨j,hj,e⟩
   have h1:=M.old t (fun j hj _=>h' j hj)
   have h2:=(fX (l:=l) (vs:=vs) F.base t n h').2
   exact h1.trans h2.symm
 have slot:∀ (listed:Array Bool) (a:Act) (w:World) (vs:Nat→Value) (i:Nat) (o:Oper) (t:Nat),Mid N C ops n (fR F.base l) F.ds.1 vs listed a w→i < n→ops[i]?=some o→i ∈ Region.ready .any ops.toArray listed→t ∈ o.looksAt ops.toArray →
   ∃ X,a.tmps[t]?=some X∧lk (cZ l ops vs i) t=some X:=by
  intro listed a w vs i o t M hi ho hr ht;obtain ⟨l1,l2⟩:=ok.looks i o t hi ho ht
  by_cases h:∃ j,j < n∧aM ops j=some t
  ·obtain ⟨j,hj,hd⟩:=h;obtain ⟨hji,he⟩:=l1 j hj hd;exact ⟨vs j,M.new j t hj (cK hr he) hd,(fY (l:=l) (vs:=vs) hlt F.hN hd (fun k hk hne e=>hne (uniq k j t hk hj e hd)) i (by omega) hji).1⟩
  ·have h':∀ j,j < n→aM ops j≠some t:=fun j hj e=>h ⟨j,hj,e⟩
   rcases l2 with ⟨j,hj,hd⟩|hkey
   ·exact absurd hd (h' j (by omega))
   ·obtain ⟨v,hv⟩:=bF t hkey;refine ⟨v,?_,?_⟩
    ·rw [M.old t (fun j hj _=>h' j hj)];exact gT F hk hv
    ·rw [(fX (l:=l) (vs:=vs) F.base t i (fun j hj=>h' j (by omega))).1];exact hv
 intro fuel
 induction fuel with
|zero =>
  intro listed a w vs hu M MR
  have hall:∀ j,j < ops.length→listed.getD j false=true:=fun j hj=>qBu hu (by rw [M.size];exact hj)
  have hn:n=ops.length:=by
   rcases Nat.lt_or_ge n ops.length with h|h
   ·have:=M.heads n (hall n h);omega
   ·have:=ok.hn;omega
  have ha:=final listed a w vs M (fun j hj=>hall j (by omega))
  subst ha;exact iY ok 0 n listed _ w (by omega) (Nat.le_refl _) M.size (fun i hi=>⟨fun _=>by omega,fun _=>hall i hi⟩) (hT vs w M.cls fun j hj=>MR j hj (hall j (by omega)))
|succ fuel ih =>
  intro listed a w vs hu M MR
  by_cases hdone:∀ j,j < n→listed.getD j false=true
  ·have ha:=final listed a w vs M hdone
   subst ha
   have hcount:∀ (m:Nat) (x:Array Bool),x.size=ops.length→(∀ i,i < ops.length→(x.getD i false=true↔i < m))→m≤ops.length→m + unl x=ops.length:=by
    intro m;generalize hd:ops.length - m=d
    induction d generalizing m with
   |zero =>
     intro x hx hl hm
     have:unl x=0:=by
      unfold unl;rw [List.length_eq_zero_iff,List.filter_eq_nil_iff];intro b hb;obtain ⟨i,hi,rfl⟩:=List.getElem_of_mem hb
      have hi':i < x.size:=by simpa using hi
      have:=(hl i (by omega)).2 (by omega)
      simp only [Array.getD,hi',dite_true] at this;simp [show x.toList[i]=true from this]
     omega
   |succ d ihd =>
     intro x hx hl hm
     have hmlt:m < ops.length:=by omega
     have h0:x.getD m true=false:=by
      have:¬ x.getD m false=true:=fun e=>by have:=(hl m hmlt).1 e;omega
      have hm':m < x.size:=by omega
      simp only [Array.getD,hm',dite_true] at this ⊢
      simpa using this
     have:=ihd (m + 1) (by omega) (x.setIfInBounds m true) (by simpa using hx) (fun i hi=>by
      by_cases e:m=i
      ·subst e
       have:m < x.size:=by omega
       simp [this]
      ·rw [getD_set_ne false e,hl i hi];omega) (by omega)
     have:=pZ h0
     omega
   have hl:∀ i,i < ops.length→(listed.getD i false=true↔i < n):=fun i hi=>⟨M.heads i,hdone i⟩
   have:=hcount n listed M.size hl ok.hn
   exact iY ok (fuel + 1) n listed _ w (by omega) (Nat.le_refl _) M.size hl (hT vs w M.cls fun j hj=>MR j hj (hdone j hj))
  ·have hex:∃ j,j < n∧listed.getD j false≠true:=by
    refine Classical.byContradiction fun hne=>hdone fun j hj=>?_
    refine Classical.byContradiction fun h=>hne ⟨j,hj,h⟩
   have hn:=ok.hn
   have hready:∃ j,j ∈ Region.ready .any ops.toArray listed:=by
    obtain ⟨j,hj,hjl⟩:=hex
    have:∀ d j,j=d→j < n→listed.getD j false≠true→∃ j,j ∈ Region.ready .any ops.toArray listed:=by
     intro d
     induction d using Nat.strongRecOn with
    |_ d ihd =>
      intro j hd hj hjl;subst hd
      have ho:ops[j]?=some (ops[j]'(by omega)):=List.getElem?_eq_getElem _
      by_cases hall:∀ e ∈ (ops[j]'(by omega)).after,Region.binds .any e=true→listed.getD e.on false=true
      ·refine ⟨j,mem_ready.2 ⟨?_,ops[j]'(by omega),by simp,hall⟩⟩
       have h2:j < listed.size:=by rw [M.size];omega
       simp only [Array.getD,h2,dite_true] at hjl ⊢
       simpa using hjl
      ·have:∃ e ∈ (ops[j]'(by omega)).after,Region.binds .any e=true∧listed.getD e.on false≠true:=by
        refine Classical.byContradiction fun hne=>hall fun e he hb=>?_
        refine Classical.byContradiction fun h=>hne ⟨e,he,hb,h⟩
       obtain ⟨e,he,hb,hl⟩:=this
       have hlt:=ok.down j _ e ho he hb
       exact ihd e.on hlt e.on rfl (by omega) hl
    exact this j j rfl hj hjl
   obtain ⟨j0,hj0⟩:=hready;refine ⟨fun h0=>absurd hj0 (by rw [h0];simp),fun i hi=>?_⟩
   obtain ⟨hun,o,ho,hall⟩:=mem_ready.1 hi
   have ho':ops[i]?=some o:=by simpa using ho
   have hilt:i < ops.length:=(List.getElem?_eq_some_iff.1 ho').1
   have hin:i < n:=by
    rcases Nat.lt_or_ge i n with h|h
    ·exact h
    ·exfalso
     apply hdone
     have key:∀ d j,i - j=d→j < i→listed.getD j false=true:=by
      intro d
      induction d using Nat.strongRecOn with
     |_ d ihd =>
       intro j hd hji;obtain ⟨k,hk1,hk2,hk3⟩:=ok.tail i j hilt h hji
       rcases Nat.lt_or_ge k i with hki|hki
       ·exact M.clos k j (ihd (i - k) (by omega) k rfl hki) hk3
       ·have:k=i:=by omega
        subst this;exact cK hi hk3
     exact fun j hj=>key _ j rfl (by omega)
   have hu':unl (listed.setIfInBounds i true)=fuel:=by have:=pZ hun;omega
   have hdi:aM ops i=o.dst:=by unfold aM;rw [ho'];rfl
   have hlt':iJ N o.dst:=by
    cases hd:o.dst with
   |none=>trivial
   |some t=>exact hlt i t hin (hdi.trans hd)
   let nxt:Value→Nat→Value:=fun u j=>if j=i then u else vs j
   have nxt_i:∀ u,nxt u i=u:=fun u=>if_pos rfl
   have nxt_ne:∀ u j,j≠i→nxt u j=vs j:=fun u j h=>if_neg h
   have rest:∀ u w',R i u w'→Le i w w'→∀ j,j < n→(listed.setIfInBounds i true).getD j false=true→R j (nxt u j) w':=by
    intro u w' hu hB j hj hl
    by_cases e:j=i
    ·subst e;rw [nxt_i];exact hu
    ·rw [nxt_ne u j e];rw [getD_set_ne false (Ne.symm e)] at hl;exact hS j i _ w w' hj hin e M.cls (MR j hj hl) hB
   have step:∀ u w',C w'→Mid N C ops n (fR F.base l) F.ds.1 (nxt u) (listed.setIfInBounds i true) (a.put o.dst u) w':=by
    intro u w' hC
    have hlt:=hlt'
    have hset:∀ j,(listed.setIfInBounds i true).getD j false=true→j=i∨listed.getD j false=true:=by
     intro j h
     by_cases e:i=j
     ·exact .inl e.symm
     ·rw [getD_set_ne false e] at h;exact .inr h
    have hseti:(listed.setIfInBounds i true).getD i false=true:=by
     have:i < listed.size:=by rw [M.size];exact hilt
     simp [this]
    refine ⟨by simpa using M.size,?_,?_,?_,?_,?_,?_,hC⟩
    ·intro k j hk he
     rcases hset k hk with rfl|hk
     ·exact getD_set_true (cK hi he)
     ·exact getD_set_true (M.clos k j hk he)
    ·intro k hk
     rcases hset k hk with rfl|hk
     ·exact hin
     ·exact M.heads k hk
    ·cases hd:o.dst <;> exact M.defers
    ·cases hd:o.dst with
    |none=>exact M.tsize
    |some d=>simp only [Act.put,Array.size_setIfInBounds];exact M.tsize
    ·intro j t hj hjl hd
     rcases hset j hjl with rfl|hjl'
     ·rw [hdi] at hd;rw [hd] at hlt ⊢;simp only [Act.put];rw [Array.getElem?_setIfInBounds_self_of_lt (by rw [M.tsize];exact hlt),nxt_i]
     ·by_cases e:j=i
      ·subst e;rw [hdi] at hd;rw [hd] at hlt ⊢;simp only [Act.put];rw [Array.getElem?_setIfInBounds_self_of_lt (by rw [M.tsize];exact hlt),nxt_i]
      ·rw [nxt_ne u j e]
       have h1:=M.new j t hj hjl' hd
       cases hdo:o.dst with
      |none=>exact h1
      |some d =>
        have hne:d≠t:=fun e'=>e (uniq j i t hj hin hd (by rw [hdi,hdo,e']))
        simp only [Act.put];rw [Array.getElem?_setIfInBounds_ne hne];exact h1
    ·intro t ht
     have h1:=M.old t (fun j hj hjl=>ht j hj (getD_set_true hjl))
     have h2:=ht i hin hseti
     rw [hdi] at h2
     cases hdo:o.dst with
    |none=>exact h1
    |some d =>
      have hne:d≠t:=fun e'=>h2 (by rw [hdo,e'])
      simp only [Act.put];rw [Array.getElem?_setIfInBounds_ne hne];exact h1
   obtain ⟨b,hb,hbt,hbf⟩:=H i o hin ho' vs w M.cls fun j t hj hd ht=>by
    obtain ⟨l1,-⟩:=ok.looks i o t hin ho' ht;exact MR j (by omega) (cK hi (l1 j (by omega) hd).2)
   have hw:Region.wanted o (yielded ops.toArray a.tmps)=b:=by
    unfold gd at hb;split at hb
    ·rename_i hg;simp only [Region.wanted,hg];exact hb
    ·rename_i g want hg;split at hb
     ·rename_i d hd;split at hb
      ·rename_i bb hbb
       have hdd:aM ops g=some d:=by
        unfold aM;simp only [cD,List.getElem?_map,Option.map_eq_some_iff] at hd;obtain ⟨x,hx,hx'⟩:=hd;simp [hx,hx']
       obtain ⟨X,hX1,hX2⟩:=slot listed a w vs i o d M hin ho' hi (eJ hg hdd);rw [hbb] at hX2
       cases hX2
       have:yielded ops.toArray a.tmps g=some bb:=by
        unfold yielded;unfold aM at hdd;simp only [List.getElem?_toArray,hdd,Option.bind_some,hX1]
       simp only [Region.wanted,hg,this];rw [← hb]
       cases bb <;> cases want <;> rfl
      ·rename_i bb hnb hbb
       have hdd:aM ops g=some d:=by
        unfold aM;simp only [cD,List.getElem?_map,Option.map_eq_some_iff] at hd;obtain ⟨x,hx,hx'⟩:=hd;simp [hx,hx']
       obtain ⟨X,hX1,hX2⟩:=slot listed a w vs i o d M hin ho' hi (eJ hg hdd);rw [hbb] at hX2
       cases hX2
       have:yielded ops.toArray a.tmps g=none:=by
        unfold yielded;unfold aM at hdd;simp only [List.getElem?_toArray,hdd,Option.bind_some,hX1];split
        ·rename_i b' e;cases e;exact (hnb b' rfl).elim
        ·rfl
       simp only [Region.wanted,hg,this];rw [← hb];rfl
      ·exact hb.elim
     ·exact hb.elim
   unfold wpOpIn;simp only [ho,hw]
   cases b with
  |true =>
    simp only [if_true];refine (cF ?_)
    have hcong:execOp a.eval o=execOp (evD (cZ l ops vs i)) o:=by
     refine execOp_congr o (ok.sel i o ho') (fun x hx=>?_)
     cases x with
    |tmp t =>
      obtain ⟨X,hX1,hX2⟩:=slot listed a w vs i o t M hin ho' hi (jJ hx);simp [Act.eval,evD,ev,hX1,hX2]
    |const c=>rfl
    |global g=>rfl
    |func f=>rfl
    rw [hcong];exact (hbt rfl).mono fun u w' ⟨hu,hC,hB⟩=>ih _ _ _ _ hu' (step u w' hC) (rest u w' hu hB)
  |false =>
    simp only [Bool.false_eq_true,if_false];exact ⟨fun _ _=>trivial,ih _ _ _ _ hu' (step undef w M.cls) (rest undef w (hbf rfl) (hLe i w))⟩
end
section
variable {P:Program} {N:Nat} {Q:qAl} {l:Env} {w:World}
theorem zLr {id:Nat} {ops:List Oper} (keys:List Nat) (n:Nat) (hm:P.follows .mixedOrders=true) (bF:oF l=keys) (hok:uV keys ops n=true) (hlt:DLt N ops n)
  {C:World→Prop} {R:Nat→Value→World→Prop} (hC:C w.drew) {Le:Nat→World→World→Prop} (hLe:∀ i w,Le i w w) (hS:∀ j i u w w',j < n→i < n→j≠i→C w→R j u w→Le i w w'→R j u w')
  (H:∀ i o,i < n→ops[i]?=some o→∀ (vs:Nat→Value) (w:World),C w→(∀ j t,j < i→aM ops j=some t→t ∈ o.looksAt ops.toArray→R j (vs j) w) →
   ∃ b,gd (cZ l ops vs i) (cD ops) o.guard (·=b)∧(b=true→Yields P (execOp (evD (cZ l ops vs i)) o) w fun u w'=>R i u w'∧C w'∧Le i w w')∧(b=false→R i undef w))
  (hT:∀ (vs:Nat→Value) (w:World),C w→(∀ j,j < n→R j (vs j) w)→VC P N (cD ops) (fun l' w'=>Q .normal l' w') (ops.drop n) (cZ l ops vs n) w):W P N (.region id ops.toArray true) Q l w:=fun hk F=>by
 have ok:=iQ hok
 refine wpIn_region_any hm ?_
 have:=qR4 ok F hk (fun t ht=>nC (by rw [bF];exact ht)) hlt hLe hS H (Q:=qVd N F.ds Q)
  (fun vs w' hw' hR=>tZ F (K:=fun l w=>Q .normal l w) (fun l' w' hk' hK=>⟨F,l',rfl,rfl,hk',hK⟩) _ _ _ (tN hlt hk n (Nat.le_refl _)) (hT vs w' hw' hR))
  ops.length (Array.replicate ops.length false) (mk F l) w.drew (fun _=>undef) (hZ _)
  ⟨by simp,(fun i j hi=>by rw [getD_replicate_false] at hi;cases hi),(fun i hi=>by rw [getD_replicate_false] at hi;cases hi),rfl,by simp [mk,gU,F.hN],(fun j t _ hl=>by rw [getD_replicate_false] at hl;cases hl),fun t _=>rfl,hC⟩
  (fun j _ hl=>by rw [getD_replicate_false] at hl;cases hl)
 simpa using this
theorem zLq {id:Nat} {ops:List Oper} (keys:List Nat) (n:Nat) (hm:P.follows .mixedOrders=true) (bF:oF l=keys) (hok:uV keys ops n=true) (hlt:DLt N ops n)
  {C:World→Prop} {R:Nat→Value→World→Prop} (hC:C w.drew) (hS:∀ i u w w',C w→R i u w→Below w.heap.size w w'→R i u w')
  (H:∀ i o,i < n→ops[i]?=some o→∀ (vs:Nat→Value) (w:World),C w→(∀ j t,j < i→aM ops j=some t→t ∈ o.looksAt ops.toArray→R j (vs j) w) →
   ∃ b,gd (cZ l ops vs i) (cD ops) o.guard (·=b)∧(b=true→Yields P (execOp (evD (cZ l ops vs i)) o) w fun u w'=>R i u w'∧C w'∧Below w.heap.size w w')∧(b=false→R i undef w))
  (hT:∀ (vs:Nat→Value) (w:World),C w→(∀ j,j < n→R j (vs j) w)→VC P N (cD ops) (fun l' w'=>Q .normal l' w') (ops.drop n) (cZ l ops vs n) w):W P N (.region id ops.toArray true) Q l w :=
 zLr keys n hm bF hok hlt hC (Le:=fun _ w w'=>Below w.heap.size w w') (fun _ w=>Below.refl _ _) (fun j _ u w w' _ _ _ hc hr hb=>hS j u w w' hc hr hb) H hT
end
end Go.Eng
end

section
namespace Go.Eng
open Go Go.RowKit

def bZ:Operand→List Nat
|.tmp t=>[t]
|_=>[]
def uE:List Operand→List Nat
|[]=>[]
|x :: r=>bZ x ++ uE r
def nR:List (Nat × Operand)→List Nat
|[]=>[]
|(_,x) :: r=>bZ x ++ nR r
def qFm:Option Operand→List Nat
|some x=>bZ x
|none=>[]
def qH6:Callee→List Nat
|.value x=>bZ x
|_=>[]
def cG:Op→List Nat
|.move x=>bZ x
|.assign x=>bZ x
|.nilCheck x=>bZ x
|.pick c a b=>bZ c ++ (bZ a ++ bZ b)
|.extract x _=>bZ x
|.field _ x _=>bZ x
|.fieldAddr _ x _=>bZ x
|.load _ x=>bZ x
|.unOp _ _ x=>bZ x
|.convert _ _ x=>bZ x
|.indexAddr _ x i=>bZ x ++ bZ i
|.index _ x i=>bZ x ++ bZ i
|.slice _ x l h none=>bZ x ++ (qFm l ++ qFm h)
|.binOp _ _ x y _=>bZ x ++ bZ y
|.build _ ps=>nR ps.toList
|.buildSlice _ _ ps=>nR ps.toList
|.makeSlice _ x y=>bZ x ++ bZ y
|.call ⟨k,args,_⟩=>qH6 k ++ uE args.toList
|_=>[]
theorem jD {x:Operand} {t:Nat} (h:t ∈ bZ x):x=.tmp t:=by
 cases x <;> simp [bZ] at h
 subst h;rfl
theorem qH5:∀ {l:List Operand} {t:Nat},t ∈ uE l→Operand.tmp t ∈ l
|[],t,h=>by simp [uE] at h
|x :: r,t,h=>by
  simp only [uE,List.mem_append] at h
  rcases h with h|h
  ·rw [jD h];exact List.mem_cons_self ..
  ·exact List.mem_cons_of_mem _ (qH5 h)
theorem qA6:∀ {l:List (Nat × Operand)} {t:Nat},t ∈ nR l→Operand.tmp t ∈ l.map (·.2)
|[],t,h=>by simp [nR] at h
|(k,x) :: r,t,h=>by
  simp only [nR,List.mem_append] at h
  rcases h with h|h
  ·rw [List.map_cons,jD h];exact List.mem_cons_self ..
  ·rw [List.map_cons];exact List.mem_cons_of_mem _ (qA6 h)
theorem qPf {x:Option Operand} {t:Nat} (h:t ∈ qFm x):x=some (.tmp t):=by
 cases x with
|none=>simp [qFm] at h
|some x=>rw [jD h]
theorem qUf {o:Op} {t:Nat} (h:t ∈ cG o):Operand.tmp t ∈ o.operands:=by
 unfold cG at h;split at h
 all_goals try simp only [List.mem_append] at h
 case h_13=>
  simp only [Op.operands]
  rcases h with h|h|h
  ·rw [jD h];simp
  ·rw [qPf h];simp
  ·rw [qPf h];simp
 case h_15=>simpa [Op.operands] using qA6 h
 case h_16=>simpa [Op.operands] using qA6 h
 case h_18 =>
  simp only [Op.operands,Call.operands,Array.mem_append]
  rcases h with h|h
  ·refine .inl ?_;unfold qH6 at h;split at h
   ·rw [jD h];simp
   ·simp at h
  ·exact .inr (by simpa using qH5 h)
 case h_19=>simp at h
 all_goals
  simp only [Op.operands]
  first
 |(rw [jD h];simp;done)
 |(rcases h with h|h <;> (rw [jD h];simp))
 |(rcases h with h|h|h <;> (rw [jD h];simp))
def rN (ds:List (Option Nat)):Option (Nat × Bool)→List Nat
|none=>[]
|some (g,_)=>match ds[g]? with
 |some (some d)=>[d]
 |_=>[]
def gY (e:bL):List Nat→bL
|[]=>[]
|t :: r=>match hlk e t with
 |some h=>(t,h) :: gY e r
 |none=>gY e r
theorem rZ {e:bL}:∀ {l:List Nat} {t:Nat} {h:HV},hlk (gY e l) t=some h→t ∈ l∧hlk e t=some h
|[],t,h,hh=>by simp [gY,hlk] at hh
|k :: r,t,h,hh=>by
  simp only [gY] at hh;split at hh
  ·rename_i x hx;simp only [hlk] at hh
   by_cases ek:k=t
   ·subst ek;rw [if_pos rfl] at hh;exact ⟨List.mem_cons_self ..,by rw [hx];exact hh⟩
   ·rw [if_neg ek] at hh;obtain ⟨a,b⟩:=rZ hh;exact ⟨List.mem_cons_of_mem _ a,b⟩
  ·obtain ⟨a,b⟩:=rZ hh;exact ⟨List.mem_cons_of_mem _ a,b⟩
def zL0 (P:Program) (f:FuncId) (args:List HV) (T:HS) (K:HV→Prop):Prop :=
 aK P f=true∧∃ h,K h∧∀ (c:Ctx) (look:Nat→Option Value) (w:World) (ρ:Nat→Value) (xs:Nat→List Value) (vs:List Value),Good c T look w ρ xs→iZ w (c.A ρ T.st) c.n0 ρ vs args →
  Calls P f vs.toArray w (Ret fun u w'=>RepH w' (c.A ρ T.st) c.n0 ρ u h∧Below w.heap.size w w')
def kW:bL→Bool
|[]=>true
|(_,.v _) :: r=>kW r
|(_,.lst _ _) :: r=>kW r
|(_,.agg _) :: r=>kW r
|_=>false
def zC3 (d:Option Nat) (S:HS) (K:HS→Prop):HOut→Prop
|.go c (.own i) S'=>match rlk S'.st i with
 |some (.sl _ _ _ els)=>c∧K (S.set d (.lst true els))
 |_=>False
|_=>False
def zHj:Op→Bool
|.buildSlice ..=>true
|.makeSlice ..=>true
|_=>false
def qAj (P:Program) (o:Oper) (S T:HS) (K:HS→Prop):HOut→Prop
|.go c h _=>match dF o.op with
 |true=>c∧K (S.set o.dst h)
 |false=>match zHj o.op && kW T.env with
  |true=>zC3 o.dst S K (hop P ⟨T.env,[]⟩ (qC5 o.dst) o.op)
  |false=>False
|.call f args=>zL0 P f args T (fun x=>mM K (S.set o.dst x))
|.eqn t x y neg=>∃ r,EqR P t x.toArray y.toArray r∧mM K (S.set o.dst (.v (.bool (neg ^^ r))))
|.bytes _ _=>False
|.bad=>False
def qZ8 (P:Program) (N:Nat) (o:Oper) (S T:HS) (K:HS→Prop):Prop:=match dM N o.dst with
|true=>qAj P o S T K (hop P T (qC5 o.dst) o.op)
|false=>False
def qE7 (P:Program) (N:Nat) (o:Oper) (S T:HS) (K:HS→Prop):GOut→Prop
|.yes=>qZ8 P N o S T K
|.no=>kG N o.dst S K
|.ask d b want=>match b == want with
 |true=>qZ8 P N o (S.rep d (.v (.bool want))) (T.rep d (.v (.bool want))) K
 |false=>kG N o.dst (S.rep d (.v (.bool (!want)))) K
|.bad=>False
def HVr (P:Program) (N:Nat) (ds:List (Option Nat)) (K:HS→Prop):List Oper→HS→Prop
|[],S=>K S
|o :: rest,S=>qE7 P N o S ⟨gY S.env (rN ds o.guard ++ cG o.op),S.st⟩ (HVr P N ds K rest) (hG (gY S.env (rN ds o.guard ++ cG o.op)) ds o.guard)
end Go.Eng
end

section
namespace Go.Eng
open Go Go.RowKit
section
variable {P:Program} {N:Nat} {c:Ctx} {S T:HS} {Q:eN} {l:Env} {look:Nat→Option Value} {w w':World} {ρ:Nat→Value} {xs:Nat→List Value} {K:HS→Prop}
theorem RepH.above {A:Nat→Prop} {n0:Nat} {v:Value} {x:HV} (h:RepH w A n0 ρ v x) (B:Below w.heap.size w w'):RepH w' A n0 ρ v x:=h.up B.size (fun b hlt _=>B.block b hlt) (fun b _ h=>h) (Nat.le_refl _)
theorem qAe {d:Nat} {h:HV}:∀ {E:bL},hlk E d=some h→∀ k,hlk (uM d h E) k=hlk E k
|[],e,k=>by simp [hlk] at e
|(j,x) :: r,e,k=>by
  simp only [hlk] at e;simp only [uM]
  by_cases ej:j=d
  ·rw [if_pos ej] at e ⊢;simp only [Option.some.injEq] at e;subst e;rfl
  ·rw [if_neg ej] at e ⊢;simp only [hlk,qAe e k]
theorem Good.sameEnv {E:bL} {st:aF} (G:Good c ⟨E,st⟩ look w ρ xs) {E':bL} (h:∀ k,hlk E' k=hlk E k):Good c ⟨E',st⟩ look w ρ xs:=⟨G.rows,G.apart,fun k x hk=>G.env k x (by rw [← h k];exact hk),G.kept,G.a0⟩
theorem qYj (G:Good c T (lk l) w ρ xs) {id i:Nat} {o:Op} {ty:TypeId} {cnd:Prop} {S':HS} (hp:kW T.env=true) (h:hop P ⟨T.env,[]⟩ id o=.go cnd (.own i) S') {nw:Bool} {t sz:Nat} {els:List (List FV)} (hr:rlk S'.st i=some (.sl nw t sz els)) (hc:cnd) :
  bK P l o ty w (fun u w'=>RepH w' (c.A ρ T.st) c.n0 ρ u (.lst true els)∧Below w.heap.size w w') (fun u w'=>RepH w' (c.A ρ T.st) c.n0 ρ u (.lst true els)∧Below w.heap.size w w'):=by
 have hA:∀ b,c.A ρ T.st b→b < w.heap.size:=by
  rintro b (h0|⟨i,r,hi,hb⟩)
  ·have:=(G.a0 b h0).1;have:=G.kept.size;omega
  ·exact G.lt hi hb
 have G2:Good ⟨w,fun _=>False,c.A ρ T.st,c.n0,Nat.le_trans c.hn G.kept.size,fun _ _=>False⟩ ⟨T.env,[]⟩ (lk l) w ρ xs:=by
  refine ⟨fun id r hr=>by simp [rlk] at hr,fun i j r s b hne hi=>by simp [rlk] at hi,fun k x hk=>?_,Kept.refl _ _,fun b hb=>⟨hA b hb,fun h=>h⟩⟩
  obtain ⟨u,h1,h2⟩:=G.env k _ hk;refine ⟨u,h1,h2.up (Nat.le_refl _) (fun _ _ _=>rfl) (fun b _ hb=>?_) (Nat.le_refl _)⟩
  rcases hb with hb|⟨i,r,hi,-⟩
  ·exact hb
  ·simp [rlk] at hi
 refine bU (qPc G2 (aY _ _) h hc) fun u w' ⟨ρ2,xs2,G3,r⟩=>?_
 have B:Below w.heap.size w w':=G3.kept.below (fun _ _ h=>h)
 refine ⟨?_,B⟩
 cases r
 obtain ⟨o1,o2,o3⟩:=dB G3 hr
 have R0:=G3.rows i _ hr
 refine .lst (qB9 o1 o2 (fun p k hp hk=>?_) (fun b hb=>?_))
 ·obtain ⟨u,a,b,d⟩:=o3 p k hp hk;exact ⟨u,a,b,d.up (Nat.le_refl _) (fun _ _ _=>rfl) (fun b _ h=>.inl h) (Nat.le_refl _)⟩
 ·rcases (R0.new b hb).1 with h|h
  ·have h:w.heap.size≤b:=h
   exact ⟨fun hA'=>by have:=hA b hA';omega,fun _=>by have:=c.hn;have:=G.kept.size;omega⟩
  ·exact h.elim
theorem qSi {o:Oper} (h:qZ8 P N o S T K):iJ N o.dst∧∃ x,K (S.set o.dst x)∧∀ (c:Ctx) (l:Env) (w:World) (ρ:Nat→Value) (xs:Nat→List Value),Good c T (lk l) w ρ xs →
  bK P l o.op o.type w (fun u w'=>RepH w' (c.A ρ T.st) c.n0 ρ u x∧Below w.heap.size w w') (fun u w'=>RepH w' (c.A ρ T.st) c.n0 ρ u x∧Below w.heap.size w w'):=by
 unfold qZ8 at h;split at h
 ·rename_i hd;refine ⟨eC hd,?_⟩
  cases ho:hop P T (qC5 o.dst) o.op with
 |go c' hv S' =>
   rw [ho] at h;unfold qAj at h;dsimp only at h;split at h
   ·rename_i hq;obtain ⟨h0,h1⟩:=h;refine ⟨hv,h1,fun c l w ρ xs G=>?_⟩
    obtain ⟨v,hK,hv'⟩:=zFn (ty:=o.type) (qHy (ty:=0) G (aY _ _) ho hq h0);exact bU (hv' w (Below.refl _ _)) fun u w' ⟨e,B⟩=>by subst e;exact ⟨hK.2.2.above B,B⟩
   ·split at h
    ·rename_i hm;simp only [Bool.and_eq_true] at hm;unfold zC3 at h;split at h
     ·rename_i c2 i S2 hm2;split at h
      ·rename_i nw t sz els hr;exact ⟨_,h.2,fun c l w ρ xs G=>qYj G hm.2 hm2 hr h.1⟩
      ·exact h.elim
     ·exact h.elim
    ·exact h.elim
 |call f args =>
   rw [ho] at h;obtain ⟨hf,x,hK,hc⟩:=h;refine ⟨x,hK,fun c l w ρ xs G=>?_⟩
   obtain ⟨y,ay,ats,e,hfn,has⟩:=qLd ho;rw [e];obtain ⟨vs,e1,e2,e3⟩:=G.evs (aY _ _) has;unfold bK;simp only [aQ,bY,e1,G.fn (aY _ _) hfn];exact ⟨hf,hc c (lk l) w ρ xs vs G ⟨e2,e3⟩⟩
 |eqn t x y neg =>
   rw [ho] at h;obtain ⟨r,h1,h2⟩:=h;refine ⟨_,h2,fun c l w ρ xs G=>?_⟩
   exact bU (qHz G (aY _ l) ho h1) fun v w' ⟨e,_,r⟩=>by subst e;exact ⟨r,Below.refl _ _⟩
 |bytes ok s=>rw [ho] at h;exact h.elim
 |bad=>rw [ho] at h;exact h.elim
 ·exact h.elim
def FrOk (ops:List Oper) (E0:bL) (hs:Nat→HV) (i:Nat) (E:bL):Prop:=∀ t h,hlk E t=some h→(∃ j,j < i∧aM ops j=some t∧hs j=h)∨((∀ j,j < i→aM ops j≠some t)∧hlk E0 t=some h)
theorem FrOk.congr {ops:List Oper} {E0 E:bL} {hs hs':Nat→HV} {i:Nat} (h:FrOk ops E0 hs i E) (he:∀ j,j < i→hs' j=hs j):FrOk ops E0 hs' i E:=fun t x hx=>by
 rcases h t x hx with ⟨j,a,b,d⟩|r
 ·exact .inl ⟨j,a,b,by rw [he j a];exact d⟩
 ·exact .inr r
theorem FrOk.env {ops:List Oper} {E0 E E':bL} {hs:Nat→HV} {i:Nat} (h:FrOk ops E0 hs i E) (he:∀ t x,hlk E' t=some x→hlk E t=some x):FrOk ops E0 hs i E':=fun t x hx=>h t x (he t x hx)
theorem FrOk.set {ops:List Oper} {E0:bL} {hs:Nat→HV} {i:Nat} {S:HS} (h:FrOk ops E0 hs i S.env) {o:Oper} (ho:ops[i]?=some o):FrOk ops E0 hs (i + 1) (S.set o.dst (hs i)).env:=by
 have hd:aM ops i=o.dst:=by unfold aM;rw [ho];rfl
 intro t x hx
 cases e:o.dst with
|none =>
  rw [e] at hx hd
  rcases h t x hx with ⟨j,a,b,d⟩|⟨a,b⟩
  ·exact .inl ⟨j,by omega,b,d⟩
  ·refine .inr ⟨fun j hj=>?_,b⟩
   by_cases ej:j=i
   ·subst ej;rw [hd];simp
   ·exact a j (by omega)
|some d =>
  rw [e] at hx hd;simp only [HS.set,hlk] at hx
  by_cases et:d=t
  ·rw [if_pos et] at hx;simp only [Option.some.injEq] at hx;exact .inl ⟨i,by omega,by rw [hd,et],hx⟩
  ·rw [if_neg et] at hx
   rcases h t x hx with ⟨j,a,b,d'⟩|⟨a,b⟩
   ·exact .inl ⟨j,by omega,b,d'⟩
   ·refine .inr ⟨fun j hj=>?_,b⟩
    by_cases ej:j=i
    ·subst ej;rw [hd];simpa using et
    ·exact a j (by omega)
structure HeadOk (P:Program) (N:Nat) (ops:List Oper) (E0:bL) (st:aF) (hs:Nat→HV) (i:Nat) (o:Oper):Prop where
 lt:iJ N o.dst
 head:∃ T:bL,FrOk ops E0 hs i T∧(∀ t h,hlk T t=some h→t ∈ rN (cD ops) o.guard ++ cG o.op)∧∀ (c:Ctx) (l:Env) (w:World) (ρ:Nat→Value) (xs:Nat→List Value),Good c ⟨T,st⟩ (lk l) w ρ xs →
  ∃ b,gd l (cD ops) o.guard (·=b)∧(b=true→bK P l o.op o.type w (fun u w'=>RepH w' (c.A ρ st) c.n0 ρ u (hs i)∧Below w.heap.size w w') (fun u w'=>RepH w' (c.A ρ st) c.n0 ρ u (hs i)∧Below w.heap.size w w'))∧(b=false→hs i=.v undef)
theorem qNr {d:Option Nat} (h:kG N d S K):iJ N d∧K (S.set d (.v undef)):=by
 unfold kG at h;split at h
 ·rename_i hd;exact ⟨eC hd,h⟩
 ·exact h.elim
theorem uB {ops:List Oper} {E0:bL} {st:aF}:∀ (rest:List Oper) (i:Nat) (S:HS) (hs0:Nat→HV),(∀ k o,rest[k]?=some o→ops[i + k]?=some o)→S.st=st→FrOk ops E0 hs0 i S.env→HVr P N (cD ops) K rest S →
  ∃ hs,(∀ j,j < i→hs j=hs0 j)∧(∀ k o,rest[k]?=some o→HeadOk P N ops E0 st hs (i + k) o)∧∃ S',S'.st=st∧FrOk ops E0 hs (i + rest.length) S'.env∧K S'
|[],i,S,hs0,hops,hst,F,h=>⟨hs0,fun _ _=>rfl,fun k o hk=>by simp at hk,S,hst,F,h⟩
|o :: rest,i,S,hs0,hops,hst,F,h=>by
  have hoi:ops[i]?=some o:=hops 0 o (by simp)
  rw [HVr] at h;generalize hT:gY S.env (rN (cD ops) o.guard ++ cG o.op)=T at h
  have TF:∀ t x,hlk T t=some x→t ∈ rN (cD ops) o.guard ++ cG o.op∧hlk S.env t=some x:=fun t x hx=>by subst hT;exact rZ hx
  have key:∀ (S1:HS) (x:HV),S1.st=st→FrOk ops E0 hs0 i S1.env→HVr P N (cD ops) K rest (S1.set o.dst x)→iJ N o.dst →
    (∀ (c:Ctx) (l:Env) (w:World) (ρ:Nat→Value) (xs:Nat→List Value),Good c ⟨T,st⟩ (lk l) w ρ xs →
     ∃ b,gd l (cD ops) o.guard (·=b)∧(b=true→bK P l o.op o.type w (fun u w'=>RepH w' (c.A ρ st) c.n0 ρ u x∧Below w.heap.size w w') (fun u w'=>RepH w' (c.A ρ st) c.n0 ρ u x∧Below w.heap.size w w'))∧(b=false→x=.v undef)) →
    ∃ hs,(∀ j,j < i→hs j=hs0 j)∧(∀ k o',(o :: rest)[k]?=some o'→HeadOk P N ops E0 st hs (i + k) o')∧∃ S',S'.st=st∧FrOk ops E0 hs (i + (o :: rest).length) S'.env∧K S':=by
   intro S1 x hst1 F1 hK hlt hrun
   let hs1:Nat→HV:=fun j=>if j=i then x else hs0 j
   have e1:hs1 i=x:=if_pos rfl
   have e2:∀ j,j < i→hs1 j=hs0 j:=fun j hj=>if_neg (by omega)
   have F2:FrOk ops E0 hs1 (i + 1) (S1.set o.dst x).env:=by
    have:=(F1.congr e2).set hoi
    rw [e1] at this;exact this
   obtain ⟨hs,a,b,S',d,e,f⟩:=uB rest (i + 1) (S1.set o.dst x) hs1 (fun k o' hk=>by
    have:=hops (k + 1) o' (by simpa using hk)
    rw [show i + 1 + k=i + (k + 1) by omega];exact this) (by cases o.dst <;> exact hst1) F2 hK
   have ei:hs i=x:=by rw [a i (by omega),e1]
   have ej:∀ j,j < i→hs j=hs0 j:=fun j hj=>by rw [a j (by omega),e2 j hj]
   refine ⟨hs,ej,fun k o' hk=>?_,S',d,?_,f⟩
   ·cases k with
   |zero =>
     simp only [List.getElem?_cons_zero,Option.some.injEq] at hk;subst hk;exact ⟨hlt,T,(F.congr ej).env (fun t x hx=>(TF t x hx).2),fun t x hx=>(TF t x hx).1,by rw [Nat.add_zero,ei];exact hrun⟩
   |succ k =>
     have:=b k o' (by simpa using hk)
     rw [show i + 1 + k=i + (k + 1) by omega] at this;exact this
   ·rw [List.length_cons,show i + (rest.length + 1)=i + 1 + rest.length by omega];exact e
  cases hg:hG T (cD ops) o.guard with
 |yes =>
   rw [hg] at h;obtain ⟨hlt,x,hK,hv⟩:=qSi h;refine key S x hst F hK hlt fun c l w ρ xs G=>⟨true,qTn (S:=⟨T,st⟩) hg rfl,fun _=>?_,fun e=>by cases e⟩
   have:=hv c l w ρ xs (by rw [hst];exact G)
   rw [hst] at this;exact this
 |no =>
   rw [hg] at h;obtain ⟨hlt,hK⟩:=qNr h;exact key S _ hst F hK hlt fun c l w ρ xs G=>⟨false,zJj (S:=⟨T,st⟩) ⟨ρ,xs,G⟩ hg rfl,fun e=>(by cases e),fun _=>rfl⟩
 |ask d b want =>
   rw [hg] at h;obtain ⟨j,hj,hd,hb⟩:=zJh (S:=⟨T,st⟩) hg
   have hbS:=(TF d _ hb).2
   simp only [qE7] at h;split at h
   ·rename_i e
    have e':b=want:=by simpa using e
    subst e';obtain ⟨hlt,x,hK,hv⟩:=qSi h;refine key (S.rep d (.v (.bool b))) x hst (F.env fun t x hx=>by rw [← qAe hbS t];exact hx) hK hlt fun c l w ρ xs G=>⟨true,(qBg (S:=⟨T,st⟩) ⟨ρ,xs,G⟩ hg (k:=(·=true)) e).1,fun _=>?_,fun e=>by cases e⟩
    have:=hv c l w ρ xs (by rw [hst];exact G.sameEnv (qAe hb))
    simp only [HS.rep] at this;rw [hst] at this;exact this
   ·rename_i e
    have e':b=!want:=by cases b <;> cases want <;> simp_all
    subst e';obtain ⟨hlt,hK⟩:=qNr h;exact key (S.rep d (.v (.bool (!want)))) _ hst (F.env fun t x hx=>by rw [← qAe hbS t];exact hx) hK hlt fun c l w ρ xs G=>⟨false,(qBg (S:=⟨T,st⟩) ⟨ρ,xs,G⟩ hg (k:=(·=false)) e).1,fun e=>(by cases e),fun _=>rfl⟩
 |bad=>rw [hg] at h;exact h.elim
end
end Go.Eng
end

section
namespace Go.Eng
open Go Go.RowKit
section
variable {P:Program} {N:Nat} {c:Ctx} {S T:HS} {Q:eN} {l:Env} {look:Nat→Option Value} {w w':World} {ρ:Nat→Value} {xs:Nat→List Value} {K:HS→Prop}
theorem qH {ops:List Oper} {o:Oper} {t:Nat} (h:t ∈ rN (cD ops) o.guard ++ cG o.op):t ∈ o.looksAt ops.toArray:=by
 rcases List.mem_append.1 h with h|h
 ·cases hg:o.guard with
 |none=>rw [hg] at h;simp [rN] at h
 |some p =>
   obtain ⟨g,b⟩:=p;rw [hg] at h;simp only [rN] at h;split at h
   ·rename_i d hd;simp only [List.mem_singleton] at h;subst h;refine eJ hg ?_;unfold aM;simp only [cD,List.getElem?_map,Option.map_eq_some_iff] at hd;obtain ⟨x,hx,hx'⟩:=hd;simp [hx,hx']
   ·simp at h
 ·exact jJ (qUf h)
theorem eZ {x:HV} {k:Nat}:∀ {e:bL},hlk e k=some x→k ∈ bF e
|[],h=>by simp [hlk] at h
|(j,y) :: r,h=>by
  simp only [hlk] at h
  by_cases ej:j=k
  ·simp [bF,ej]
  ·rw [if_neg ej] at h
   have:=eZ h
   simp only [bF,List.map_cons,List.mem_cons];exact .inr this
theorem zNx {id:Nat} {ops:List Oper} (n:Nat) (hm:P.follows .mixedOrders=true) (hok:uV (bF S.env) ops n=true)
  (h:∀ K:HS→Prop,(∀ S',Q .normal S'→K S')→HVr P N (cD ops) (fun S'=>mM (HV2 P N (cD ops) K (ops.drop n)) S') (ops.take n) S):HW P N (.region id ops.toArray true) Q S:=fun c l w I=>by
 have hks:∀ k ∈ bF S.env,∃ v,lk l k=some v:=fun k hk=>by
  obtain ⟨x,hx⟩:=gE hk;obtain ⟨ρ,xs,G⟩:=I;obtain ⟨v,h1,-⟩:=G.env k x hx;exact ⟨v,h1⟩
 refine qBn (bF S.env) ?_
 have I':Inv c S (lk (keep (bF S.env) l)) w:=I.agree fun k x hk=>lJ (eZ hk)
 have hkk:oF (keep (bF S.env) l)=bF S.env:=kZ hks
 generalize keep (bF S.env) l=l' at I' hkk;obtain ⟨ρ,xs,G⟩:=I'
 have ok:=iQ hok
 have hlen:(ops.take n).length=n:=by rw [List.length_take];have:=ok.hn;omega
 have get_take:∀ {i:Nat} {o:Oper},(ops.take n)[i]?=some o→i < n∧ops[i]?=some o:=fun {i o} h=>by
  have hi:=(List.getElem?_eq_some_iff.1 h).1
  rw [hlen] at hi;rw [List.getElem?_take_of_lt hi] at h;exact ⟨hi,h⟩
 obtain ⟨hs,-,heads,S1,e1,F1,h1⟩:=uB (E0:=S.env) (st:=S.st) (ops.take n) 0 S (fun _=>.junk) (fun k o hk=>by rw [Nat.zero_add];exact (get_take hk).2) rfl (fun t x hx=>.inr ⟨fun j hj=>absurd hj (Nat.not_lt_zero _),hx⟩) (h (Q .normal) fun _ h=>h)
 rw [hlen,Nat.zero_add] at F1
 have head:∀ i o,i < n→ops[i]?=some o→HeadOk P N ops S.env S.st hs i o:=fun i o hi ho=>by
  have:=heads i o (by rw [List.getElem?_take_of_lt hi];exact ho)
  rw [Nat.zero_add] at this;exact this
 have uniq:∀ i j t,i < n→j < n→aM ops i=some t→aM ops j=some t→i=j:=by
  intro i j t hi hj h1 h2
  rcases Nat.lt_trichotomy i j with h|h|h
  ·rcases ok.uniq j i hj h with e|e
   ·rw [h2] at e;cases e
   ·exact absurd (h2.trans h1.symm) e
  ·exact h
  ·rcases ok.uniq i j hi h with e|e
   ·rw [h1] at e;cases e
   ·exact absurd (h1.trans h2.symm) e
 have hlt:DLt N ops n:=fun i t hi hd=>by
  obtain ⟨o,ho,hod⟩:=pQ hd
  have:=(head i o hi ho).lt
  rw [hod] at this;exact this
 -- what a frame of the heads' names reads
 have frame:∀ (vs:Nat→Value) (w':World) (i:Nat) (E:bL),i≤n→Below w.heap.size w w'→FrOk ops S.env hs i E →
   (∀ j t x,j < i→aM ops j=some t→hlk E t=some x→RepH w' (c.A ρ S.st) c.n0 ρ (vs j) (hs j))→Good c ⟨E,S.st⟩ (lk (cZ l' ops vs i)) w' ρ xs:=fun vs w' i E hi hB F hv=>by
  have GB:=G.below hB
  refine ⟨GB.rows,GB.apart,fun k x hk=>?_,GB.kept,GB.a0⟩
  rcases F k x hk with ⟨j,a,b,d⟩|⟨a,b⟩
  ·refine ⟨vs j,(fY (l:=l') (vs:=vs) hlt (base:=Array.replicate N undef) (by simp) b (fun q hq hne e=>hne (uniq q j k hq (by omega) e b)) i hi a).1,?_⟩
   rw [← d];exact hv j k x a b hk
  ·obtain ⟨v,v1,v2⟩:=GB.env k x b;exact ⟨v,by rw [(fX (l:=l') (vs:=vs) #[] k i a).1];exact v1,v2⟩
 refine zLq (bF S.env) n hm hkk hok hlt (C:=fun w'=>Below w.heap.size w w') (R:=fun j u w'=>RepH w' (c.A ρ S.st) c.n0 ρ u (hs j)) (Below.refl _ _).drew (fun i u w1 w2 _ hr hB=>hr.above hB) ?_ ?_
 ·intro i o hi ho vs w1 hC hR;obtain ⟨T,TF,TS,run⟩:=(head i o hi ho).head
  have GT:Good c ⟨T,S.st⟩ (lk (cZ l' ops vs i)) w1 ρ xs:=frame vs w1 i T (by omega) hC TF fun j t x hj hd hx=>hR j t hj hd (qH (TS t x hx))
  obtain ⟨b,b1,b2,b3⟩:=run c _ w1 ρ xs GT;refine ⟨b,b1,fun hb=>?_,fun hb=>?_⟩
  ·exact (gH (fun x X hx=>by simp [evD,hx]) (b2 hb)).mono fun u w2 ⟨hu,hB⟩=>⟨hu,hC.trans (hB.mono hC.size),hB⟩
  ·rw [b3 hb];exact .v _
 ·intro vs w1 hC hR;obtain ⟨E1,st1⟩:=S1
  have e1:st1=S.st:=e1
  subst e1
  have G1:=frame vs w1 n E1 (Nat.le_refl _) hC F1 fun j t x hj _ _=>hR j hj
  exact HW_drw.V2.mono' (qBo _ _ _ _ h1 ⟨ρ,xs,G1⟩) fun l2 w2 h2=>h2
theorem zT6 {f:FuncId} {args args':List HV} {x:HV} {K:HV→Prop} (hc:aK P f=true) (H:HFun P f args' (fun h st=>h=x∧st=[])) (hf:FreshH x) (hn:∀ ρ ρ':Nat→Value,∀ (w:World) (A:Nat→Prop) (n:Nat) (v:Value),RepH w A n ρ v x→RepH w A n ρ' v x) (hl:Lends T.st args args') (hK:K x):zL0 P f args T K :=
 ⟨hc,x,hK,fun c look w ρ xs vs G R=>Ret.mono (H w vs (sK G R hl)) fun v w' ⟨B,h,st,h8,⟨e1,e2⟩,ρ',xs',G',hr⟩=>⟨by
  subst e1;subst e2
  have hw:c.n0≤w.heap.size:=Nat.le_trans c.hn G.kept.size
  refine hn ρ' ρ _ _ _ _ (hr.up (Nat.le_refl _) (fun _ _ _=>rfl) (fun b _ hA=>?_) hw)
  left
  show b < w.heap.size
  rcases hA with h0|⟨i,r,hi,hb⟩
  ·have:=(G.a0 b h0).1;have:=G.kept.size;omega
  ·exact G.lt hi hb,B⟩⟩
theorem zB4 {f:FuncId} {args args':List HV} {x:Value} {K:HV→Prop} (hc:aK P f=true) (H:HFun P f args' (fun h st=>h=.v x)) (hl:Lends T.st args args') (hK:K (.v x)):zL0 P f args T K :=
 ⟨hc,.v x,hK,fun c look w ρ xs vs G R=>Ret.mono (H w vs (sK G R hl)) fun v w' ⟨B,h,st,h8,q,ρ',xs',G',hr⟩=>⟨by subst q;have:=bD hr;subst this;exact .v _,B⟩⟩
end
end Go.Eng
end

section
namespace Go.Eng
open Go Go.RowKit
section
variable {P:Program} {T:HS}
end
end Go.Eng
end

section
namespace Go.Eng
open Go Go.RowKit
theorem zS (t:Nat):hlk [] t=none:=nr rfl
theorem zM (k:Nat) (v:HV) (r:bL) (t:Nat):hlk ((k,v) :: r) t=if k=t then some v else hlk r t:=nr rfl
theorem zX (t:Nat):rlk [] t=none:=nr rfl
theorem zU (k:Nat) (v:Row) (r:aF) (t:Nat):rlk ((k,v) :: r) t=if k=t then some v else rlk r t:=nr rfl
theorem zB3 (l:bL) (t:Nat):hev l (.tmp t)=hlk l t:=nr rfl
theorem qQ2 (l:bL) (v:Value):hev l (.const v)=some (.v v):=nr rfl
theorem qLi (l:bL) (g:Nat):hev l (.global g)=some (.v (.pointer (some ⟨g,0,none⟩))):=nr rfl
theorem qWg (l:bL) (f:FuncId):hev l (.func f)=some (.v (.func (.func f) #[] #[])):=nr rfl
theorem qWf (l:bL):lB l []=some []:=nr rfl
theorem qQ1 (l:bL) (x:Operand) (r:List Operand):lB l (x :: r)=match hev l x with|some v=>(match lB l r with|some vs=>some (v :: vs)|none=>none)|none=>none:=nr rfl
theorem zHo (x:Value):qEu (some (.v x))=some x:=nr rfl
theorem qQc  : qEu none=none:=nr rfl
theorem qVk (fr:Bool) (xs:List (List FV)):qEu (some (.lst fr xs))=none:=nr rfl
theorem qVj (i:Nat):qEu (some (.own i))=none:=nr rfl
theorem qVi (i s j k:Nat):qEu (some (.ptr i s j k))=none:=nr rfl
theorem qVl (fr:Bool) (xs:List (List FV)) (s j k:Nat):qEu (some (.elt fr xs s j k))=none:=nr rfl
theorem qVm (cs:List HV):qEu (some (.agg cs))=none:=nr rfl
theorem qVh (cs:List HV):qEu (some (.tup cs))=none:=nr rfl
theorem zBe (i s o n:Nat):qEu (some (.vw i s o n))=none:=nr rfl
theorem qQd  : qEu (some .junk)=none:=nr rfl
theorem qMb (S:HS) (id:Nat) (P:Program) (o:Op) (c:Prop) (v:Value):qDi S id P o (some (c,v))=.go c (.v v) S:=nr rfl
theorem qMc (S:HS) (id:Nat) (P:Program) (o:Op):qDi S id P o none=gS P S id o:=nr rfl
theorem zH4 (P:Program) (S:HS) (id:Nat) (o:Op):hop P S id o=qDi S id P o (aQ P (lo S.env) o):=nr rfl
theorem qQ5 (P:Program) (S:HS) (id:Nat) (x:Operand):gS P S id (.move x)=uY S (hev S.env x):=nr rfl
theorem qGb (P:Program) (S:HS) (id:Nat) (x:Operand):gS P S id (.assign x)=uY S (hev S.env x):=nr rfl
theorem qQ3 (P:Program) (S:HS) (id:Nat) (c a b:Operand):gS P S id (.pick c a b)=qDj S (hev S.env c) (hev S.env a) (hev S.env b):=nr rfl
theorem qDg (P:Program) (S:HS) (id:Nat) (x:Operand) (i:Nat):gS P S id (.extract x i)=kE S i (hev S.env x):=nr rfl
theorem qLo (P:Program) (S:HS) (id:Nat) (t:TypeId) (x:Operand) (f:Nat):gS P S id (.field t x f)=rH S (xE P t f) (hev S.env x):=nr rfl
theorem qLp (P:Program) (S:HS) (id:Nat) (t:TypeId) (x:Operand) (f:Nat):gS P S id (.fieldAddr t x f)=rJ S (dS P t f) (hev S.env x):=nr rfl
theorem qQ4 (P:Program) (S:HS) (id:Nat) (x:Operand):gS P S id (.nilCheck x)=qNw S (hev S.env x):=nr rfl
theorem qLn (P:Program) (S:HS) (id:Nat) (t:TypeId) (x i:Operand):gS P S id (.indexAddr t x i)=lC S (cA P t) (qSo P t) (hev S.env x) (hev S.env i):=nr rfl
theorem qLk (P:Program) (S:HS) (id:Nat) (t:TypeId) (x:Operand) (l h:Option Operand):gS P S id (.slice t x l h none)=pD S (cA P t) l h (hev S.env x):=nr rfl
theorem qQ6 (P:Program) (S:HS) (id:Nat) (t:TypeId) (x:Operand):gS P S id (.load t x)=qS S (bW P t) (hev S.env x):=nr rfl
theorem qLj (P:Program) (S:HS) (id:Nat) (t:TypeId) (x y:Operand):gS P S id (.store t x y)=xA S (bW P t) (hev S.env x) (hev S.env y):=nr rfl
theorem qLt (P:Program) (S:HS) (id:Nat) (t:TypeId):gS P S id (.alloc t)=xC S id t (dX P t):=nr rfl
theorem qWk (P:Program) (S:HS) (id:Nat) (t:TypeId) (x:Operand):gS P S id (.box t x)=qW0 S id t (hev S.env x):=nr rfl
theorem qLs (P:Program) (S:HS) (id:Nat) (t:TypeId) (ps:Array (Nat × Operand)):gS P S id (.build t ps)=uN S (dA P t) (dQ P t) (dX P t) (iR S.env ps.toList):=nr rfl
theorem qGa (P:Program) (S:HS) (id:Nat) (t n:TypeId) (ps:Array (Nat × Operand)):gS P S id (.buildSlice t n ps)=qY S id n (rD P t) (iR S.env ps.toList):=nr rfl
theorem qLl (P:Program) (S:HS) (id:Nat) (t:TypeId) (x y:Operand):gS P S id (.makeSlice t x y)=qGj S id (rD P t) (hev S.env x) (hev S.env y):=nr rfl
theorem qWi (P:Program) (S:HS) (id:Nat) (args:Array Operand) (ats:Array TypeId):gS P S id (.call ⟨.builtin .len,args,ats⟩)=match lB S.env args.toList with|some [h]=>qMi S (bT ((cA P (eU ats)).isSome=true∧ats.size=1)) (some h)|_=>.bad:=nr rfl
theorem qWl (P:Program) (S:HS) (id:Nat) (args:Array Operand) (ats:Array TypeId):gS P S id (.call ⟨.builtin .append,args,ats⟩)=mW S id (ats == #[eU ats,eU ats]) (zFw P ats) (rD P (eU ats)) (lB S.env args.toList):=nr rfl
theorem qLr (P:Program) (S:HS) (id:Nat) (f:FuncId) (args:Array Operand) (ats:Array TypeId):gS P S id (.call ⟨.value (.func f),args,ats⟩)=qGo f (lB S.env args.toList):=nr rfl
theorem qWj (P:Program) (S:HS) (id:Nat) (t:TypeId) (x y:Operand) (u:TypeId):gS P S id (.binOp .eql t x y u)=hEq S (qGz P t) t false (hev S.env x) (hev S.env y):=nr rfl
theorem qWh (P:Program) (S:HS) (id:Nat) (t:TypeId) (x y:Operand) (u:TypeId):gS P S id (.binOp .neq t x y u)=hEq S (qGz P t) t true (hev S.env x) (hev S.env y):=nr rfl
theorem qQ8 (P:Program) (S:HS) (id:Nat) (s d:TypeId) (x:Operand):gS P S id (.convert s d x)=qX S (qBj P s d) (qNi P s d) (hev S.env x):=nr rfl
theorem qWq (S:HS) (h:HV):uY S (some h)=.go True h S:=nr rfl
theorem qWn (S:HS) (t:Bool) (a b:HV):qDj S (some (.v (.bool t))) (some a) (some b)=.go True (bif t then a else b) S:=nr rfl
theorem qGl (S:HS) (i:Nat) (hs:List HV):kE S i (some (.tup hs))=match hs[i]? with|some h=>.go True h S|none=>.bad:=nr rfl
theorem qLm (P:Program) (S:HS) (id:Nat) (t:TypeId) (x i:Operand):gS P S id (.index t x i)=lK S (qSd P t) (hev S.env x) (hev S.env i):=nr rfl
theorem qDl (S:HS) (m q:Nat) (hs:List HV) (k:IntKind) (n:Int):lK S (some (m,some q)) (some (.agg hs)) (some (.v (.int k n)))=.go (bT (0≤n∧n < m)) (.agg ((hs.drop (n.toNat * q)).take q)) S:=nr rfl
theorem qGk (S:HS) (m:Nat) (hs:List HV) (k:IntKind) (n:Int):lK S (some (m,none)) (some (.agg hs)) (some (.v (.int k n)))=match hs[n.toNat]? with|some h=>.go (bT (0≤n∧n < m)) h S|none=>.bad:=nr rfl
theorem qMu (S:HS) (off:Nat) (hs:List HV):rH S (some (off,none)) (some (.agg hs))=match hs[off]? with|some h=>.go True h S|none=>.bad:=nr rfl
theorem qMt (S:HS) (off n:Nat) (hs:List HV):rH S (some (off,some n)) (some (.agg hs))=.go (bT (off + n≤hs.length)) (.agg ((hs.drop off).take n)) S:=nr rfl
theorem qMv (S:HS) (off id sz i k:Nat):rJ S (some off) (some (.ptr id sz i k))=.go True (.ptr id sz i (k + off)) S:=nr rfl
theorem qMw (S:HS) (off:Nat) (fr:Bool) (xs:List (List FV)) (sz i k:Nat):rJ S (some off) (some (.elt fr xs sz i k))=.go True (.elt fr xs sz i (k + off)) S:=nr rfl
theorem qWo (S:HS) (id sz i k:Nat):qNw S (some (.ptr id sz i k))=.go True (.ptr id sz i k) S:=nr rfl
theorem qWp (S:HS) (fr:Bool) (xs:List (List FV)) (sz i k:Nat):qNw S (some (.elt fr xs sz i k))=.go True (.elt fr xs sz i k) S:=nr rfl
theorem qMk (S:HS) (id:Nat) (us ua:Option (Nat × Nat)) (kk:IntKind) (n:Int):lC S us ua (some (.own id)) (some (.v (.int kk n)))=mV S id n us (rlk S.st id):=nr rfl
theorem qMl (S:HS) (fr:Bool) (xs:List (List FV)) (us ua:Option (Nat × Nat)) (kk:IntKind) (n:Int):lC S us ua (some (.lst fr xs)) (some (.v (.int kk n)))=qV S fr xs n us:=nr rfl
theorem qMj (S:HS) (id sz i k:Nat) (us ua:Option (Nat × Nat)) (kk:IntKind) (n:Int):lC S us ua (some (.ptr id sz i k)) (some (.v (.int kk n)))=qU S id sz i k n ua:=nr rfl
theorem qMm (S:HS) (fr:Bool) (xs:List (List FV)) (sz i k:Nat) (us ua:Option (Nat × Nat)) (kk:IntKind) (n:Int):lC S us ua (some (.elt fr xs sz i k)) (some (.v (.int kk n)))=qW S fr xs sz i k n ua:=nr rfl
theorem qMp (S:HS) (id:Nat) (n:Int) (e sz:Nat) (nw:Bool) (ty s:Nat) (els:List (List FV)):mV S id n (some (e,sz)) (some (.sl nw ty s els))=.go (bT (sz=s∧0≤n∧n < els.length)) (.ptr id s n.toNat 0) S:=nr rfl
theorem qMr (S:HS) (fr:Bool) (xs:List (List FV)) (n:Int) (e sz:Nat):qV S fr xs n (some (e,sz))=.go (bT (0≤n∧n < xs.length)∧Wid sz xs) (.elt fr xs sz n.toNat 0) S:=nr rfl
theorem qMq (S:HS) (id sz i k:Nat) (n:Int) (len size:Nat):qU S id sz i k n (some (len,size))=.go (bT (0≤n∧n < len)) (.ptr id sz i (k + n.toNat * size)) S:=nr rfl
theorem qMs (S:HS) (fr:Bool) (xs:List (List FV)) (sz i k:Nat) (n:Int) (len size:Nat):qW S fr xs sz i k n (some (len,size))=.go (bT (0≤n∧n < len)) (.elt fr xs sz i (k + n.toNat * size)) S:=nr rfl
theorem zB5 (S:HS) (c:Prop) (i s o n:Nat):qMi S c (some (.vw i s o n))=.go c (.v (.int .i64 n)) S:=nr rfl
theorem qL7 (S:HS) (us:Option (Nat × Nat)) (l h:Option Operand) (id:Nat):pD S us l h (some (.own id))=qQ S id (iS (lo S.env) l 0) (iS (lo S.env) h (zMi (rlk S.st id))) us (rlk S.st id):=nr rfl
theorem qRd (S:HS) (us:Option (Nat × Nat)) (l h:Option Operand) (id sz off n:Nat):pD S us l h (some (.vw id sz off n))=qP S id sz off (iS (lo S.env) l 0) (iS (lo S.env) h n) us (rlk S.st id):=nr rfl
theorem qL9 (S:HS) (id:Nat) (a b:Int) (e sz:Nat) (nw:Bool) (ty s:Nat) (els:List (List FV)):qQ S id (some a) (some b) (some (e,sz)) (some (.sl nw ty s els))=.go (bT (sz=s∧0≤a∧a≤b∧b≤els.length)) (.vw id s a.toNat (b.toNat - a.toNat)) S:=nr rfl
theorem qL8 (S:HS) (id sz off:Nat) (a b:Int) (e sz':Nat) (nw:Bool) (ty s:Nat) (els:List (List FV)):qP S id sz off (some a) (some b) (some (e,sz')) (some (.sl nw ty s els))=.go (bT (sz'=sz∧s=sz∧0≤a∧a≤b∧off + b≤els.length)) (.vw id sz (off + a.toNat) (b.toNat - a.toNat)) S:=nr rfl
theorem zAj (nw:Bool) (ty s:Nat) (els:List (List FV)):zMi (some (.sl nw ty s els))=els.length:=nr rfl
theorem qRk (S:HS) (id s off m:Nat) (us ua:Option (Nat × Nat)) (kk:IntKind) (n:Int):lC S us ua (some (.vw id s off m)) (some (.v (.int kk n)))=qT S id s off m n us (rlk S.st id):=nr rfl
theorem qMn (S:HS) (id s off m:Nat) (n:Int) (e sz:Nat) (nw:Bool) (ty s':Nat) (els:List (List FV)):qT S id s off m n (some (e,sz)) (some (.sl nw ty s' els))=.go (bT (sz=s∧s'=s∧0≤n∧n < m)) (.ptr id s (off + n.toNat) 0) S:=nr rfl
theorem qP4 (st:aF) (sz id s off n:Nat):iT st sz (.vw id s off n)=match rlk st id with|some (.sl _ _ s' els)=>some (bT (s=sz∧s'=sz),(els.drop off).take n)|_=>none:=nr rfl
theorem qQ9 (i s o n:Nat):dC (.vw i s o n)=some [.vw i s o n]:=nr rfl
theorem zBv (i s o n:Nat):(HV.vw i s o n).one=true:=nr rfl
theorem wY (p:Nat→Bool) (i s o n:Nat):HV.kill p (.vw i s o n)=bif p i then .junk else .vw i s o n:=by rw [HV.kill]
theorem zBs (m:Nat→Option Nat) (i s o n:Nat):HV.ren m (.vw i s o n)=match m i with|some j=>.vw j s o n|none=>.junk:=by rw [HV.ren];cases m i <;> rfl
theorem qC8 (id:Nat) (x0:HV) (i s o n:Nat):HV.sub id x0 (.vw i s o n)=if i=id then zFj x0 s o n else .vw i s o n:=by rw [HV.sub]
theorem qPx (i s o n:Nat):uH (.vw i s o n)=[]:=nr rfl
theorem qJ7 (i s o n:Nat):yY (.vw i s o n)=[]:=nr rfl
theorem qWs (S:HS) (c:Prop) (id:Nat):qMi S c (some (.own id))=qDk S c (rlk S.st id):=nr rfl
theorem qWt (S:HS) (c:Prop) (fr:Bool) (xs:List (List FV)):qMi S c (some (.lst fr xs))=.go c (.v (.int .i64 xs.length)) S:=nr rfl
theorem qWu (S:HS) (c:Prop) (nw:Bool) (ty s:Nat) (els:List (List HV)):qDk S c (some (.hl nw ty s els))=.go c (.v (.int .i64 els.length)) S:=nr rfl
theorem qMo (S:HS) (id:Nat) (n:Int) (e sz:Nat) (nw:Bool) (ty s:Nat) (els:List (List HV)):mV S id n (some (e,sz)) (some (.hl nw ty s els))=.go (bT (sz=s∧0≤n∧n < els.length)) (.ptr id s n.toNat 0) S:=nr rfl
theorem qWv (S:HS) (c:Prop) (nw:Bool) (ty s:Nat) (els:List (List FV)):qDk S c (some (.sl nw ty s els))=.go c (.v (.int .i64 els.length)) S:=nr rfl
theorem qRe (S:HS) (us:Option (Nat × Nat)) (l h:Option Operand) (fr:Bool) (xs:List (List FV)):pD S us l h (some (.lst fr xs))=qR S fr xs (iS (lo S.env) l 0) (iS (lo S.env) h xs.length) us:=nr rfl
theorem qMa (S:HS) (fr:Bool) (xs:List (List FV)) (a b:Int) (e sz:Nat):qR S fr xs (some a) (some b) (some (e,sz))=.go (bT (0≤a∧a≤b∧b≤xs.length)∧Wid sz xs) (.lst fr ((xs.take b.toNat).drop a.toNat)) S:=nr rfl
theorem qRf (S:HS) (kt:Option (Option Nat)) (id sz i k:Nat):qS S kt (some (.ptr id sz i k))=kD S sz i k kt (rlk S.st id):=nr rfl
theorem qRg (S:HS) (kt:Option (Option Nat)) (fr:Bool) (xs:List (List FV)) (sz i k:Nat):qS S kt (some (.elt fr xs sz i k))=rG S xs i k kt:=nr rfl
theorem qRh (S:HS) (sz i k:Nat) (nw:Bool) (ty s:Nat) (els:List (List FV)):kD S sz i k (some none) (some (.sl nw ty s els))=.go (bT (sz=s∧i < els.length∧k < (els.getD i []).length)) ((els.getD i []).getD k default).h S:=nr rfl
theorem qMd (S:HS) (sz i k n:Nat) (nw:Bool) (ty s:Nat) (els:List (List FV)):kD S sz i k (some (some n)) (some (.sl nw ty s els))=.go (bT (sz=s∧i < els.length∧k + n≤(els.getD i []).length)) (.agg ((((els.getD i []).drop k).take n).map FV.h)) S:=nr rfl
theorem qRj (S:HS) (sz i k:Nat) (nw:Bool) (ty:Nat) (cells:List HV):kD S sz i k (some none) (some (.bx nw ty cells))=.go (bT (i=0∧k < cells.length)) (cells.getD k .junk) S:=nr rfl
theorem qMf (S:HS) (sz i k n:Nat) (nw:Bool) (ty:Nat) (cells:List HV):kD S sz i k (some (some n)) (some (.bx nw ty cells))=.go (bT (i=0∧k + n≤cells.length)) (.agg ((cells.drop k).take n)) S:=nr rfl
theorem qRi (S:HS) (sz i k:Nat) (nw:Bool) (ty s:Nat) (els:List (List HV)):kD S sz i k (some none) (some (.hl nw ty s els))=.go (bT (sz=s∧i < els.length∧k < (els.getD i []).length)) ((els.getD i []).getD k .junk) S:=nr rfl
theorem qMe (S:HS) (sz i k n:Nat) (nw:Bool) (ty s:Nat) (els:List (List HV)):kD S sz i k (some (some n)) (some (.hl nw ty s els))=.go (bT (sz=s∧i < els.length∧k + n≤(els.getD i []).length)) (.agg (((els.getD i []).drop k).take n)) S:=nr rfl
theorem qL5 (S:HS) (id sz i k:Nat) (kt:Option (Option Nat)) (h:HV) (nw:Bool) (ty s:Nat) (els:List (List HV)):mU S id sz i k kt h (some (.hl nw ty s els))=qM S id sz i k nw ty s els kt h:=nr rfl
theorem qGf (S:HS) (id sz i k:Nat) (nw:Bool) (ty s:Nat) (els:List (List HV)) (h:HV):qM S id sz i k nw ty s els (some none) h=.go (bT (sz=s∧i < els.length∧k < (els.getD i []).length∧h.one=true)) (.v undef) ⟨S.env,jM id (.hl nw ty s (els.set i ((els.getD i []).set k h))) S.st⟩:=nr (by cases h <;> rfl)
theorem qGg (S:HS) (id sz i k n:Nat) (nw:Bool) (ty s:Nat) (els:List (List HV)) (hs:List HV):qM S id sz i k nw ty s els (some (some n)) (.agg hs)=.go (bT (sz=s∧i < els.length∧hs.length=n∧k + n≤(els.getD i []).length)) (.v undef) ⟨S.env,jM id (.hl nw ty s (els.set i (splice (els.getD i []) k hs))) S.st⟩:=nr rfl
theorem qMg (S:HS) (xs:List (List FV)) (i k:Nat):rG S xs i k (some none)=.go (bT (i < xs.length∧k < (xs.getD i []).length)) ((xs.getD i []).getD k default).h S:=nr rfl
theorem qMh (S:HS) (xs:List (List FV)) (i k n:Nat):rG S xs i k (some (some n))=.go (bT (i < xs.length∧k + n≤(xs.getD i []).length)) (.agg ((((xs.getD i []).drop k).take n).map FV.h)) S:=nr rfl
theorem qRc (S:HS) (kt:Option (Option Nat)) (id sz i k:Nat) (h:HV):xA S kt (some (.ptr id sz i k)) (some h)=mU S id sz i k kt h (rlk S.st id):=nr rfl
theorem qL4 (S:HS) (id sz i k:Nat) (kt:Option (Option Nat)) (h:HV) (nw:Bool) (ty s:Nat) (els:List (List FV)):mU S id sz i k kt h (some (.sl nw ty s els))=qL S id sz i k nw ty s els kt h:=nr rfl
theorem qL6 (S:HS) (id sz i k:Nat) (kt:Option (Option Nat)) (h:HV) (nw:Bool) (ty:Nat) (cells:List HV):mU S id sz i k kt h (some (.bx nw ty cells))=qN S id i k nw ty cells kt h:=nr rfl
theorem qGd (S:HS) (id sz i k:Nat) (nw:Bool) (ty s:Nat) (els:List (List FV)) (h:HV):qL S id sz i k nw ty s els (some none) h=match h.f with|some f=>.go (bT (sz=s∧i < els.length∧k < (els.getD i []).length∧f.one=true)) (.v undef) ⟨S.env,jM id (.sl nw ty s (els.set i ((els.getD i []).set k f))) S.st⟩|none=>.bad:=nr rfl
theorem qGe (S:HS) (id sz i k n:Nat) (nw:Bool) (ty s:Nat) (els:List (List FV)) (hs:List HV):qL S id sz i k nw ty s els (some (some n)) (.agg hs)=match HV.fs hs with|some fs=>.go (bT (sz=s∧i < els.length∧fs.length=n∧k + n≤(els.getD i []).length)) (.v undef) ⟨S.env,jM id (.sl nw ty s (els.set i (splice (els.getD i []) k fs))) S.st⟩|none=>.bad:=nr rfl
theorem qGh (S:HS) (id i k:Nat) (nw:Bool) (ty:Nat) (cells:List HV) (h:HV):qN S id i k nw ty cells (some none) h=.go (bT (i=0∧k < cells.length∧h.one=true)) (.v undef) ⟨S.env,jM id (.bx nw ty (cells.set k h)) S.st⟩:=nr (by cases h <;> rfl)
theorem qGi (S:HS) (id i k n:Nat) (nw:Bool) (ty:Nat) (cells:List HV) (hs:List HV):qN S id i k nw ty cells (some (some n)) (.agg hs)=.go (bT (i=0∧hs.length=n∧k + n≤cells.length)) (.v undef) ⟨S.env,jM id (.bx nw ty (splice cells k hs)) S.st⟩:=nr rfl
theorem qRt (S:HS) (id:Nat) (t:TypeId) (z:Array Value):xC S id t (some z)=.go (bT (rE z=true)) (.ptr id z.size 0 0) ((S.kill (only id)).row id (.bx true t (z.toList.map .v))):=nr rfl
theorem zCc (S:HS) (id:Nat) (t:TypeId) (h:HV):qW0 S id t (some h)=qM2 S id t (dC h):=nr rfl
theorem qWz (S:HS) (id:Nat) (t:TypeId) (cs:List HV):qM2 S id t (some cs)=.go True (.ptr id cs.length 0 0) ((S.kill (only id)).row id (.bx true t (cs.map (HV.kill (only id))))):=nr rfl
theorem qJ0 (l:bL):iR l []=some []:=nr rfl
theorem qF1 (l:bL) (i:Nat) (x:Operand) (r:List (Nat × Operand)):iR l ((i,x) :: r)=match hev l x with|some v=>(match iR l r with|some vs=>some ((i,v) :: vs)|none=>none)|none=>none:=nr rfl
theorem qQ0 (cL:Nat→Option (Nat × Nat)) (cells:List HV):qDf cL cells []=some (True,cells):=nr rfl
theorem qLh (cL:Nat→Option (Nat × Nat)) (cells:List HV) (i:Nat) (h:HV) (r:List (Nat × HV)):qDf cL cells ((i,h) :: r)=match cL i with|some (off,n)=>(match dC h with|some cs=>(match qDf cL (splice cells off cs) r with|some (c,out)=>some (bT (cs.length=n∧off + n≤cells.length)∧c,out)|none=>none)|none=>none)|none=>none:=nr rfl
theorem qRs (S:HS) (ok:Bool) (cL:Nat→Option (Nat × Nat)) (z:Array Value) (ps:List (Nat × HV)):uN S ok cL (some z) (some ps)=qZ S (ok && rE z) (qDf cL (z.toList.map .v) ps):=nr rfl
theorem qM1 (S:HS) (ok:Bool) (c:Prop) (cs:List HV):qZ S ok (some (c,cs))=.go (bT (ok=true)∧c) (.agg cs) S:=nr rfl
theorem qWa (sz:Nat) (els:List (List FV)):qTk sz els []=some (True,els):=nr rfl
theorem qQv (sz:Nat) (els:List (List FV)) (i:Nat) (h:HV) (r:List (Nat × HV)):qTk sz els ((i,h) :: r)=match dC h with|some cs=>(match HV.fs cs with|some fs=>(match qTk sz (els.set i fs) r with|some (c,out)=>some (bT (fs.length=sz∧i < els.length)∧c,out)|none=>none)|none=>none)|none=>none:=nr rfl
theorem qMy (S:HS) (id n e sz by':Nat) (z:Array Value) (ps:List (Nat × HV)):qY S id n (some (e,sz,by',z)) (some ps)=match rE z && z.size == sz with|true=>mJ S id e sz n z ps (qX2 ps)|false=>.bad:=nr rfl
theorem qX1  : qX2 []=true:=nr rfl
theorem qSc (i:Nat) (h:HV) (r:List (Nat × HV)):qX2 ((i,h) :: r)=match dC h with|some cs=>((HV.fs cs).isSome && qX2 r)|none=>qX2 r:=nr rfl
theorem qQw (sz:Nat) (els:List (List HV)):qDc sz els []=some (True,els):=nr rfl
theorem qLg (sz:Nat) (els:List (List HV)) (i:Nat) (h:HV) (r:List (Nat × HV)):qDc sz els ((i,h) :: r)=match dC h with|some cs=>(match qDc sz (els.set i cs) r with|some (c,out)=>some (bT (cs.length=sz∧i < els.length)∧c,out)|none=>none)|none=>none:=nr rfl
theorem zH8 (id:Nat) (els:List (List HV)):hkl id els=els.map (List.map (HV.kill (only id))):=nr rfl
theorem qMz (S:HS) (id e sz n:Nat) (z:Array Value) (ps:List (Nat × HV)):mJ S id e sz n z ps true=pH S id e sz n (qTk sz (List.replicate n (z.toList.map .v)) ps):=nr rfl
theorem qM0 (S:HS) (id e sz n:Nat) (z:Array Value) (ps:List (Nat × HV)):mJ S id e sz n z ps false=pG S id e sz n (qDc sz (List.replicate n (z.toList.map .v)) ps):=nr rfl
theorem qGp (S:HS) (id e sz n:Nat) (c:Prop) (els:List (List HV)):pG S id e sz n (some (c,els))=.go (bT (n * sz≤16777216∧n≤16777216)∧c) (.own id) ((S.kill (only id)).row id (.hl true e sz (hkl id els))):=nr rfl
theorem qGq (S:HS) (id e sz n:Nat) (c:Prop) (els:List (List FV)):pH S id e sz n (some (c,els))=.go (bT (n * sz≤16777216∧n≤16777216)∧c) (.own id) ((S.kill (only id)).row id (.sl true e sz els)):=nr rfl
theorem qWr (S:HS) (id e sz by':Nat) (z:Array Value) (n m:Int):qGj S id (some (e,sz,by',z)) (some (.v (.int .i64 n))) (some (.v (.int .i64 m)))=match rE z && z.size == sz with|true=>.go (bT (n=m∧0≤n∧by' * n.toNat≤281474976710656∧n.toNat≤maxLen)) (.own id) ((S.kill (only id)).row id (.sl true e sz (List.replicate n.toNat (z.toList.map .v))))|false=>.bad:=nr rfl
theorem qKd (st:aF) (sz id:Nat):iT st sz (.own id)=match rlk st id with|some (.sl _ _ s els)=>some (bT (s=sz),els)|_=>none:=nr rfl
theorem qKf (st:aF) (sz:Nat) (fr:Bool) (xs:List (List FV)):iT st sz (.lst fr xs)=some (Wid sz xs,xs):=nr rfl
theorem qKe (st:aF) (sz:Nat):iT st sz (.v (.slice none 0 0))=some (True,[]):=nr rfl
theorem qLq (P:Program) (S:HS) (id:Nat) (t:Nat) (args:Array Operand) (ats:Array TypeId):gS P S id (.call ⟨.value (.tmp t),args,ats⟩)=qBf (fnH (hlk S.env t)) (lB S.env args.toList):=nr rfl
theorem zPs (f:FuncId):fnH (some (.v (.func (.func f) #[] #[])))=some f:=nr rfl
theorem qGn (f:FuncId) (a:Option (List HV)):qBf (some f) a=qGo f a:=nr rfl
theorem qQ7 (P:Program) (S:HS) (id:Nat) (args:Array Operand) (ats:Array TypeId):gS P S id (.call ⟨.builtin .copy,args,ats⟩)=qAx S (ats == #[eU ats,eU ats]) (cA P (eU ats)) (lB S.env args.toList):=nr rfl
theorem qRl (S:HS) (us:Option (Nat × Nat)) (id:Nat) (x:HV):qAx S true us (some [.own id,x])=pE S id 0 none none x us (rlk S.st id):=nr rfl
theorem qWx (S:HS) (us:Option (Nat × Nat)) (id s off n:Nat) (x:HV):qAx S true us (some [.vw id s off n,x])=pE S id off (some s) (some n) x us (rlk S.st id):=nr rfl
theorem qMx (S:HS) (id off:Nat) (x:HV) (e sz:Nat) (nw:Bool) (ty s:Nat) (els:List (List FV)):pE S id off none none x (some (e,sz)) (some (.sl nw ty s els))=match decide (sz=s) with|true=>xB S id s off els.length (s=s) nw ty els (iT S.st s x)|false=>.bad:=nr rfl
theorem qRm (S:HS) (id off s0 n:Nat) (x:HV) (e sz:Nat) (nw:Bool) (ty s:Nat) (els:List (List FV)):pE S id off (some s0) (some n) x (some (e,sz)) (some (.sl nw ty s els))=match decide (sz=s) with|true=>xB S id s off n (s0=s) nw ty els (iT S.st s x)|false=>.bad:=nr rfl
def cpy (els:List (List FV)) (off:Nat) (news:List (List FV)) (n:Nat):List (List FV):=splice els off (news.take n)
def cpn (news:List (List FV)) (n:Nat):Nat:=min news.length n
theorem qGm (S:HS) (id sz off n:Nat) (ok:Prop) (nw:Bool) (ty:Nat) (els:List (List FV)) (c:Prop) (news:List (List FV)):xB S id sz off n ok nw ty els (some (c,news))=.go (c∧bT (off + n≤els.length∧0 < sz∧ok)) (.v (.int .i64 (cpn news n:Nat))) ⟨S.env,jM id (.sl nw ty sz (cpy els off news n)) S.st⟩:=nr rfl
theorem qGr (S:HS) (nid:Nat) (same str:Bool) (e sz by':Nat) (z:Array Value) (id:Nat) (x:HV):mW S nid same str (some (e,sz,by',z)) (some [.own id,x])=match (same || str) && z.size == sz with|true=>qGt S id e sz by' same x (qVb same str S.st sz x) (rlk S.st id)|false=>.bad:=nr rfl
theorem qP5 (st:aF) (sz id:Nat):qKg st sz (.own id)=match rlk st id with|some (.sl _ _ s els)=>some (bT (s=sz),els.map (List.map FV.h))|some (.hl _ _ s els)=>some (bT (s=sz),els)|_=>none:=nr rfl
theorem qP7 (st:aF) (sz:Nat) (fr:Bool) (xs:List (List FV)):qKg st sz (.lst fr xs)=some (Wid sz xs,xs.map (List.map FV.h)):=nr rfl
theorem qP6 (st:aF) (sz:Nat):qKg st sz (.v (.slice none 0 0))=some (True,[]):=nr rfl
theorem zCz (a b c d:Nat):(#[a,b] == #[c,d])=(a == c && b == d):=by rw [Bool.eq_iff_iff];simp
theorem zA7 (str:Bool) (st:aF) (sz:Nat) (x:HV):qVb true str st sz x=iT st sz x:=nr rfl
theorem zA8 (st:aF) (sz:Nat) (x:HV):qVb false true st sz x=zA6 x:=nr rfl
theorem qP3 (s:ByteArray):zA6 (.v (.string s))=some (True,jK s):=nr rfl
theorem qGs (S:HS) (nid:Nat) (same str:Bool) (e sz by':Nat) (z:Array Value) (x:HV):mW S nid same str (some (e,sz,by',z)) (some [.v (.slice none 0 0),x])=match same && z.size == sz with|true=>qAy S nid e sz by' true [] (iT S.st sz x)|false=>.bad:=nr rfl
theorem qW1 (S:HS) (id e sz by':Nat) (same:Bool) (x:HV) (news:Option (Prop × List (List FV))) (nw:Bool) (ty s:Nat) (els:List (List HV)):qGt S id e sz by' same x news (some (.hl nw ty s els))=match same && (decide (ty=e) && decide (s=sz)) with|true=>qM3 S id e sz by' nw els (qKg S.st sz x)|false=>.bad:=nr rfl
theorem qW4 (S:HS) (id e sz by':Nat) (nw:Bool) (els news:List (List HV)) (c:Prop):qM3 S id e sz by' nw els (some (c,news))=.go (c∧bT ((els.length + news.length) * by'≤140737488355328∧0 < by'∧0 < sz)) (.own id) ((S.kill (only id)).row id (.hl nw e sz (hkl id (els ++ news)))):=nr rfl
theorem qW2 (S:HS) (id e sz by':Nat) (same:Bool) (x:HV) (news:Option (Prop × List (List FV))) (nw:Bool) (ty s:Nat) (els:List (List FV)):qGt S id e sz by' same x news (some (.sl nw ty s els))=match decide (ty=e) && decide (s=sz) with|true=>qAy S id e sz by' nw els news|false=>.bad:=nr rfl
theorem qW3 (S:HS) (id e sz by':Nat) (nw:Bool) (els:List (List FV)) (c:Prop) (news:List (List FV)):qAy S id e sz by' nw els (some (c,news))=.go (c∧bT ((els.length + news.length) * by'≤140737488355328∧0 < by'∧0 < sz)) (.own id) ((S.kill (only id)).row id (.sl nw e sz (els ++ news))):=nr rfl
theorem qQb  : sM []=some []:=nr rfl
theorem qKs (x:Value) (r:List HV):sM (.v x :: r)=match sM r with|some vs=>some (x :: vs)|none=>none:=nr rfl
theorem zJi (S:HS) (up:Bool) (t:TypeId) (neg:Bool) (xs ys:List HV):hEq S up t neg (some (.agg xs)) (some (.agg ys))=qTm t neg (sM xs) (sM ys):=nr rfl
theorem zB9 (S:HS) (up:Bool) (t:TypeId) (neg:Bool) (a b c d:Nat):hEq S up t neg (some (.ptr a b c d)) (some (.v (.pointer none)))=.go (bT (up=true)) (.v (.bool neg)) S:=nr rfl
theorem zCa (S:HS) (up:Bool) (t:TypeId) (neg fr:Bool) (xs:List (List FV)) (a b c:Nat):hEq S up t neg (some (.elt fr xs a b c)) (some (.v (.pointer none)))=.go (bT (up=true)) (.v (.bool neg)) S:=nr rfl
theorem qRn (S:HS) (ok okB:Bool) (s:ByteArray):qX S ok okB (some (.v (.string s)))=.bytes okB s:=nr rfl
theorem qRo (S:HS) (ok okB:Bool) (id:Nat):qX S ok okB (some (.own id))=qBe S ok (rlk S.st id):=nr rfl
theorem qRp (S:HS) (ok okB fr:Bool) (xs:List (List FV)):qX S ok okB (some (.lst fr xs))=pF S ok (pR xs):=nr rfl
theorem qRq (S:HS) (ok nw:Bool) (t s:Nat) (els:List (List FV)):qBe S ok (some (.sl nw t s els))=pF S ok (pR els):=nr rfl
theorem qRr (S:HS) (ok:Bool) (ns:List Int):pF S ok (some ns)=.go (bT (ok=true)) (.v (.string (strOfNums ns))) S:=nr rfl
theorem qNm  : pR []=some []:=nr rfl
theorem qGv (n:Int) (r:List (List FV)):pR ([.v (.int .u8 n)] :: r)=match pR r with|some ns=>some (n :: ns)|none=>none:=nr rfl
theorem zCb (t:TypeId) (neg:Bool) (xs ys:List Value):qTm t neg (some xs) (some ys)=.eqn t xs ys neg:=nr rfl
theorem qWy (f:FuncId) (hs:List HV):qGo f (some hs)=.call f hs:=nr rfl
theorem zCy (ats:Array TypeId):eU ats=ats.getD 0 0:=nr rfl
theorem qP0 (z:Array Value):rE z=z.toList.all (fun v=>v.oneCell'):=nr rfl
theorem zS6 (x:Value):(HV.v x).f=some (.v x):=nr rfl
theorem zJe (i:Nat):(HV.own i).f=none:=nr rfl
theorem zPq (i s o n:Nat):(HV.vw i s o n).f=none:=nr rfl
theorem zJd (i s j k:Nat):(HV.ptr i s j k).f=none:=nr rfl
theorem zJf (fr:Bool) (xs:List (List FV)):(HV.lst fr xs).f=some (.lst fr xs):=nr rfl
theorem zB2  : HV.fs []=some []:=nr rfl
theorem qWe (h:HV) (r:List HV):HV.fs (h :: r)=match h.f,HV.fs r with|some f,some fs=>some (f :: fs)|_,_=>none:=nr rfl
theorem zJp (x:Value):(FV.v x).one=x.oneCell':=nr rfl
theorem qW5 (fr:Bool) (xs:List (List FV)):(FV.lst fr xs).one=true:=nr rfl
theorem zH5 (x:Value):(HV.v x).one=x.oneCell':=nr rfl
theorem qV5 (fr:Bool) (xs:List (List FV)):(HV.lst fr xs).one=true:=nr rfl
theorem qV3 (i:Nat):(HV.own i).one=true:=nr rfl
theorem qV2 (i s j k:Nat):(HV.ptr i s j k).one=true:=nr rfl
theorem zS8 (x:Value):(FV.v x).h=.v x:=nr rfl
theorem zKx (fr:Bool) (xs:List (List FV)):(FV.lst fr xs).h=.lst fr xs:=nr rfl
theorem zA3 (k:IntKind) (n:Int):Value.oneCell' (.int k n)=true:=nr rfl
theorem qLx (k:IntKind) (n:Int):dC (.v (.int k n))=some [.v (.int k n)]:=nr rfl
theorem qU8 (b:Bool):Value.oneCell' (.bool b)=true:=nr rfl
theorem qGc (b:Bool):dC (.v (.bool b))=some [.v (.bool b)]:=nr rfl
theorem zA0 (s:ByteArray):Value.oneCell' (.string s)=true:=nr rfl
theorem qLv (s:ByteArray):dC (.v (.string s))=some [.v (.string s)]:=nr rfl
theorem qPz (a:Option Addr) (n c:Nat):Value.oneCell' (.slice a n c)=true:=nr rfl
theorem qDh (a:Option Addr) (n c:Nat):dC (.v (.slice a n c))=some [.v (.slice a n c)]:=nr rfl
theorem zA1 (a:Option Addr):Value.oneCell' (.pointer a)=true:=nr rfl
theorem qLw (a:Option Addr):dC (.v (.pointer a))=some [.v (.pointer a)]:=nr rfl
theorem qL2 (cs:List HV):dC (.agg cs)=some cs:=nr rfl
theorem qL1 (fr:Bool) (xs:List (List FV)):dC (.lst fr xs)=some [.lst fr xs]:=nr rfl
theorem qLz (i:Nat):dC (.own i)=some [.own i]:=nr rfl
theorem qLy (i s j k:Nat):dC (.ptr i s j k)=some [.ptr i s j k]:=nr rfl
theorem qN9 {α:Type} (l:List α) (k:Nat) (cs:List α):splice l k cs=l.take k ++ cs ++ l.drop (k + cs.length):=nr rfl
theorem qCz (e:bL) (s:aF) (p:Nat→Bool):HS.kill ⟨e,s⟩ p=⟨rA p e,gN p s⟩:=nr rfl
theorem qJe (e:bL) (s:aF) (id:Nat) (r:Row):HS.row ⟨e,s⟩ id r=⟨e,(id,r) :: s⟩:=nr rfl
theorem qUi (e:bL) (s:aF) (k:Nat) (h:HV):HS.set ⟨e,s⟩ (some k) h=⟨(k,h) :: e,s⟩:=nr rfl
theorem qUj (S:HS) (h:HV):HS.set S none h=S:=nr rfl
theorem qJh (e:bL) (s:aF) (d:Nat) (h:HV):HS.rep ⟨e,s⟩ d h=⟨uM d h e,s⟩:=nr rfl
theorem wX (d:Nat) (h:HV):uM d h []=[]:=nr rfl
theorem sZ (d:Nat) (h:HV) (k:Nat) (x:HV) (r:bL):uM d h ((k,x) :: r)=if k=d then (k,h) :: r else (k,x) :: uM d h r:=nr rfl
theorem tP (p:Nat→Bool):rA p []=[]:=nr rfl
theorem pK (p:Nat→Bool) (k:Nat) (h:HV) (r:bL):rA p ((k,h) :: r)=(k,h.kill p) :: rA p r:=nr rfl
theorem rP (p:Nat→Bool):gN p []=[]:=nr rfl
theorem nS (p:Nat→Bool) (k:Nat) (h:Row) (r:aF):gN p ((k,h) :: r)=bif p k then gN p r else (k,h.kill p) :: gN p r:=nr rfl
theorem vQ (p:Nat→Bool) (nw:Bool) (t s:Nat) (xs:List (List FV)):(Row.sl nw t s xs).kill p=.sl nw t s xs:=nr rfl
theorem vR (p:Nat→Bool) (nw:Bool) (t s:Nat) (xs:List (List HV)):(Row.hl nw t s xs).kill p=.hl nw t s (xs.map (List.map (HV.kill p))):=nr rfl
theorem vS (p:Nat→Bool) (nw:Bool) (t:Nat) (cs:List HV):(Row.bx nw t cs).kill p=.bx nw t (cs.map (HV.kill p)):=nr rfl
theorem qDd (p:Nat→Bool) (x:Value):HV.kill p (.v x)=.v x:=by rw [HV.kill]
theorem qZj (m:Nat→Option Nat) (x:Value):HV.ren m (.v x)=.v x:=by rw [HV.ren]
theorem qKv (id:Nat) (x0:HV) (x:Value):HV.sub id x0 (.v x)=.v x:=by rw [HV.sub]
theorem tD (p:Nat→Bool) (fr:Bool) (xs:List (List FV)):HV.kill p (.lst fr xs)=.lst fr xs:=by rw [HV.kill]
theorem qK3 (m:Nat→Option Nat) (fr:Bool) (xs:List (List FV)):HV.ren m (.lst fr xs)=.lst fr xs:=by rw [HV.ren]
theorem wU (id:Nat) (x0:HV) (fr:Bool) (xs:List (List FV)):HV.sub id x0 (.lst fr xs)=.lst fr xs:=by rw [HV.sub]
theorem tE (p:Nat→Bool) (fr:Bool) (xs:List (List FV)) (s j k:Nat):HV.kill p (.elt fr xs s j k)=.elt fr xs s j k:=by rw [HV.kill]
theorem qVz (m:Nat→Option Nat) (fr:Bool) (xs:List (List FV)) (s j k:Nat):HV.ren m (.elt fr xs s j k)=.elt fr xs s j k:=by rw [HV.ren]
theorem wV (id:Nat) (x0:HV) (fr:Bool) (xs:List (List FV)) (s j k:Nat):HV.sub id x0 (.elt fr xs s j k)=.elt fr xs s j k:=by rw [HV.sub]
theorem pB (p:Nat→Bool):HV.kill p .junk=.junk:=by rw [HV.kill]
theorem qQn (m:Nat→Option Nat):HV.ren m .junk=.junk:=by rw [HV.ren]
theorem sY (id:Nat) (x0:HV):HV.sub id x0 .junk=.junk:=by rw [HV.sub]
theorem tC (p:Nat→Bool) (i:Nat):HV.kill p (.own i)=bif p i then .junk else .own i:=by rw [HV.kill]
theorem tB (p:Nat→Bool) (i s j k:Nat):HV.kill p (.ptr i s j k)=bif p i then .junk else .ptr i s j k:=by rw [HV.kill]
theorem tF (p:Nat→Bool) (cs:List HV):HV.kill p (.agg cs)=.agg (cs.map (HV.kill p)):=by rw [HV.kill]
theorem tA (p:Nat→Bool) (cs:List HV):HV.kill p (.tup cs)=.tup (cs.map (HV.kill p)):=by rw [HV.kill]
theorem qK2 (m:Nat→Option Nat) (i:Nat):HV.ren m (.own i)=match m i with|some j=>.own j|none=>.junk:=by rw [HV.ren];cases m i <;> rfl
theorem qVy (m:Nat→Option Nat) (i s j k:Nat):HV.ren m (.ptr i s j k)=match m i with|some i'=>.ptr i' s j k|none=>.junk:=by rw [HV.ren];cases m i <;> rfl
theorem qK4 (m:Nat→Option Nat) (cs:List HV):HV.ren m (.agg cs)=.agg (cs.map (HV.ren m)):=by rw [HV.ren]
theorem qK1 (m:Nat→Option Nat) (cs:List HV):HV.ren m (.tup cs)=.tup (cs.map (HV.ren m)):=by rw [HV.ren]
theorem wT (id:Nat) (x0:HV) (i:Nat):HV.sub id x0 (.own i)=if i=id then x0 else .own i:=by rw [HV.sub]
theorem wS (id:Nat) (x0:HV) (i s j k:Nat):HV.sub id x0 (.ptr i s j k)=if i=id then .junk else .ptr i s j k:=by rw [HV.sub]
theorem wW (id:Nat) (x0:HV) (cs:List HV):HV.sub id x0 (.agg cs)=.agg (cs.map (HV.sub id x0)):=by rw [HV.sub]
theorem wR (id:Nat) (x0:HV) (cs:List HV):HV.sub id x0 (.tup cs)=.tup (cs.map (HV.sub id x0)):=by rw [HV.sub]
theorem qSz (m:Nat→Option Nat) (nw:Bool) (t s:Nat) (xs:List (List FV)):(Row.sl nw t s xs).ren m=.sl nw t s xs:=nr rfl
theorem qS0 (m:Nat→Option Nat) (nw:Bool) (t s:Nat) (xs:List (List HV)):(Row.hl nw t s xs).ren m=.hl nw t s (xs.map (List.map (HV.ren m))):=nr rfl
theorem qS1 (m:Nat→Option Nat) (nw:Bool) (t:Nat) (cs:List HV):(Row.bx nw t cs).ren m=.bx nw t (cs.map (HV.ren m)):=nr rfl
theorem qB6 (id:Nat) (x0:HV) (nw:Bool) (t s:Nat) (xs:List (List FV)):(Row.sl nw t s xs).sub id x0=.sl nw t s xs:=nr rfl
theorem qB7 (id:Nat) (x0:HV) (nw:Bool) (t s:Nat) (xs:List (List HV)):(Row.hl nw t s xs).sub id x0=.hl nw t s (xs.map (List.map (HV.sub id x0))):=nr rfl
theorem qB8 (id:Nat) (x0:HV) (nw:Bool) (t:Nat) (cs:List HV):(Row.bx nw t cs).sub id x0=.bx nw t (cs.map (HV.sub id x0)):=nr rfl
theorem qCt (id i:Nat):only id i=(i == id):=nr rfl
theorem qXf (n i:Nat):cP n i=(decide (n≤i) && decide (i < n + 8)):=by rw [Bool.eq_iff_iff];simp [cP]
theorem zPa (n i:Nat):sh n i=bif decide (i < 8) then some (n + i) else none:=by unfold sh;congr 1;rw [Bool.eq_iff_iff];simp
theorem zC0 (e:bL) (s:aF) (n:Nat) (st:aF):HS.adds ⟨e,s⟩ n st=⟨rA (cP n) e,qCh n st (gN (cP n) s)⟩:=nr rfl
theorem qPl (n:Nat) (b:aF):qCh n [] b=b:=nr rfl
theorem qJk (n k:Nat) (r:Row) (t b:aF):qCh n ((k,r) :: t) b=(n + k,r.ren (sh n)) :: qCh n t b:=nr rfl
theorem qCd (e:bL) (s:aF) (id:Nat) (x:HV):HS.rest ⟨e,s⟩ id x=⟨qXe id x e,qHv id x s⟩:=nr rfl
theorem xJ (id:Nat) (x:HV):qXe id x []=[]:=nr rfl
theorem tK (id:Nat) (x:HV) (k:Nat) (h:HV) (r:bL):qXe id x ((k,h) :: r)=(k,HV.sub id x h) :: qXe id x r:=nr rfl
theorem vH (id:Nat) (x:HV):qHv id x []=[]:=nr rfl
theorem rM (id:Nat) (x:HV) (k:Nat) (h:Row) (r:aF):qHv id x ((k,h) :: r)=if k=id then qHv id x r else (k,h.sub id x) :: qHv id x r:=nr rfl
theorem qT7 (id:Nat) (r:Row):jM id r []=[]:=nr rfl
theorem qN8 (id:Nat) (r:Row) (k:Nat) (s:Row) (t:aF):jM id r ((k,s) :: t)=if k=id then (k,r) :: t else (k,s) :: jM id r t:=nr rfl
theorem zB8 (l:bL) (ds:List (Option Nat)):hG l ds none=.yes:=nr rfl
theorem zB7 (l:bL) (ds:List (Option Nat)) (j:Nat) (want:Bool):hG l ds (some (j,want))=match ds[j]? with|some (some d)=>hGv d want (hlk l d)|_=>.bad:=nr rfl
theorem qWw (d:Nat) (want b:Bool):hGv d want (some (.v (.bool b)))=.ask d b want:=nr rfl
theorem zB6 (d:Nat) (want:Bool) (vs:Array Value):hGv d want (some (.v (.tuple vs)))=.no:=nr rfl
theorem zH9 (P:Program) (d:Option Nat) (S:HS) (K:HS→Prop) (c:Prop) (h:HV) (S':HS):qFa P d S K (.go c h S')=(c∧K (S'.set d h)):=nr rfl
theorem qWd (P:Program) (d:Option Nat) (S:HS) (K:HS→Prop) (f:FuncId) (args:List HV):qFa P d S K (.call f args)=HAt P f args S (fun h S'=>mM K (S'.set d h)):=nr rfl
theorem zB0 (P:Program) (d:Option Nat) (S:HS) (K:HS→Prop) (t:TypeId) (x y:List Value) (neg:Bool):qFa P d S K (.eqn t x y neg)=∃ r,EqR P t x.toArray y.toArray r∧mM K (S.set d (.v (.bool (neg ^^ r)))):=nr rfl
theorem qQz (P:Program) (d:Option Nat) (S:HS) (K:HS→Prop) (ok:Bool) (s:ByteArray):qFa P d S K (.bytes ok s)=(bT (ok=true∧s.size≤9223372036854775807)∧K (S.set d (.lst true (jK s)))):=nr rfl
theorem zJa (P:Program) (N:Nat) (o:Oper) (S:HS) (K:HS→Prop):HGo P N o S K=zN0 P N o (mH S o.op) K:=nr rfl
theorem zB1 (P:Program) (N:Nat) (o:Oper) (S:HS) (K:HS→Prop):zN0 P N o S K=match dM N o.dst with|true=>qFa P o.dst S K (hop P S (qC5 o.dst) o.op)|false=>False:=nr rfl
theorem qQq (S:HS) (x:Operand):mH S (.move x)=S:=nr rfl
theorem qF9 (S:HS) (x:Operand):mH S (.assign x)=S:=nr rfl
theorem qQo (S:HS) (c a b:Operand):mH S (.pick c a b)=S:=nr rfl
theorem qC9 (S:HS) (x:Operand) (i:Nat):mH S (.extract x i)=S:=nr rfl
theorem qK9 (S:HS) (t:TypeId) (x:Operand) (f:Nat):mH S (.field t x f)=S:=nr rfl
theorem qLa (S:HS) (t:TypeId) (x:Operand) (f:Nat):mH S (.fieldAddr t x f)=S:=nr rfl
theorem qQp (S:HS) (x:Operand):mH S (.nilCheck x)=S:=nr rfl
theorem qK8 (S:HS) (t:TypeId) (x i:Operand):mH S (.indexAddr t x i)=S:=nr rfl
theorem qK6 (S:HS) (t:TypeId) (x:Operand) (l h m:Option Operand):mH S (.slice t x l h m)=S:=nr rfl
theorem qQs (S:HS) (t:TypeId) (x:Operand):mH S (.load t x)=S:=nr rfl
theorem qLb (S:HS) (t:TypeId) (ps:Array (Nat × Operand)):mH S (.build t ps)=S:=nr rfl
theorem qV1 (S:HS) (b:BinOp) (t:TypeId) (x y:Operand) (u:TypeId):mH S (.binOp b t x y u)=S:=nr rfl
theorem zBt (S:HS) (u:UnOp) (t:TypeId) (x:Operand):mH S (.unOp u t x)=S:=nr rfl
theorem qQt (S:HS) (s d:TypeId) (x:Operand):mH S (.convert s d x)=S:=nr rfl
theorem qK7 (S:HS) (t:TypeId) (x i:Operand):mH S (.index t x i)=S:=nr rfl
theorem qQu (S:HS) (c:Call):mH S (.call c)=S:=nr rfl
theorem qLc (S:HS) (t:TypeId):mH S (.alloc t)=S:=nr rfl
theorem qV0 (S:HS) (t:TypeId) (x:Operand):mH S (.box t x)=S:=nr rfl
theorem qQr (S:HS) (t:TypeId) (x y:Operand):mH S (.makeSlice t x y)=S:=nr rfl
theorem qK5 (S:HS) (t:TypeId) (x y:Operand):mH S (.store t x y)=restAll S (zHa S (hev S.env x) (hev S.env y)):=nr rfl
theorem qF8 (S:HS) (t n:TypeId) (ps:Array (Nat × Operand)):mH S (.buildSlice t n ps)=restAll S (zHb (iR S.env ps.toList)):=nr rfl
theorem qU0 (S:HS) (id sz i k:Nat) (h:HV):zHa S (some (.ptr id sz i k)) (some h)=qU4 S h (rlk S.st id):=nr rfl
theorem qU1 (S:HS) (h:HV) (nw:Bool) (ty s:Nat) (els:List (List FV)):qU4 S h (some (.sl nw ty s els))=uH h:=nr rfl
theorem qU3 (S:HS) (h:HV) (nw:Bool) (ty:Nat) (cs:List HV):qU4 S h (some (.bx nw ty cs))=[]:=nr rfl
theorem qU5 (ps:List (Nat × HV)):zHb (some ps)=ps.flatMap fun p=>uH p.2:=nr rfl
theorem qJ4 (i:Nat):uH (.own i)=[i]:=nr rfl
theorem qU7 (x:Value):uH (.v x)=[]:=nr rfl
theorem qJ5 (fr:Bool) (xs:List (List FV)):uH (.lst fr xs)=[]:=nr rfl
theorem qJ6 (cs:List HV):uH (.agg cs)=cs.flatMap yY:=nr rfl
theorem qF2 (i:Nat):yY (.own i)=[i]:=nr rfl
theorem qPy (x:Value):yY (.v x)=[]:=nr rfl
theorem qF3 (fr:Bool) (xs:List (List FV)):yY (.lst fr xs)=[]:=nr rfl
theorem qFo (S:HS):restAll S []=S:=nr rfl
theorem qCf (S:HS) (i:Nat) (r:List Nat):restAll S (i :: r)=restAll (qCe S i) r:=nr rfl
theorem qJg (e:bL) (s:aF) (i:Nat):qCe ⟨e,s⟩ i=match decide (i < 1000000) with|true=>(match rlk s i with|some (.sl nw _ _ els)=>HS.rest ⟨e,s⟩ i (.lst nw els)|_=>⟨e,s⟩)|false=>⟨e,s⟩:=by unfold qCe;rw [show Nat.blt i held=decide (i < 1000000) by rw [Bool.eq_iff_iff];simp [Nat.blt_eq,held]];rfl
theorem qU2 (S:HS) (h:HV) (nw:Bool) (ty s:Nat) (els:List (List HV)):qU4 S h (some (.hl nw ty s els))=[]:=nr rfl
theorem qVv (N:Nat) (d:Option Nat) (S:HS) (K:HS→Prop):kG N d S K=match dM N d with|true=>K (S.set d (.v undef))|false=>False:=nr rfl
theorem qQl (P:Program) (N:Nat) (o:Oper) (S:HS) (K:HS→Prop):qSh P N o S K .yes=HGo P N o S K:=nr rfl
theorem qVu (P:Program) (N:Nat) (o:Oper) (S:HS) (K:HS→Prop):qSh P N o S K .no=kG N o.dst S K:=nr rfl
theorem qQm (P:Program) (N:Nat) (o:Oper) (S:HS) (K:HS→Prop) (d:Nat) (b want:Bool):qSh P N o S K (.ask d b want)=match b == want with|true=>HGo P N o (S.rep d (.v (.bool want))) K|false=>kG N o.dst (S.rep d (.v (.bool (!want)))) K:=nr rfl
theorem zBr (P:Program) (N:Nat) (ds:List (Option Nat)) (K:HS→Prop) (S:HS):HV2 P N ds K [] S=K S:=nr rfl
theorem qVt (P:Program) (N:Nat) (ds:List (Option Nat)) (K:HS→Prop) (o:Oper) (rest:List Oper) (S:HS):HV2 P N ds K (o :: rest) S=qSh P N o S (HV2 P N ds K rest) (hG S.env ds o.guard):=nr rfl
theorem zBy (P:Program) (o:Oper) (S:HS) (K:HS→Prop) (c:Prop) (h:HV) (S':HS):qD1 P o S K (.go c h S')=(dF o.op=true∧c∧K (S.set o.dst h)):=nr rfl
theorem qQy (P:Program) (o:Oper) (S:HS) (K:HS→Prop) (f:FuncId) (args:List HV):qD1 P o S K (.call f args)=zT1 P f args S (fun x=>mM K (S.set o.dst (.v x))):=nr rfl
theorem qWc (P:Program) (o:Oper) (S:HS) (K:HS→Prop) (t:TypeId) (x y:List Value) (neg:Bool):qD1 P o S K (.eqn t x y neg)=∃ r,EqR P t x.toArray y.toArray r∧mM K (S.set o.dst (.v (.bool (neg ^^ r)))):=nr rfl
theorem zBz (P:Program) (N:Nat) (o:Oper) (S:HS) (K:HS→Prop):qYb P N o S K=match dM N o.dst with|true=>qD1 P o S K (hop P S (qC5 o.dst) o.op)|false=>False:=nr rfl
theorem qKy (P:Program) (N:Nat) (o:Oper) (S:HS) (K:HS→Prop):qE8 P N o S K .yes=qYb P N o S K:=nr rfl
theorem qQk (P:Program) (N:Nat) (o:Oper) (S:HS) (K:HS→Prop):qE8 P N o S K .no=kG N o.dst S K:=nr rfl
theorem qKz (P:Program) (N:Nat) (o:Oper) (S:HS) (K:HS→Prop) (d:Nat) (b want:Bool):qE8 P N o S K (.ask d b want)=match b == want with|true=>qYb P N o (S.rep d (.v (.bool want))) K|false=>kG N o.dst (S.rep d (.v (.bool (!want)))) K:=nr rfl
theorem zBq (P:Program) (N:Nat) (ds:List (Option Nat)) (K:HS→Prop) (S:HS):HVq P N ds K [] S=K S:=nr rfl
theorem qVs (P:Program) (N:Nat) (ds:List (Option Nat)) (K:HS→Prop) (o:Oper) (rest:List Oper) (S:HS):HVq P N ds K (o :: rest) S=qE8 P N o S (HVq P N ds K rest) (hG S.env ds o.guard):=nr rfl
theorem qPe (t:Nat):bZ (.tmp t)=[t]:=nr rfl
theorem qFl (v:Value):bZ (.const v)=[]:=nr rfl
theorem qB5 (g:Nat):bZ (.global g)=[]:=nr rfl
theorem qH7 (f:FuncId):bZ (.func f)=[]:=nr rfl
theorem qH4  : uE []=[]:=nr rfl
theorem qFk (x:Operand) (r:List Operand):uE (x :: r)=bZ x ++ uE r:=nr rfl
theorem qH2  : nR []=[]:=nr rfl
theorem qFi (k:Nat) (x:Operand) (r:List (Nat × Operand)):nR ((k,x) :: r)=bZ x ++ nR r:=nr rfl
theorem qH8 (x:Operand):qFm (some x)=bZ x:=nr rfl
theorem qH9  : qFm none=[]:=nr rfl
theorem qB0 (x:Operand):cG (.move x)=bZ x:=nr rfl
theorem vK (x:Operand):cG (.assign x)=bZ x:=nr rfl
theorem qBz (x:Operand):cG (.nilCheck x)=bZ x:=nr rfl
theorem qBy (c a b:Operand):cG (.pick c a b)=bZ c ++ (bZ a ++ bZ b):=nr rfl
theorem uU (x:Operand) (i:Nat):cG (.extract x i)=bZ x:=nr rfl
theorem qAs (t:TypeId) (x:Operand) (f:Nat):cG (.field t x f)=bZ x:=nr rfl
theorem qAt (t:TypeId) (x:Operand) (f:Nat):cG (.fieldAddr t x f)=bZ x:=nr rfl
theorem qB1 (t:TypeId) (x:Operand):cG (.load t x)=bZ x:=nr rfl
theorem qH3 (u:UnOp) (t:TypeId) (x:Operand):cG (.unOp u t x)=bZ x:=nr rfl
theorem qB2 (s d:TypeId) (x:Operand):cG (.convert s d x)=bZ x:=nr rfl
theorem qAr (t:TypeId) (x i:Operand):cG (.indexAddr t x i)=bZ x ++ bZ i:=nr rfl
theorem qAq (t:TypeId) (x i:Operand):cG (.index t x i)=bZ x ++ bZ i:=nr rfl
theorem qAo (t:TypeId) (x:Operand) (l h:Option Operand):cG (.slice t x l h none)=bZ x ++ (qFm l ++ qFm h):=nr rfl
theorem qFj (b:BinOp) (t:TypeId) (x y:Operand) (u:TypeId):cG (.binOp b t x y u)=bZ x ++ bZ y:=nr rfl
theorem qAu (t:TypeId) (ps:Array (Nat × Operand)):cG (.build t ps)=nR ps.toList:=nr rfl
theorem vJ (t:TypeId) (n:Nat) (ps:Array (Nat × Operand)):cG (.buildSlice t n ps)=nR ps.toList:=nr rfl
theorem qAp (t:TypeId) (x y:Operand):cG (.makeSlice t x y)=bZ x ++ bZ y:=nr rfl
theorem qB3 (k:Callee) (args:Array Operand) (ats:Array TypeId):cG (.call ⟨k,args,ats⟩)=qH6 k ++ uE args.toList:=nr rfl
theorem qB4 (x:Operand):qH6 (.value x)=bZ x:=nr rfl
theorem vL (b:Builtin):qH6 (.builtin b)=[]:=nr rfl
theorem qJb (ds:List (Option Nat)):rN ds none=[]:=nr rfl
theorem qJa (ds:List (Option Nat)) (g:Nat) (b:Bool):rN ds (some (g,b))=match ds[g]? with|some (some d)=>[d]|_=>[]:=nr rfl
theorem qPt (e:bL):gY e []=[]:=nr rfl
theorem qJz (e:bL) (t:Nat) (r:List Nat):gY e (t :: r)=match hlk e t with|some h=>(t,h) :: gY e r|none=>gY e r:=nr rfl
theorem qJv  : kW []=true:=nr rfl
theorem qUv (k:Nat) (v:Value) (r:bL):kW ((k,.v v) :: r)=kW r:=nr rfl
theorem qJw (k:Nat) (b:Bool) (xs:List (List FV)) (r:bL):kW ((k,.lst b xs) :: r)=kW r:=nr rfl
theorem qJx (k:Nat) (hs:List HV) (r:bL):kW ((k,.agg hs) :: r)=kW r:=nr rfl
theorem qV6 (d:Option Nat) (S:HS) (K:HS→Prop) (c:Prop) (i:Nat) (S':HS):zC3 d S K (.go c (.own i) S')=match rlk S'.st i with|some (.sl _ _ _ els)=>c∧K (S.set d (.lst true els))|_=>False:=nr rfl
theorem qF5 (t:TypeId) (n:Nat) (ps:Array (Nat × Operand)):zHj (.buildSlice t n ps)=true:=nr rfl
theorem qKl (t:TypeId) (x y:Operand):zHj (.makeSlice t x y)=true:=nr rfl
theorem qCi (t:TypeId) (n:Nat) (ps:Array (Nat × Operand)):dF (.buildSlice t n ps)=false:=nr rfl
theorem qFt (t:TypeId) (x y:Operand):dF (.makeSlice t x y)=false:=nr rfl
theorem zBw (P:Program) (o:Oper) (S T:HS) (K:HS→Prop) (c:Prop) (h:HV) (S':HS):qAj P o S T K (.go c h S')=match dF o.op with|true=>c∧K (S.set o.dst h)|false=>(match zHj o.op && kW T.env with|true=>zC3 o.dst S K (hop P ⟨T.env,[]⟩ (qC5 o.dst) o.op)|false=>False):=nr rfl
theorem qQx (P:Program) (o:Oper) (S T:HS) (K:HS→Prop) (f:FuncId) (args:List HV):qAj P o S T K (.call f args)=zL0 P f args T (fun x=>mM K (S.set o.dst x)):=nr rfl
theorem qWb (P:Program) (o:Oper) (S T:HS) (K:HS→Prop) (t:TypeId) (x y:List Value) (neg:Bool):qAj P o S T K (.eqn t x y neg)=∃ r,EqR P t x.toArray y.toArray r∧mM K (S.set o.dst (.v (.bool (neg ^^ r)))):=nr rfl
theorem zBx (P:Program) (N:Nat) (o:Oper) (S T:HS) (K:HS→Prop):qZ8 P N o S T K=match dM N o.dst with|true=>qAj P o S T K (hop P T (qC5 o.dst) o.op)|false=>False:=nr rfl
theorem qKw (P:Program) (N:Nat) (o:Oper) (S T:HS) (K:HS→Prop):qE7 P N o S T K .yes=qZ8 P N o S T K:=nr rfl
theorem qQj (P:Program) (N:Nat) (o:Oper) (S T:HS) (K:HS→Prop):qE7 P N o S T K .no=kG N o.dst S K:=nr rfl
theorem qKx (P:Program) (N:Nat) (o:Oper) (S T:HS) (K:HS→Prop) (d:Nat) (b want:Bool):qE7 P N o S T K (.ask d b want)=match b == want with|true=>qZ8 P N o (S.rep d (.v (.bool want))) (T.rep d (.v (.bool want))) K|false=>kG N o.dst (S.rep d (.v (.bool (!want)))) K:=nr rfl
theorem zBp (P:Program) (N:Nat) (ds:List (Option Nat)) (K:HS→Prop) (S:HS):HVr P N ds K [] S=K S:=nr rfl
theorem qVr (P:Program) (N:Nat) (ds:List (Option Nat)) (K:HS→Prop) (o:Oper) (rest:List Oper) (S:HS):HVr P N ds K (o :: rest) S=qE7 P N o S ⟨gY S.env (rN ds o.guard ++ cG o.op),S.st⟩ (HVr P N ds K rest) (hG (gY S.env (rN ds o.guard ++ cG o.op)) ds o.guard):=nr rfl
theorem qQh (k:Nat):qC5 (some k)=8 * k:=nr rfl
theorem qQi  : qC5 none=0:=nr rfl
theorem qJn (x:Operand):dF (.move x)=true:=nr rfl
theorem qCj (x:Operand):dF (.assign x)=true:=nr rfl
theorem qJl (c a b:Operand):dF (.pick c a b)=true:=nr rfl
theorem qAv (x:Operand) (i:Nat):dF (.extract x i)=true:=nr rfl
theorem qFw (t:TypeId) (x:Operand) (f:Nat):dF (.field t x f)=true:=nr rfl
theorem qFx (t:TypeId) (x:Operand) (f:Nat):dF (.fieldAddr t x f)=true:=nr rfl
theorem qJm (x:Operand):dF (.nilCheck x)=true:=nr rfl
theorem qFv (t:TypeId) (x i:Operand):dF (.indexAddr t x i)=true:=nr rfl
theorem qFs (t:TypeId) (x:Operand) (l h m:Option Operand):dF (.slice t x l h m)=true:=nr rfl
theorem qJo (t:TypeId) (x:Operand):dF (.load t x)=true:=nr rfl
theorem qFy (t:TypeId) (ps:Array (Nat × Operand)):dF (.build t ps)=true:=nr rfl
theorem qPo (b:BinOp) (t:TypeId) (x y:Operand) (u:TypeId):dF (.binOp b t x y u)=true:=nr rfl
theorem qUs (u:UnOp) (t:TypeId) (x:Operand):dF (.unOp u t x)=true:=nr rfl
theorem qJp (s d:TypeId) (x:Operand):dF (.convert s d x)=true:=nr rfl
theorem qFu (t:TypeId) (x i:Operand):dF (.index t x i)=true:=nr rfl
theorem qPn (args:Array Operand) (ats:Array TypeId):dF (.call ⟨.builtin .len,args,ats⟩)=true:=nr rfl
theorem qPm (args:Array Operand) (ats:Array TypeId):dF (.call ⟨.builtin .min,args,ats⟩)=true:=nr rfl
theorem qSb (k:Nat):rB k []=[]:=nr rfl
theorem qNo (k:Nat) (v:HV) (r:List HV):rB k (v :: r)=(k,v) :: rB (k + 1) r:=nr rfl
theorem zZ (e:bL) (s:aF) (ks ids:List Nat):HS.keep ⟨e,s⟩ ks ids=⟨wZ ks e,rR ids s⟩:=nr rfl
theorem zR (l:bL):wZ [] l=[]:=nr rfl
theorem zP (k:Nat) (r:List Nat) (l:bL):wZ (k :: r) l=match hlk l k with|some v=>(k,v) :: wZ r l|none=>wZ r l:=nr rfl
theorem zQ (l:aF):rR [] l=[]:=nr rfl
theorem zN (k:Nat) (r:List Nat) (l:aF):rR (k :: r) l=match rlk l k with|some v=>(k,v) :: rR r l|none=>rR r l:=nr rfl
theorem yA (P:Program) (rs:List ResultVar) (Q:HV→aF→Prop) (S:HS):zJc P rs Q .normal S=kU P S rs fun hs=>qE9 S (sX hs) Q:=nr rfl
theorem yM (P:Program) (rs:List ResultVar) (Q:HV→aF→Prop) (S:HS):zJc P rs Q .ret S=kU P S rs fun hs=>qE9 S (sX hs) Q:=nr rfl
theorem yH (P:Program) (S:HS) (K:List HV→Prop):kU P S [] K=K []:=nr rfl
theorem aL (P:Program) (S:HS) (p ty:Nat) (r:List ResultVar) (K:List HV→Prop):kU P S (.cell p ty :: r) K=zQa (qS S (bW P ty) (hlk S.env p)) fun h=>kU P S r fun hs=>K (h :: hs):=nr rfl
theorem aV (c:Prop) (h:HV) (S:HS) (K:HV→Prop):zQa (.go c h S) K=(c∧K h):=nr rfl
theorem yE (P:Program) (S:HS) (t:Nat) (r:List ResultVar) (K:List HV→Prop):kU P S (.tmp t :: r) K=match hlk S.env t with|some h=>kU P S r fun hs=>K (h :: hs)|none=>False:=nr rfl
theorem yK (h:HV):sX [h]=h:=nr rfl
theorem yJ (a b:HV) (r:List HV):sX (a :: b :: r)=.tup (a :: b :: r):=nr rfl
theorem zMl (i:Nat):pos [] i=none:=nr rfl
theorem yF (k:Nat) (r:List Nat) (i:Nat):pos (k :: r) i=if k=i then some 0 else (pos r i).map (· + 1):=nr rfl
theorem zDt (m:Nat→Option Nat) (st:aF) (k:Nat):iB m st k []=[]:=nr rfl
theorem yG (m:Nat→Option Nat) (st:aF) (k id:Nat) (r:List Nat):iB m st k (id :: r)=match rlk st id with|some row=>(k,row.ren m) :: iB m st (k + 1) r|none=>iB m st (k + 1) r:=nr rfl
theorem qNj {p:Prop} (h:p):bT p=True:=eq_true h
theorem qR7:bT True=True:=rfl
theorem ltT {a b:Int} (h:a < b):decide (a < b)=true:=decide_eq_true h
theorem ltF {a b:Int} (h:b≤a):decide (a < b)=false:=decide_eq_false (by omega)
theorem leT {a b:Int} (h:a≤b):decide (a≤b)=true:=decide_eq_true h
theorem leF {a b:Int} (h:b < a):decide (a≤b)=false:=decide_eq_false (by omega)
theorem eqT {a b:Int} (h:a=b):decide (a=b)=true:=decide_eq_true h
theorem eqF {a b:Int} (h:a < b∨b < a):decide (a=b)=false:=decide_eq_false (by omega)
theorem zM8 {α:Type} {l:List α} {i:Nat} {d:α} (h:i < l.length):l.getD i d=l[i]:=fM h
theorem xD {α β:Type} {f:α→β} {l:List α} {i:Nat} {d:β} (h:i < l.length):(l.map f).getD i d=f (l[i]):=by rw [zM8 (by simpa using h),List.getElem_map]
theorem qM4:(default:FV)=.v (.bool false):=rfl
theorem zL1 {x:Int} (h1:-9223372036854775808≤x) (h2:x≤9223372036854775807):IntKind.i64.wrap x=x:=zRy ⟨by unfold zSl;exact h1,by unfold zS5;exact h2⟩
theorem qHp (n:Nat):((n:Int) + 1).toNat=n + 1:=by omega
theorem qN5 (n m:Nat):((n:Int) + (m:Int)).toNat=n + m:=by omega
theorem qSl {α:Type} {f:α→List FV} {sz:Nat} (l:List α) (h:∀ a,(f a).length=sz):Wid sz (l.map f):=fun x hx=>by
 obtain ⟨a,-,rfl⟩:=List.mem_map.1 hx;exact h a
end Go.Eng
end

section
namespace Go.Eng
open Go Go.RowKit
def qT6 (s:ByteArray):List FV:=[.v (.string s)]
def dG (a:List ByteArray):List (List FV):=a.map qT6
theorem cX (a:List ByteArray):(dG a).length=a.length:=by simp [dG]
theorem vE (a:List ByteArray):Wid 1 (dG a)=True:=eq_true (qSl a fun _=>rfl)
theorem qHr {a:List ByteArray} {i:Nat} {d:List FV} (h:i < a.length):(dG a).getD i d=[.v (.string a[i])]:=by unfold dG;rw [xD h];rfl
theorem qA4 (a:List ByteArray):∀ x ∈ dG a,∀ f ∈ x,FreshF f:=fun x hx f hf=>by
 obtain ⟨s,-,rfl⟩:=List.mem_map.1 hx;simp [qT6] at hf;subst hf;exact .v _
theorem qN6 (a:List ByteArray) (s:ByteArray):dG a ++ [[.v (.string s)]]=dG (a ++ [s]):=by simp [dG,qT6]
theorem zDe (a:List ByteArray) (n:Nat):(dG a).take n=dG (a.take n):=by simp [dG,List.map_take]
theorem zRf {P:Program} {N:Nat} {x:Code} {Q:eN} {S:HS} (k id ty sz:Nat) (hk:hlk S.env k=some (.v (.slice none 0 0))) (h:HW P N x Q (((S.kill (only id)).row id (.sl true ty sz [])).rep k (.own id))):HW P N x Q S:=fun c l w I=>by
 refine h c l w ?_;obtain ⟨ρ,xs,G⟩:=I
 have G2:=G.new id (.sl true ty sz []) [] (.slice none 0 0) (w':=w) (Below.refl _ _) (fun b hb=>by cases hb) (fun _ _ =>
  ⟨by rw [bE];exact World.ownsRow_nil w 0 ty sz,⟨by simp,fun i k hi=>absurd hi (by simp)⟩,fun b hb=>by rw [bE] at hb;cases hb⟩)
 refine ⟨_,_,G2.rows,G2.apart,fun j y hj=>?_,G2.kept,G2.a0⟩
 simp only [HS.rep,qDa] at hj
 by_cases e:j=k
 ·subst e;rw [if_pos rfl] at hj
  have h1:hlk ((S.kill (only id)).row id (.sl true ty sz [])).env j=some (.v (.slice none 0 0)):=by
   show hlk (rA (only id) S.env) j=_
   rw [lA,hk];simp [HV.kill]
  rw [h1] at hj;simp only [Option.map_some,Option.some.injEq] at hj;subst hj;obtain ⟨v,a,b⟩:=G2.env j _ h1
  have:=bD b
  subst this;refine ⟨_,a,?_⟩
  have:=RepH.own (w:=w) (A:=c.A (jN ρ id (.slice none 0 0)) (((S.kill (only id)).row id (.sl true ty sz [])).rep j (.own id)).st) (n0:=c.n0) (ρ:=jN ρ id (.slice none 0 0)) id (by rw [bE];rfl)
  rw [bE] at this;exact this
 ·rw [if_neg e] at hj;exact G2.env j y hj
theorem qDe {P:Program} {f:FuncId} {args:List HV} {x:Value} (h:∀ (w:World) (vs:List Value),iZ w (fun _=>False) w.heap.size (fun _=>undef) vs args→Calls P f vs.toArray w (Ret fun r w'=>r=x∧Below w.heap.size w w')):HFun P f args (fun h st=>h=.v x∧st=[]):=fun w vs R =>
 Ret.mono (h w vs R) fun v w' ⟨hv,B⟩=>⟨B,.v x,[],fun i r hi=>by simp [rlk] at hi,⟨rfl,rfl⟩,fun _=>undef,fun _=>[],⟨fun id r hr=>by simp [rlk] at hr,fun i j r s b hne hi=>by simp [rlk] at hi,fun k x hk=>by simp [hlk] at hk,⟨B.os,B.tape,B.output,B.size,fun b hlt _=>B.block b hlt⟩,fun b hb=>⟨hb,fun h=>h⟩⟩,by rw [hv];exact .v x⟩
theorem iE {st:aF} {fr:Bool} {xs ys:List (List FV)} (h:kH xs=ys):Lend st (.lst fr xs) (.lst false ys):=h ▸ .lst fr xs
theorem zHn {st:aF} {id ty sz:Nat} {nw:Bool} {els ys:List (List FV)} (h:kH els=ys) (hr:rlk st id=some (.sl nw ty sz els)):Lend st (.own id) (.lst false ys):=h ▸ .own hr
theorem zSm {st:aF} {id ty sz off n:Nat} {nw:Bool} {els ys:List (List FV)} (h:kH ((els.drop off).take n)=ys) (hr:rlk st id=some (.sl nw ty sz els)):Lend st (.vw id sz off n) (.lst false ys):=h ▸ .vw hr
section
variable {S:HS} {Q:HV→aF→Prop}
theorem bQ {a:Value} (q:Q (.v a) []):qE9 S (.v a) Q:=⟨[],by simp,rfl,.v _,fun id h=>by simp at h,by rw [HV.ren];exact q⟩
theorem qHa {a b:Value} (q:Q (.tup [.v a,.v b]) []):qE9 S (.tup [.v a,.v b]) Q :=
 ⟨[],by simp,rfl,.tup fun x hx=>by simp at hx;rcases hx with rfl|rfl <;> exact .v _,fun id h=>by simp at h,by rw [HV.ren];simp only [List.map_cons,List.map_nil,HV.ren];exact q⟩
theorem qK0 {a b c:Value} (q:Q (.tup [.v a,.v b,.v c]) []):qE9 S (.tup [.v a,.v b,.v c]) Q :=
 ⟨[],by simp,rfl,.tup fun x hx=>by simp at hx;rcases hx with rfl|rfl|rfl <;> exact .v _,fun id h=>by simp at h,by rw [HV.ren];simp only [List.map_cons,List.map_nil,HV.ren];exact q⟩
theorem zQm {id ty sz:Nat} {els:List (List FV)} (hr:rlk S.st id=some (.sl true ty sz els)) (hf:∀ x ∈ els,∀ f ∈ x,FreshF f) (q:Q (.own 0) [(0,.sl true ty sz els)]):qE9 S (.own id) Q :=
 ⟨[id],by simp,by simp [dup],.own _,fun i h r hr'=>by
  simp at h;subst h;rw [hr] at hr';simp only [Option.some.injEq] at hr';subst hr';exact ⟨rfl,hf⟩,by
  rw [HV.ren];simp only [pos,if_true,iB,hr,Row.ren];exact q⟩
end
end Go.Eng
end

section
namespace Go.Eng
open Go Go.RowKit
theorem qVa (j:Nat):qEp [] j=none:=nr rfl
theorem qP2 (k:Nat) (r:List Nat) (j:Nat):qEp (k :: r) j=if j=0 then some k else qEp r (j - 1):=by cases j <;> simp [qEp]
theorem zF1 (ids:List Nat) (n j:Nat):sh2 ids n j=match qEp ids j with|some i=>some i|none=>bif decide (j < 8) then some (n + j) else none:=by
 unfold sh2;split <;> rename_i h <;> rw [h];congr 1;rw [Bool.eq_iff_iff];simp [Nat.blt_eq]
theorem zBo (i:Nat):inL [] i=false:=nr rfl
theorem qVp (k:Nat) (r:List Nat) (i:Nat):inL (k :: r) i=(k == i || inL r i):=nr rfl
theorem qQf:qVn none=true:=nr rfl
theorem zBi (nw:Bool) (t s:Nat) (xs:List (List FV)):qVn (some (.sl nw t s xs))=true:=nr rfl
theorem zBk (nw:Bool) (t:Nat) (cs:List HV):qVn (some (.bx nw t cs))=false:=nr rfl
theorem zBj (nw:Bool) (t s:Nat) (xs:List (List HV)):qVn (some (.hl nw t s xs))=true:=nr rfl
theorem zBm (nw:Bool) (t s:Nat) (xs:List (List HV)):iW (some (.hl nw t s xs))=False:=nr rfl
theorem qQg:iW none=False:=nr rfl
theorem zBl (nw:Bool) (t s:Nat) (xs:List (List FV)):iW (some (.sl nw t s xs))=False:=nr rfl
theorem zH1 (t:Nat) (cs:List HV):iW (some (.bx true t cs))=False:=nr rfl
theorem zH2 (t:Nat) (cs:List HV):iW (some (.bx false t cs))=True:=nr rfl
theorem qN4 (ids:List Nat) (st:aF) (n i:Nat):fF ids st n i=(cP n i || (inL ids i && qVn (rlk st i))):=nr rfl
theorem zCd (ids:List Nat) (n i:Nat):lD ids n i=(cP n i || inL ids i):=nr rfl
theorem qP1 (ids:List Nat) (st:aF) (j:Nat):dH ids st j=match qEp ids j with|some i=>rlk st i|none=>none:=nr rfl
theorem zCq (nw:Bool) (t s:Nat) (xs:List (List FV)):(Row.sl nw t s xs).dark=.sl nw t s xs:=nr rfl
theorem zCs (nw:Bool) (t:Nat) (cs:List HV):(Row.bx nw t cs).dark=.bx false t cs:=nr rfl
theorem zCr (nw:Bool) (t s:Nat) (xs:List (List HV)):(Row.hl nw t s xs).dark=.hl nw t s xs:=nr rfl
theorem zCl (o:Option Row) (nw:Bool) (t s:Nat) (xs:List (List HV)):(Row.hl nw t s xs).flag o=.hl nw t s xs:=by
 cases o with
|none=>rfl
|some o=>cases o <;> rfl
theorem qW9 (r:Row) (nw:Bool) (t s:Nat) (xs:List (List HV)):r.flag (some (.hl nw t s xs))=r:=by cases r <;> rfl
theorem qRv (r:Row):r.flag none=r:=nr rfl
theorem zCk (o:Option Row) (nw:Bool) (t s:Nat) (xs:List (List FV)):(Row.sl nw t s xs).flag o=.sl nw t s xs:=by
 cases o with
|none=>rfl
|some o=>cases o <;> rfl
theorem zCm (nw n2:Bool) (t t2:Nat) (cs c2:List HV):(Row.bx n2 t2 c2).flag (some (.bx nw t cs))=.bx nw t2 c2:=nr rfl
theorem qW8 (r:Row) (nw:Bool) (t s:Nat) (xs:List (List FV)):r.flag (some (.sl nw t s xs))=r:=by cases r <;> rfl
theorem qR5 (m:Nat→Option Nat) (st:aF) (k:Nat):eK m st k []=[]:=nr rfl
theorem qNe (m:Nat→Option Nat) (st:aF) (k id:Nat) (r:List Nat):eK m st k (id :: r)=match rlk st id with|some row=>(k,(row.ren m).dark) :: eK m st (k + 1) r|none=>eK m st (k + 1) r:=nr rfl
theorem zAf (S0:aF) (ids:List Nat) (n:Nat) (b:aF):swp S0 ids n [] b=b:=nr rfl
theorem qT2 (S0:aF) (ids:List Nat) (n j:Nat) (r:Row) (t b:aF):swp S0 ids n ((j,r) :: t) b=((sh2 ids n j).getD 0,(r.ren (sh2 ids n)).flag (dH ids S0 j)) :: swp S0 ids n t b:=nr rfl
theorem zAg (e:bL) (s:aF) (ids:List Nat) (n:Nat) (st:aF):HS.swap ⟨e,s⟩ ids n st=⟨rA (fF ids s n) e,swp s ids n st (nT (lD ids n) (fF ids s n) s)⟩:=nr rfl
theorem qJc (g p:Nat→Bool):nT g p []=[]:=nr rfl
theorem qFn (g p:Nat→Bool) (k:Nat) (h:Row) (r:aF):nT g p ((k,h) :: r)=bif g k then nT g p r else (k,h.kill p) :: nT g p r:=nr rfl
theorem zE8 (st:aF) (k:Nat):qGw st k []=True:=nr rfl
theorem yL (st:aF) (k id:Nat) (r:List Nat):qGw st k (id :: r)=((iW (rlk st id)→k=id)∧qGw st (k + 1) r):=nr rfl
theorem zEk (ids:List Nat) (st:aF):oG ids st []=True:=nr rfl
theorem zHw (ids:List Nat) (st:aF) (j:Nat) (nw:Bool) (t s:Nat) (xs:List (List FV)) (r:aF):oG ids st ((j,.sl nw t s xs) :: r)=oG ids st r:=nr rfl
theorem zHx (ids:List Nat) (st:aF) (j:Nat) (nw:Bool) (t s:Nat) (xs:List (List HV)) (r:aF):oG ids st ((j,.hl nw t s xs) :: r)=oG ids st r:=nr rfl
theorem zHy (ids:List Nat) (st:aF) (j:Nat) (t:Nat) (cs:List HV) (r:aF):oG ids st ((j,.bx true t cs) :: r)=oG ids st r:=nr rfl
theorem zHz (ids:List Nat) (st:aF) (j:Nat) (t:Nat) (cs:List HV) (r:aF):oG ids st ((j,.bx false t cs) :: r)=((qEp ids j=some j∧iW (rlk st j))∧oG ids st r):=by
 rw [fH];rfl
theorem dR (P:Program) (rs:List ResultVar) (st0:aF) (Q:HV→aF→Prop) (S:HS):qZl P rs st0 Q .normal S=kU P S rs fun hs=>qGx st0 S (sX hs) Q:=rfl
theorem fL (P:Program) (rs:List ResultVar) (st0:aF) (Q:HV→aF→Prop) (S:HS):qZl P rs st0 Q .ret S=kU P S rs fun hs=>qGx st0 S (sX hs) Q:=rfl
theorem qF7 (ids:List Nat) {st0:aF} {S:HS} {h:HV} {Q:HV→aF→Prop} (h1:ids.length≤8) (h2:dup ids=false) (h3:qGw S.st 0 ids) (h4:oG ids S.st st0) {h':HV} {st':aF} (h5:h.ren (pos ids)=h') (h6:iB (pos ids) S.st 0 ids=st') (q:Q h' st'):qGx st0 S h Q :=
 ⟨ids,h1,h2,h3,h4,by rw [h5,h6];exact q⟩
theorem aS:sX []=.tup []:=nr rfl
section
variable {P:Program} {N:Nat} {x:Code} {Q:eN} {S S':HS}
end
section
variable {P:Program} {N:Nat} {x:Code} {Q:eN} {S:HS} {id:Nat} {R:HS→Prop}
end
end Go.Eng
end

section
namespace Go.Eng
open Go Go.RowKit
def zQn (R:HS→Prop) (Q:eN):eN
|.normal,S=>R S
|e,S=>Q e S
section
variable {P:Program} {N:Nat} {x:Code} {Q:eN} {S:HS} {R:HS→Prop}
theorem zNv {ι:Type} (E:ι→HS) (I:ι→Prop) (ks ids:List Nat) (hx:HW P N x (zQn (fun S'=>∃ j,S'.keep ks ids=E j∧I j) Q) S) (hy:∀ S' j,S'.keep ks ids=E j→I j→Q .normal S'):HW P N x Q S :=
 hx.mono fun e S' h=>by
  cases e with
 |normal=>obtain ⟨j,hE,hI⟩:=h;exact hy S' j hE hI
 |_=>exact h
end
theorem zNu {P:Program} {N:Nat} {x:Code} {Q:eN} {S S':HS} (k id ty sz:Nat) (hk:hlk S.env k=some (.v (.slice none 0 0))) (hs:((S.kill (only id)).row id (.sl true ty sz [])).rep k (.own id)=S') (h:HW P N x Q S'):HW P N x Q S:=zRf k id ty sz hk (hs ▸ h)
end Go.Eng
end

section
namespace Go.Eng
open Go Go.RowKit
section
variable {P:Program} {N:Nat} {ds:List (Option Nat)} {K:HS→Prop} {S:HS} {Q:eN}
end
end Go.Eng
end

section
namespace Go.Eng
open Go Go.RowKit
def nm (a b:Nat):Nat→Option Nat:=fun i=>if i=a then some b else if i=b then none else some i
def zNe (m:Nat→Option Nat):bL→bL
|[]=>[]
|(k,h) :: r=>(k,h.ren m) :: zNe m r
def zFy (a b:Nat):aF→aF
|[]=>[]
|(k,r) :: t=>(if k=a then b else k,r.ren (nm a b)) :: zFy a b t
def HS.name (S:HS) (a b:Nat):HS:=⟨zNe (nm a b) S.env,zFy a b S.st⟩
theorem qV9 (m:Nat→Option Nat):∀ (l:bL) (k:Nat),hlk (zNe m l) k=(hlk l k).map (HV.ren m)
|[],k=>rfl
|(j,h) :: r,k=>by
  simp only [zNe,hlk];split
  ·rfl
  ·exact qV9 m r k
theorem qUn {a b:Nat} (hab:a≠b):∀ (l:aF) (_:rlk l b=none) (k:Nat),rlk (zFy a b l) k=if k=b then (rlk l a).map (Row.ren (nm a b)) else if k=a then none else (rlk l k).map (Row.ren (nm a b))
|[],_,k=>by simp [zFy,rlk]
|(j,r) :: t,h,k=>by
  simp only [rlk] at h
  by_cases hj:j=b
  ·rw [if_pos hj] at h;cases h
  ·rw [if_neg hj] at h
   have ih:=qUn hab t h k
   simp only [zFy,rlk]
   by_cases e:j=a
   ·subst e;rw [if_pos rfl,if_pos rfl]
    by_cases e2:k=b
    ·subst e2;rw [if_pos rfl,if_pos rfl];rfl
    ·rw [if_neg (by omega),ih,if_neg e2,if_neg e2]
     by_cases e3:k=j
     ·rw [if_pos e3,if_pos e3]
     ·rw [if_neg e3,if_neg e3,if_neg (by omega)]
   ·rw [if_neg e,if_neg e]
    by_cases e2:j=k
    ·subst e2;rw [if_pos rfl,if_neg hj,if_neg e,if_pos rfl];rfl
    ·rw [if_neg e2,ih,if_neg e2]
section
variable {P:Program} {N:Nat} {x:Code} {Q:eN} {c:Ctx} {S S':HS} {look:Nat→Option Value} {w:World}
theorem Inv.name (I:Inv c S look w) {a b ty sz:Nat} {nw:Bool} {els:List (List FV)} (hab:a≠b) (hb:rlk S.st b=none) (ha:rlk S.st a=some (.sl nw ty sz els)):Inv c (S.name a b) look w:=by
 obtain ⟨ρ,xs,G⟩:=I
 let ρ':Nat→Value:=fun i=>if i=b then ρ a else ρ i
 let xs':Nat→List Value:=fun i=>if i=b then xs a else xs i
 have hm:∀ i j,nm a b i=some j→ρ' j=ρ i:=fun i j h=>by
  unfold nm at h
  by_cases e:i=a
  ·rw [if_pos e] at h;simp only [Option.some.injEq] at h;subst h;subst e;show (if b=b then _ else _)=_;rw [if_pos rfl]
  ·rw [if_neg e] at h
   by_cases e2:i=b
   ·rw [if_pos e2] at h;cases h
   ·rw [if_neg e2] at h;simp only [Option.some.injEq] at h;subst h;show (if i=b then _ else _)=_;rw [if_neg e2]
 have back:∀ i r,rlk (S.name a b).st i=some r→∃ j r0,nm a b j=some i∧rlk S.st j=some r0∧r=r0.ren (nm a b)∧xs' i=xs j:=by
  intro i r hi;simp only [HS.name,qUn hab _ hb] at hi
  by_cases e:i=b
  ·subst e;rw [if_pos rfl,ha] at hi;simp only [Option.map_some,Option.some.injEq] at hi;exact ⟨a,_,by simp [nm],ha,hi.symm,by show (if i=i then _ else _)=_;rw [if_pos rfl]⟩
  ·rw [if_neg e] at hi
   by_cases e2:i=a
   ·rw [if_pos e2] at hi;cases hi
   ·rw [if_neg e2] at hi
    cases hs:rlk S.st i with
   |none=>rw [hs] at hi;cases hi
   |some r0 =>
     rw [hs] at hi;simp only [Option.map_some,Option.some.injEq] at hi;exact ⟨i,r0,by simp [nm,e,e2],hs,hi.symm,by show (if i=b then _ else _)=_;rw [if_neg e]⟩
 have hA:∀ g,c.A ρ' (S.name a b).st g→c.A ρ S.st g:=by
  rintro g (h0|⟨i,r,hi,hg⟩)
  ·exact .inl h0
  ·obtain ⟨j,r0,h1,h2,-,-⟩:=back i r hi;rw [hm j i h1] at hg;exact .inr ⟨j,r0,h2,hg⟩
 have tr:∀ v y,RepH w (c.A ρ S.st) c.n0 ρ v y→RepH w (c.A ρ' (S.name a b).st) c.n0 ρ' v (y.ren (nm a b)):=fun v y h=>(h.up (Nat.le_refl _) (fun _ _ _=>rfl) (fun b _=>hA b) (Nat.le_refl _)).ren hm
 refine ⟨ρ',xs',fun i r hi=>?_,fun i j r s g hne hi hj hgi hgj=>?_,fun k y hk=>?_,G.kept,G.a0⟩
 ·obtain ⟨j,r0,h1,h2,rfl,h4⟩:=back i r hi
  have R:=G.rows j r0 h2
  obtain ⟨f1,f2,f3,f4⟩:=Row.ren_facts (nm a b) r0;rw [h4];refine ⟨by rw [f1,f2,f3,hm j i h1];exact R.own,?_,fun g hg=>by rw [f4];rw [hm j i h1] at hg;exact R.new g hg⟩
  have rp:=R.rep
  cases r0 with
 |sl nw ty sz els =>
   refine ⟨rp.1,fun p k hp hk=>?_⟩
   obtain ⟨u,u1,u2,u3⟩:=rp.2 p k hp hk;exact ⟨u,u1,u2,u3.up (Nat.le_refl _) (fun _ _ _=>rfl) (fun b _=>hA b) (Nat.le_refl _)⟩
 |bx nw ty cells =>
   refine ⟨?_,fun k hk=>?_⟩
   ·have hji:j=i:=by
     unfold nm at h1
     by_cases e:j=a
     ·subst e;rw [ha] at h2;cases h2
     ·rw [if_neg e] at h1
      by_cases e2:j=b
      ·rw [if_pos e2] at h1;cases h1
      ·rw [if_neg e2] at h1;exact Option.some.inj h1
    rw [hm j i h1];rw [← hji];exact rp.1
   ·rw [List.length_map] at hk;obtain ⟨u,u1,u2,u3⟩:=rp.2 k hk;refine ⟨u,u1,u2,?_⟩;rw [List.getElem_map];exact tr _ _ u3
 |hl nw ty sz els =>
   refine ⟨fun y hy=>?_,fun p k hp hk=>?_⟩
   ·obtain ⟨z,hz,rfl⟩:=List.mem_map.1 hy;rw [List.length_map];exact rp.1 z hz
   ·simp only [List.length_map] at hp;simp only [List.getElem_map,List.length_map] at hk ⊢;obtain ⟨u,u1,u2,u3⟩:=rp.2 p k hp hk;exact ⟨u,u1,u2,tr _ _ u3⟩
 ·obtain ⟨i',r0,h1,h2,-,-⟩:=back i r hi;obtain ⟨j',s0,h3,h4,-,-⟩:=back j s hj;rw [hm i' i h1] at hgi;rw [hm j' j h3] at hgj;exact G.apart i' j' r0 s0 g (fun e=>hne (by subst e;rw [h1] at h3;exact Option.some.inj h3)) h2 h4 hgi hgj
 ·simp only [HS.name,qV9] at hk
  cases hx0:hlk S.env k with
 |none=>rw [hx0] at hk;cases hk
 |some x0 =>
   rw [hx0] at hk;simp only [Option.map_some,Option.some.injEq] at hk;subst hk;obtain ⟨v,h1,h2⟩:=G.env k x0 hx0;exact ⟨v,h1,tr v x0 h2⟩
end
end Go.Eng
end
