/-
  The engine of values: texts Rel, Hr, Hk, Hl, Hlo, He, Enc, Ste, Met, Spl, Nam, laid together.
-/
import Derived.Test.YtbdomkfdkfdfgaaGreatDoorEng
import Derived.Test.YtbdomkfdkfdfgaaGreatDoorGb
set_option linter.unusedSimpArgs false
set_option linter.unusedVariables false
section
namespace Go.Eng
open Go Go.RowKit
section
variable {P:Program} {N:Nat} {C:World→Prop} {ops:List Oper} {n:Nat} {l:Env} {R:Nat→Value→World→Prop}
def iH (l:Env) (ops:List Oper) (vs:Nat→Value):Nat→Env
|0=>l
|i + 1=>stp (aM ops i) (vs i) (iH l ops vs i)
def DLt (N:Nat) (ops:List Oper) (n:Nat):Prop:=∀ i t,i < n→aM ops i=some t→t < N
variable {vs:Nat→Value}
theorem qCw (hl:DLt N ops n) (hk:bK N l=true):∀ i,i≤n→bK N (iH l ops vs i)=true
|0,_=>hk
|i + 1,hi=>kB (qCw hl hk i (by omega)) (fun k e=>hl i k (by omega) e)
theorem nP (base:Array Value) (t:Nat):∀ i,(∀ j,j < i→aM ops j≠some t) →
  lk (iH l ops vs i) t=lk l t∧(kF base (iH l ops vs i))[t]?=(kF base l)[t]?
|0,_=>⟨rfl,rfl⟩
|i + 1,h=>by
  obtain ⟨h1,h2⟩:=nP base t i (fun j hj=>h j (by omega))
  have hne:=h i (by omega)
  simp only [iH]
  cases hd:aM ops i with
 |none=>exact ⟨h1,h2⟩
 |some d =>
   have:d≠t:=fun e=>hne (by rw [hd,e])
   simp only [stp,lk,kF,if_neg this];exact ⟨h1,by rw [Array.getElem?_setIfInBounds_ne this];exact h2⟩
theorem lP (hl:DLt N ops n) {base:Array Value} (hbase:base.size=N) {t j:Nat} (hj:aM ops j=some t) (huniq:∀ k,k < n→k≠j→aM ops k≠some t):∀ i,i≤n→j < i →
  lk (iH l ops vs i) t=some (vs j)∧(kF base (iH l ops vs i))[t]?=some (vs j)
|0,_,h=>absurd h (Nat.not_lt_zero _)
|i + 1,hi,h=>by
  simp only [iH]
  by_cases e:j=i
  ·subst e;rw [hj];simp only [stp,lk,kF,if_true,true_and];rw [Array.getElem?_setIfInBounds_self_of_lt (by rw [mK,hbase];exact hl j t (by omega) hj)]
  ·obtain ⟨h1,h2⟩:=lP hl hbase hj huniq i (by omega) (by omega)
   have hne:=huniq i (by omega) (Ne.symm e)
   cases hd:aM ops i with
  |none=>exact ⟨h1,h2⟩
  |some d =>
    have:d≠t:=fun e=>hne (by rw [hd,e])
    simp only [stp,lk,kF,if_neg this];exact ⟨h1,by rw [Array.getElem?_setIfInBounds_ne this];exact h2⟩
theorem qU4 {keys:List Nat} (ok:RegOk keys ops n) (F:Fr N) (hk:bK N l=true) (bU:∀ t ∈ keys,∃ v,lk l t=some v) (hlt:DLt N ops n)
  {Le:Nat→World→World→Prop} (hLe:∀ i w,Le i w w) (hS:∀ j i u w w',j < n→i < n→j≠i→C w→R j u w→Le i w w'→R j u w')
  (H:∀ i o,i < n→ops[i]?=some o→∀ (vs:Nat→Value) (w:World),C w→(∀ j t,j < i→aM ops j=some t→t ∈ o.looksAt ops.toArray→R j (vs j) w) →
   ∃ b,gd (iH l ops vs i) (cT ops) o.guard (·=b)∧(b=true→Yields P (execOp (evD (iH l ops vs i)) o) w fun u w'=>R i u w'∧C w'∧Le i w w')∧(b=false→R i undef w))
  {Q:Exit→Act→World→Prop} (hT:∀ (vs:Nat→Value) (w:World),C w→(∀ j,j < n→R j (vs j) w)→wpListIn (FW F.ds.2) 0 P ops.toArray Q (ops.drop n) (mk F (iH l ops vs n)) w) :
  ∀ (fuel:Nat) (listed:Array Bool) (a:Act) (w:World) (vs:Nat→Value),unl listed=fuel→Mid N C ops n (kF F.base l) F.ds.1 vs listed a w→(∀ j,j < n→listed.getD j false=true→R j (vs j) w)→wpAnyIn (FW F.ds.2) 0 P .any ops.toArray Q fuel listed a w:=by
 have uniq:∀ i j t,i < n→j < n→aM ops i=some t→aM ops j=some t→i=j:=by
  intro i j t hi hj h1 h2
  rcases Nat.lt_trichotomy i j with h|h|h
  ·rcases ok.uniq j i hj h with e|e
   ·rw [h2] at e;cases e
   ·exact absurd (h2.trans h1.symm) e
  ·exact h
  ·rcases ok.uniq i j hi h with e|e
   ·rw [h1] at e;cases e
   ·exact absurd (h1.trans h2.symm) e
 have final:∀ (listed:Array Bool) (a:Act) (w:World) (vs:Nat→Value),Mid N C ops n (kF F.base l) F.ds.1 vs listed a w→(∀ j,j < n→listed.getD j false=true)→a=mk F (iH l ops vs n):=by
  intro listed a w vs M hall;obtain ⟨tm,df⟩:=a
  have hd:df=F.ds.1:=M.defers
  subst hd;show Act.mk _ _=Act.mk _ _
  congr 1
  apply Array.ext_getElem?
  intro t
  by_cases h:∃ j,j < n∧aM ops j=some t
  ·obtain ⟨j,hj,hd⟩:=h
   have h1:=M.new j t hj (hall j hj) hd
   have h2:=(lP (l:=l) (vs:=vs) hlt F.hN hd (fun k hk hne e=>hne (uniq k j t hk hj e hd)) n (Nat.le_refl _) hj).2
   exact h1.trans h2.symm
  ·have h':∀ j,j < n→aM ops j≠some t:=fun j hj e=>h ⟨j,hj,e⟩
   have h1:=M.old t (fun j hj _=>h' j hj)
   have h2:=(nP (l:=l) (vs:=vs) F.base t n h').2
   exact h1.trans h2.symm
 have slot:∀ (listed:Array Bool) (a:Act) (w:World) (vs:Nat→Value) (i:Nat) (o:Oper) (t:Nat),Mid N C ops n (kF F.base l) F.ds.1 vs listed a w→i < n→ops[i]?=some o→i ∈ Region.ready .any ops.toArray listed→t ∈ o.looksAt ops.toArray →
   ∃ X,a.tmps[t]?=some X∧lk (iH l ops vs i) t=some X:=by
  intro listed a w vs i o t M hi ho hr ht;obtain ⟨l1,l2⟩:=ok.looks i o t hi ho ht
  by_cases h:∃ j,j < n∧aM ops j=some t
  ·obtain ⟨j,hj,hd⟩:=h;obtain ⟨hji,he⟩:=l1 j hj hd;exact ⟨vs j,M.new j t hj (fB hr he) hd,(lP (l:=l) (vs:=vs) hlt F.hN hd (fun k hk hne e=>hne (uniq k j t hk hj e hd)) i (by omega) hji).1⟩
  ·have h':∀ j,j < n→aM ops j≠some t:=fun j hj e=>h ⟨j,hj,e⟩
   rcases l2 with ⟨j,hj,hd⟩|hkey
   ·exact absurd hd (h' j (by omega))
   ·obtain ⟨v,hv⟩:=bU t hkey;refine ⟨v,?_,?_⟩
    ·rw [M.old t (fun j hj _=>h' j hj)];exact lN F hk hv
    ·rw [(nP (l:=l) (vs:=vs) F.base t i (fun j hj=>h' j (by omega))).1];exact hv
 intro fuel
 induction fuel with
|zero =>
  intro listed a w vs hu M MR
  have hall:∀ j,j < ops.length→listed.getD j false=true:=fun j hj=>qK5 hu (by rw [M.size];exact hj)
  have hn:n=ops.length:=by
   rcases Nat.lt_or_ge n ops.length with h|h
   ·have:=M.heads n (hall n h);omega
   ·have:=ok.hn;omega
  have ha:=final listed a w vs M (fun j hj=>hall j (by omega))
  subst ha;exact tD ok 0 n listed _ w (by omega) (Nat.le_refl _) M.size (fun i hi=>⟨fun _=>by omega,fun _=>hall i hi⟩) (hT vs w M.cls fun j hj=>MR j hj (hall j (by omega)))
|succ fuel ih =>
  intro listed a w vs hu M MR
  by_cases hdone:∀ j,j < n→listed.getD j false=true
  ·have ha:=final listed a w vs M hdone
   subst ha
   have hcount:∀ (m:Nat) (x:Array Bool),x.size=ops.length→(∀ i,i < ops.length→(x.getD i false=true↔i < m))→m≤ops.length→m + unl x=ops.length:=by
    intro m;generalize hd:ops.length - m=d
    induction d generalizing m with
   |zero =>
     intro x hx hl hm
     have:unl x=0:=by
      unfold unl;rw [List.length_eq_zero_iff,List.filter_eq_nil_iff];intro b hb;obtain ⟨i,hi,rfl⟩:=List.getElem_of_mem hb
      have hi':i < x.size:=by simpa using hi
      have:=(hl i (by omega)).2 (by omega)
      simp only [Array.getD,hi',dite_true] at this;simp [show x.toList[i]=true from this]
     omega
   |succ d ihd =>
     intro x hx hl hm
     have hmlt:m < ops.length:=by omega
     have h0:x.getD m true=false:=by
      have:¬ x.getD m false=true:=fun e=>by have:=(hl m hmlt).1 e;omega
      have hm':m < x.size:=by omega
      simp only [Array.getD,hm',dite_true] at this ⊢
      simpa using this
     have:=ihd (m + 1) (by omega) (x.setIfInBounds m true) (by simpa using hx) (fun i hi=>by
      by_cases e:m=i
      ·subst e
       have:m < x.size:=by omega
       simp [this]
      ·rw [getD_set_ne false e,hl i hi];omega) (by omega)
     have:=qCa h0
     omega
   have hl:∀ i,i < ops.length→(listed.getD i false=true↔i < n):=fun i hi=>⟨M.heads i,hdone i⟩
   have:=hcount n listed M.size hl ok.hn
   exact tD ok (fuel + 1) n listed _ w (by omega) (Nat.le_refl _) M.size hl (hT vs w M.cls fun j hj=>MR j hj (hdone j hj))
  ·have hex:∃ j,j < n∧listed.getD j false≠true:=by
    refine Classical.byContradiction fun hne=>hdone fun j hj=>?_
    refine Classical.byContradiction fun h=>hne ⟨j,hj,h⟩
   have hn:=ok.hn
   have hready:∃ j,j ∈ Region.ready .any ops.toArray listed:=by
    obtain ⟨j,hj,hjl⟩:=hex
    have:∀ d j,j=d→j < n→listed.getD j false≠true→∃ j,j ∈ Region.ready .any ops.toArray listed:=by
     intro d
     induction d using Nat.strongRecOn with
    |_ d ihd =>
      intro j hd hj hjl;subst hd
      have ho:ops[j]?=some (ops[j]'(by omega)):=List.getElem?_eq_getElem _
      by_cases hall:∀ e ∈ (ops[j]'(by omega)).after,Region.binds .any e=true→listed.getD e.on false=true
      ·refine ⟨j,mem_ready.2 ⟨?_,ops[j]'(by omega),by simp,hall⟩⟩
       have h2:j < listed.size:=by rw [M.size];omega
       simp only [Array.getD,h2,dite_true] at hjl ⊢
       simpa using hjl
      ·have:∃ e ∈ (ops[j]'(by omega)).after,Region.binds .any e=true∧listed.getD e.on false≠true:=by
        refine Classical.byContradiction fun hne=>hall fun e he hb=>?_
        refine Classical.byContradiction fun h=>hne ⟨e,he,hb,h⟩
       obtain ⟨e,he,hb,hl⟩:=this
       have hlt:=ok.down j _ e ho he hb
       exact ihd e.on hlt e.on rfl (by omega) hl
    exact this j j rfl hj hjl
   obtain ⟨j0,hj0⟩:=hready;refine ⟨fun h0=>absurd hj0 (by rw [h0];simp),fun i hi=>?_⟩
   obtain ⟨hun,o,ho,hall⟩:=mem_ready.1 hi
   have ho':ops[i]?=some o:=by simpa using ho
   have hilt:i < ops.length:=(List.getElem?_eq_some_iff.1 ho').1
   have hin:i < n:=by
    rcases Nat.lt_or_ge i n with h|h
    ·exact h
    ·exfalso
     apply hdone
     have key:∀ d j,i - j=d→j < i→listed.getD j false=true:=by
      intro d
      induction d using Nat.strongRecOn with
     |_ d ihd =>
       intro j hd hji;obtain ⟨k,hk1,hk2,hk3⟩:=ok.tail i j hilt h hji
       rcases Nat.lt_or_ge k i with hki|hki
       ·exact M.clos k j (ihd (i - k) (by omega) k rfl hki) hk3
       ·have:k=i:=by omega
        subst this;exact fB hi hk3
     exact fun j hj=>key _ j rfl (by omega)
   have hu':unl (listed.setIfInBounds i true)=fuel:=by have:=qCa hun;omega
   have hdi:aM ops i=o.dst:=by unfold aM;rw [ho'];rfl
   have hlt':jT N o.dst:=by
    cases hd:o.dst with
   |none=>trivial
   |some t=>exact hlt i t hin (hdi.trans hd)
   let nxt:Value→Nat→Value:=fun u j=>if j=i then u else vs j
   have nxt_i:∀ u,nxt u i=u:=fun u=>if_pos rfl
   have nxt_ne:∀ u j,j≠i→nxt u j=vs j:=fun u j h=>if_neg h
   have rest:∀ u w',R i u w'→Le i w w'→∀ j,j < n→(listed.setIfInBounds i true).getD j false=true→R j (nxt u j) w':=by
    intro u w' hu hB j hj hl
    by_cases e:j=i
    ·subst e;rw [nxt_i];exact hu
    ·rw [nxt_ne u j e];rw [getD_set_ne false (Ne.symm e)] at hl;exact hS j i _ w w' hj hin e M.cls (MR j hj hl) hB
   have step:∀ u w',C w'→Mid N C ops n (kF F.base l) F.ds.1 (nxt u) (listed.setIfInBounds i true) (a.put o.dst u) w':=by
    intro u w' hC
    have hlt:=hlt'
    have hset:∀ j,(listed.setIfInBounds i true).getD j false=true→j=i∨listed.getD j false=true:=by
     intro j h
     by_cases e:i=j
     ·exact .inl e.symm
     ·rw [getD_set_ne false e] at h;exact .inr h
    have hseti:(listed.setIfInBounds i true).getD i false=true:=by
     have:i < listed.size:=by rw [M.size];exact hilt
     simp [this]
    refine ⟨by simpa using M.size,?_,?_,?_,?_,?_,?_,hC⟩
    ·intro k j hk he
     rcases hset k hk with rfl|hk
     ·exact getD_set_true (fB hi he)
     ·exact getD_set_true (M.clos k j hk he)
    ·intro k hk
     rcases hset k hk with rfl|hk
     ·exact hin
     ·exact M.heads k hk
    ·cases hd:o.dst <;> exact M.defers
    ·cases hd:o.dst with
    |none=>exact M.tsize
    |some d=>simp only [Act.put,Array.size_setIfInBounds];exact M.tsize
    ·intro j t hj hjl hd
     rcases hset j hjl with rfl|hjl'
     ·rw [hdi] at hd;rw [hd] at hlt ⊢;simp only [Act.put];rw [Array.getElem?_setIfInBounds_self_of_lt (by rw [M.tsize];exact hlt),nxt_i]
     ·by_cases e:j=i
      ·subst e;rw [hdi] at hd;rw [hd] at hlt ⊢;simp only [Act.put];rw [Array.getElem?_setIfInBounds_self_of_lt (by rw [M.tsize];exact hlt),nxt_i]
      ·rw [nxt_ne u j e]
       have h1:=M.new j t hj hjl' hd
       cases hdo:o.dst with
      |none=>exact h1
      |some d =>
        have hne:d≠t:=fun e'=>e (uniq j i t hj hin hd (by rw [hdi,hdo,e']))
        simp only [Act.put];rw [Array.getElem?_setIfInBounds_ne hne];exact h1
    ·intro t ht
     have h1:=M.old t (fun j hj hjl=>ht j hj (getD_set_true hjl))
     have h2:=ht i hin hseti
     rw [hdi] at h2
     cases hdo:o.dst with
    |none=>exact h1
    |some d =>
      have hne:d≠t:=fun e'=>h2 (by rw [hdo,e'])
      simp only [Act.put];rw [Array.getElem?_setIfInBounds_ne hne];exact h1
   obtain ⟨b,hb,hbt,hbf⟩:=H i o hin ho' vs w M.cls fun j t hj hd ht=>by
    obtain ⟨l1,-⟩:=ok.looks i o t hin ho' ht;exact MR j (by omega) (fB hi (l1 j (by omega) hd).2)
   have hw:Region.wanted o (yielded ops.toArray a.tmps)=b:=by
    unfold gd at hb;split at hb
    ·rename_i hg;simp only [Region.wanted,hg];exact hb
    ·rename_i g want hg;split at hb
     ·rename_i d hd;split at hb
      ·rename_i bb hbb
       have hdd:aM ops g=some d:=by
        unfold aM;simp only [cT,List.getElem?_map,Option.map_eq_some_iff] at hd;obtain ⟨x,hx,hx'⟩:=hd;simp [hx,hx']
       obtain ⟨X,hX1,hX2⟩:=slot listed a w vs i o d M hin ho' hi (jY hg hdd);rw [hbb] at hX2
       cases hX2
       have:yielded ops.toArray a.tmps g=some bb:=by
        unfold yielded;unfold aM at hdd;simp only [List.getElem?_toArray,hdd,Option.bind_some,hX1]
       simp only [Region.wanted,hg,this];rw [← hb]
       cases bb <;> cases want <;> rfl
      ·rename_i bb hnb hbb
       have hdd:aM ops g=some d:=by
        unfold aM;simp only [cT,List.getElem?_map,Option.map_eq_some_iff] at hd;obtain ⟨x,hx,hx'⟩:=hd;simp [hx,hx']
       obtain ⟨X,hX1,hX2⟩:=slot listed a w vs i o d M hin ho' hi (jY hg hdd);rw [hbb] at hX2
       cases hX2
       have:yielded ops.toArray a.tmps g=none:=by
        unfold yielded;unfold aM at hdd;simp only [List.getElem?_toArray,hdd,Option.bind_some,hX1];split
        ·rename_i b' e;cases e;exact (hnb b' rfl).elim
        ·rfl
       simp only [Region.wanted,hg,this];rw [← hb];rfl
      ·exact hb.elim
     ·exact hb.elim
   unfold wpOpIn;simp only [ho,hw]
   cases b with
  |true =>
    simp only [if_true];refine (fT ?_)
    have hcong:execOp a.eval o=execOp (evD (iH l ops vs i)) o:=by
     refine execOp_congr o (ok.sel i o ho') (fun x hx=>?_)
     cases x with
    |tmp t =>
      obtain ⟨X,hX1,hX2⟩:=slot listed a w vs i o t M hin ho' hi (wG hx);simp [Act.eval,evD,ev,hX1,hX2]
    |const c=>rfl
    |global g=>rfl
    |func f=>rfl
    rw [hcong];exact (hbt rfl).mono fun u w' ⟨hu,hC,hB⟩=>ih _ _ _ _ hu' (step u w' hC) (rest u w' hu hB)
  |false =>
    simp only [Bool.false_eq_true,if_false];exact ⟨fun _ _=>trivial,ih _ _ _ _ hu' (step undef w M.cls) (rest undef w (hbf rfl) (hLe i w))⟩
end
section
variable {P:Program} {N:Nat} {Q:qDa} {l:Env} {w:World}
theorem zNw {id:Nat} {ops:List Oper} (keys:List Nat) (n:Nat) (hm:P.follows .mixedOrders=true) (bU:uC l=keys) (hok:qA4 keys ops n=true) (hlt:DLt N ops n)
  {C:World→Prop} {R:Nat→Value→World→Prop} (hC:C w.drew) {Le:Nat→World→World→Prop} (hLe:∀ i w,Le i w w) (hS:∀ j i u w w',j < n→i < n→j≠i→C w→R j u w→Le i w w'→R j u w')
  (H:∀ i o,i < n→ops[i]?=some o→∀ (vs:Nat→Value) (w:World),C w→(∀ j t,j < i→aM ops j=some t→t ∈ o.looksAt ops.toArray→R j (vs j) w) →
   ∃ b,gd (iH l ops vs i) (cT ops) o.guard (·=b)∧(b=true→Yields P (execOp (evD (iH l ops vs i)) o) w fun u w'=>R i u w'∧C w'∧Le i w w')∧(b=false→R i undef w))
  (hT:∀ (vs:Nat→Value) (w:World),C w→(∀ j,j < n→R j (vs j) w)→VC P N (cT ops) (fun l' w'=>Q .normal l' w') (ops.drop n) (iH l ops vs n) w):W P N (.region id ops.toArray true) Q l w:=fun hk F=>by
 have ok:=rF hok
 refine wpIn_region_any hm ?_
 have:=qU4 ok F hk (fun t ht=>wJ (by rw [bU];exact ht)) hlt hLe hS H (Q:=zB3 N F.ds Q)
  (fun vs w' hw' hR=>xK F (K:=fun l w=>Q .normal l w) (fun l' w' hk' hK=>⟨F,l',rfl,rfl,hk',hK⟩) _ _ _ (qCw hlt hk n (Nat.le_refl _)) (hT vs w' hw' hR))
  ops.length (Array.replicate ops.length false) (mk F l) w.drew (fun _=>undef) (oK _)
  ⟨by simp,(fun i j hi=>by rw [getD_replicate_false] at hi;cases hi),(fun i hi=>by rw [getD_replicate_false] at hi;cases hi),rfl,by simp [mk,mK,F.hN],(fun j t _ hl=>by rw [getD_replicate_false] at hl;cases hl),fun t _=>rfl,hC⟩
  (fun j _ hl=>by rw [getD_replicate_false] at hl;cases hl)
 simpa using this
theorem zNv {id:Nat} {ops:List Oper} (keys:List Nat) (n:Nat) (hm:P.follows .mixedOrders=true) (bU:uC l=keys) (hok:qA4 keys ops n=true) (hlt:DLt N ops n)
  {C:World→Prop} {R:Nat→Value→World→Prop} (hC:C w.drew) (hS:∀ i u w w',C w→R i u w→Below w.heap.size w w'→R i u w')
  (H:∀ i o,i < n→ops[i]?=some o→∀ (vs:Nat→Value) (w:World),C w→(∀ j t,j < i→aM ops j=some t→t ∈ o.looksAt ops.toArray→R j (vs j) w) →
   ∃ b,gd (iH l ops vs i) (cT ops) o.guard (·=b)∧(b=true→Yields P (execOp (evD (iH l ops vs i)) o) w fun u w'=>R i u w'∧C w'∧Below w.heap.size w w')∧(b=false→R i undef w))
  (hT:∀ (vs:Nat→Value) (w:World),C w→(∀ j,j < n→R j (vs j) w)→VC P N (cT ops) (fun l' w'=>Q .normal l' w') (ops.drop n) (iH l ops vs n) w):W P N (.region id ops.toArray true) Q l w :=
 zNw keys n hm bU hok hlt hC (Le:=fun _ w w'=>Below w.heap.size w w') (fun _ w=>Below.refl _ _) (fun j _ u w w' _ _ _ hc hr hb=>hS j u w w' hc hr hb) H hT
end
end Go.Eng
end

section
namespace Go.Eng
open Go Go.RowKit

def cC:Operand→List Nat
|.tmp t=>[t]
|_=>[]
def xN:List Operand→List Nat
|[]=>[]
|x :: r=>cC x ++ xN r
def pJ:List (Nat × Operand)→List Nat
|[]=>[]
|(_,x) :: r=>cC x ++ pJ r
def qH9:Option Operand→List Nat
|some x=>cC x
|none=>[]
def qLl:Callee→List Nat
|.value x=>cC x
|_=>[]
def bY:Op→List Nat
|.move x=>cC x
|.assign x=>cC x
|.nilCheck x=>cC x
|.pick c a b=>cC c ++ (cC a ++ cC b)
|.extract x _=>cC x
|.field _ x _=>cC x
|.fieldAddr _ x _=>cC x
|.load _ x=>cC x
|.unOp _ _ x=>cC x
|.convert _ _ x=>cC x
|.indexAddr _ x i=>cC x ++ cC i
|.index _ x i=>cC x ++ cC i
|.slice _ x l h none=>cC x ++ (qH9 l ++ qH9 h)
|.binOp _ _ x y _=>cC x ++ cC y
|.build _ ps=>pJ ps.toList
|.buildSlice _ _ ps=>pJ ps.toList
|.makeSlice _ x y=>cC x ++ cC y
|.call ⟨k,args,_⟩=>qLl k ++ xN args.toList
|_=>[]
theorem jK {x:Operand} {t:Nat} (h:t ∈ cC x):x=.tmp t:=by
 cases x <;> simp [cC] at h
 subst h;rfl
theorem qLk:∀ {l:List Operand} {t:Nat},t ∈ xN l→Operand.tmp t ∈ l
|[],t,h=>by simp [xN] at h
|x :: r,t,h=>by
  simp only [xN,List.mem_append] at h
  rcases h with h|h
  ·rw [jK h];exact List.mem_cons_self ..
  ·exact List.mem_cons_of_mem _ (qLk h)
theorem qDx:∀ {l:List (Nat × Operand)} {t:Nat},t ∈ pJ l→Operand.tmp t ∈ l.map (·.2)
|[],t,h=>by simp [pJ] at h
|(k,x) :: r,t,h=>by
  simp only [pJ,List.mem_append] at h
  rcases h with h|h
  ·rw [List.map_cons,jK h];exact List.mem_cons_self ..
  ·rw [List.map_cons];exact List.mem_cons_of_mem _ (qDx h)
theorem qR9 {x:Option Operand} {t:Nat} (h:t ∈ qH9 x):x=some (.tmp t):=by
 cases x with
|none=>simp [qH9] at h
|some x=>rw [jK h]
theorem qW3 {o:Op} {t:Nat} (h:t ∈ bY o):Operand.tmp t ∈ o.operands:=by
 unfold bY at h;split at h
 all_goals try simp only [List.mem_append] at h
 case h_13=>
  simp only [Op.operands]
  rcases h with h|h|h
  ·rw [jK h];simp
  ·rw [qR9 h];simp
  ·rw [qR9 h];simp
 case h_15=>simpa [Op.operands] using qDx h
 case h_16=>simpa [Op.operands] using qDx h
 case h_18 =>
  simp only [Op.operands,Call.operands,Array.mem_append]
  rcases h with h|h
  ·refine .inl ?_;unfold qLl at h;split at h
   ·rw [jK h];simp
   ·simp at h
  ·exact .inr (by simpa using qLk h)
 case h_19=>simp at h
 all_goals
  simp only [Op.operands]
  first
 |(rw [jK h];simp;done)
 |(rcases h with h|h <;> (rw [jK h];simp))
 |(rcases h with h|h|h <;> (rw [jK h];simp))
def iW (ds:List (Option Nat)):Option (Nat × Bool)→List Nat
|none=>[]
|some (g,_)=>match ds[g]? with
 |some (some d)=>[d]
 |_=>[]
def lB (e:aK):List Nat→aK
|[]=>[]
|t :: r=>match hlk e t with
 |some h=>(t,h) :: lB e r
 |none=>lB e r
theorem vZ {e:aK}:∀ {l:List Nat} {t:Nat} {h:HV},hlk (lB e l) t=some h→t ∈ l∧hlk e t=some h
|[],t,h,hh=>by simp [lB,hlk] at hh
|k :: r,t,h,hh=>by
  simp only [lB] at hh;split at hh
  ·rename_i x hx;simp only [hlk] at hh
   by_cases ek:k=t
   ·subst ek;rw [if_pos rfl] at hh;exact ⟨List.mem_cons_self ..,by rw [hx];exact hh⟩
   ·rw [if_neg ek] at hh;obtain ⟨a,b⟩:=vZ hh;exact ⟨List.mem_cons_of_mem _ a,b⟩
  ·obtain ⟨a,b⟩:=vZ hh;exact ⟨List.mem_cons_of_mem _ a,b⟩
def zN5 (P:Program) (f:FuncId) (args:List HV) (T:HS) (K:HV→Prop):Prop :=
 aE P f=true∧∃ h,K h∧∀ (c:Ctx) (look:Nat→Option Value) (w:World) (ρ:Nat→Value) (xs:Nat→List Value) (vs:List Value),Good c T look w ρ xs→vJ w (c.A ρ T.st) c.n0 ρ vs args →
  Calls P f vs.toArray w (Ret fun u w'=>RepH w' (c.A ρ T.st) c.n0 ρ u h∧Below w.heap.size w w')
def nZ:aK→Bool
|[]=>true
|(_,.v _) :: r=>nZ r
|(_,.lst _ _) :: r=>nZ r
|(_,.agg _) :: r=>nZ r
|_=>false
def zGt (d:Option Nat) (S:HS) (K:HS→Prop):HOut→Prop
|.go c (.own i) S'=>match rlk S'.st i with
 |some (.sl _ _ _ els)=>c∧K (S.set d (.lst true els))
 |_=>False
|_=>False
def zLd:Op→Bool
|.buildSlice ..=>true
|.makeSlice ..=>true
|_=>false
def qC7 (P:Program) (o:Oper) (S T:HS) (K:HS→Prop):HOut→Prop
|.go c h _=>match eT o.op with
 |true=>c∧K (S.set o.dst h)
 |false=>match zLd o.op && nZ T.env with
  |true=>zGt o.dst S K (hop P ⟨T.env,[]⟩ (sT o.dst) o.op)
  |false=>False
|.call f args=>zN5 P f args T (fun x=>mU K (S.set o.dst x))
|.eqn t x y neg=>∃ r,EqR P t x.toArray y.toArray r∧mU K (S.set o.dst (.v (.bool (neg ^^ r))))
|.bytes _ _=>False
|.bad=>False
def zC0 (P:Program) (N:Nat) (o:Oper) (S T:HS) (K:HS→Prop):Prop:=match fW N o.dst with
|true=>qC7 P o S T K (hop P T (sT o.dst) o.op)
|false=>False
def kD (P:Program) (N:Nat) (o:Oper) (S T:HS) (K:HS→Prop):GOut→Prop
|.yes=>zC0 P N o S T K
|.no=>nT N o.dst S K
|.ask d b want=>match b == want with
 |true=>zC0 P N o (S.rep d (.v (.bool want))) (T.rep d (.v (.bool want))) K
 |false=>nT N o.dst (S.rep d (.v (.bool (!want)))) K
|.bad=>False
def HVr (P:Program) (N:Nat) (ds:List (Option Nat)) (K:HS→Prop):List Oper→HS→Prop
|[],S=>K S
|o :: rest,S=>kD P N o S ⟨lB S.env (iW ds o.guard ++ bY o.op),S.st⟩ (HVr P N ds K rest) (hG (lB S.env (iW ds o.guard ++ bY o.op)) ds o.guard)
end Go.Eng
end

section
namespace Go.Eng
open Go Go.RowKit
section
variable {P:Program} {N:Nat} {c:Ctx} {S T:HS} {Q:gG} {l:Env} {look:Nat→Option Value} {w w':World} {ρ:Nat→Value} {xs:Nat→List Value} {K:HS→Prop}
theorem RepH.above {A:Nat→Prop} {n0:Nat} {v:Value} {x:HV} (h:RepH w A n0 ρ v x) (B:Below w.heap.size w w'):RepH w' A n0 ρ v x:=h.up B.size (fun b hlt _=>B.block b hlt) (fun b _ h=>h) (Nat.le_refl _)
theorem oD {d:Nat} {h:HV}:∀ {E:aK},hlk E d=some h→∀ k,hlk (vA d h E) k=hlk E k
|[],e,k=>by simp [hlk] at e
|(j,x) :: r,e,k=>by
  simp only [hlk] at e;simp only [vA]
  by_cases ej:j=d
  ·rw [if_pos ej] at e ⊢;simp only [Option.some.injEq] at e;subst e;rfl
  ·rw [if_neg ej] at e ⊢;simp only [hlk,oD e k]
theorem Good.sameEnv {E:aK} {st:aD} (G:Good c ⟨E,st⟩ look w ρ xs) {E':aK} (h:∀ k,hlk E' k=hlk E k):Good c ⟨E',st⟩ look w ρ xs:=⟨G.rows,G.apart,fun k x hk=>G.env k x (by rw [← h k];exact hk),G.kept,G.a0⟩
theorem zBb (G:Good c T (lk l) w ρ xs) {id i:Nat} {o:Op} {ty:TypeId} {cnd:Prop} {S':HS} (hp:nZ T.env=true) (h:hop P ⟨T.env,[]⟩ id o=.go cnd (.own i) S') {nw:Bool} {t sz:Nat} {els:List (List FV)} (hr:rlk S'.st i=some (.sl nw t sz els)) (hc:cnd) :
  aW P l o ty w (fun u w'=>RepH w' (c.A ρ T.st) c.n0 ρ u (.lst true els)∧Below w.heap.size w w') (fun u w'=>RepH w' (c.A ρ T.st) c.n0 ρ u (.lst true els)∧Below w.heap.size w w'):=by
 have hA:∀ b,c.A ρ T.st b→b < w.heap.size:=by
  rintro b (h0|⟨i,r,hi,hb⟩)
  ·have:=(G.a0 b h0).1;have:=G.kept.size;omega
  ·exact G.lt hi hb
 have G2:Good ⟨w,fun _=>False,c.A ρ T.st,c.n0,Nat.le_trans c.hn G.kept.size,fun _ _=>False⟩ ⟨T.env,[]⟩ (lk l) w ρ xs:=by
  refine ⟨fun id r hr=>by simp [rlk] at hr,fun i j r s b hne hi=>by simp [rlk] at hi,fun k x hk=>?_,Kept.refl _ _,fun b hb=>⟨hA b hb,fun h=>h⟩⟩
  obtain ⟨u,h1,h2⟩:=G.env k _ hk;refine ⟨u,h1,h2.up (Nat.le_refl _) (fun _ _ _=>rfl) (fun b _ hb=>?_) (Nat.le_refl _)⟩
  rcases hb with hb|⟨i,r,hi,-⟩
  ·exact hb
  ·simp [rlk] at hi
 refine bF (qR5 G2 (bX _ _) h hc) fun u w' ⟨ρ2,xs2,G3,r⟩=>?_
 have B:Below w.heap.size w w':=G3.kept.below (fun _ _ h=>h)
 refine ⟨?_,B⟩
 cases r
 obtain ⟨o1,o2,o3⟩:=dK G3 hr
 have R0:=G3.rows i _ hr
 refine .lst (qCf o1 o2 (fun p k hp hk=>?_) (fun b hb=>?_))
 ·obtain ⟨u,a,b,d⟩:=o3 p k hp hk;exact ⟨u,a,b,d.up (Nat.le_refl _) (fun _ _ _=>rfl) (fun b _ h=>.inl h) (Nat.le_refl _)⟩
 ·rcases (R0.new b hb).1 with h|h
  ·have h:w.heap.size≤b:=h
   exact ⟨fun hA'=>by have:=hA b hA';omega,fun _=>by have:=c.hn;have:=G.kept.size;omega⟩
  ·exact h.elim
theorem qC6 {o:Oper} (h:zC0 P N o S T K):jT N o.dst∧∃ x,K (S.set o.dst x)∧∀ (c:Ctx) (l:Env) (w:World) (ρ:Nat→Value) (xs:Nat→List Value),Good c T (lk l) w ρ xs →
  aW P l o.op o.type w (fun u w'=>RepH w' (c.A ρ T.st) c.n0 ρ u x∧Below w.heap.size w w') (fun u w'=>RepH w' (c.A ρ T.st) c.n0 ρ u x∧Below w.heap.size w w'):=by
 unfold zC0 at h;split at h
 ·rename_i hd;refine ⟨jH hd,?_⟩
  cases ho:hop P T (sT o.dst) o.op with
 |go c' hv S' =>
   rw [ho] at h;unfold qC7 at h;dsimp only at h;split at h
   ·rename_i hq;obtain ⟨h0,h1⟩:=h;refine ⟨hv,h1,fun c l w ρ xs G=>?_⟩
    obtain ⟨v,hK,hv'⟩:=zJy (ty:=o.type) (qLe (ty:=0) G (bX _ _) ho hq h0);exact bF (hv' w (Below.refl _ _)) fun u w' ⟨e,B⟩=>by subst e;exact ⟨hK.2.2.above B,B⟩
   ·split at h
    ·rename_i hm;simp only [Bool.and_eq_true] at hm;unfold zGt at h;split at h
     ·rename_i c2 i S2 hm2;split at h
      ·rename_i nw t sz els hr;exact ⟨_,h.2,fun c l w ρ xs G=>zBb G hm.2 hm2 hr h.1⟩
      ·exact h.elim
     ·exact h.elim
    ·exact h.elim
 |call f args =>
   rw [ho] at h;obtain ⟨hf,x,hK,hc⟩:=h;refine ⟨x,hK,fun c l w ρ xs G=>?_⟩
   obtain ⟨y,ay,ats,e,hfn,has⟩:=qFv ho;rw [e];obtain ⟨vs,e1,e2,e3⟩:=G.evs (bX _ _) has;unfold aW;simp only [aH,bZ,e1,G.fn (bX _ _) hfn];exact ⟨hf,hc c (lk l) w ρ xs vs G ⟨e2,e3⟩⟩
 |eqn t x y neg =>
   rw [ho] at h;obtain ⟨r,h1,h2⟩:=h;refine ⟨_,h2,fun c l w ρ xs G=>?_⟩
   exact bF (qLf G (bX _ l) ho h1) fun v w' ⟨e,_,r⟩=>by subst e;exact ⟨r,Below.refl _ _⟩
 |bytes ok s=>rw [ho] at h;exact h.elim
 |bad=>rw [ho] at h;exact h.elim
 ·exact h.elim
def FrOk (ops:List Oper) (E0:aK) (hs:Nat→HV) (i:Nat) (E:aK):Prop:=∀ t h,hlk E t=some h→(∃ j,j < i∧aM ops j=some t∧hs j=h)∨((∀ j,j < i→aM ops j≠some t)∧hlk E0 t=some h)
theorem FrOk.congr {ops:List Oper} {E0 E:aK} {hs hs':Nat→HV} {i:Nat} (h:FrOk ops E0 hs i E) (he:∀ j,j < i→hs' j=hs j):FrOk ops E0 hs' i E:=fun t x hx=>by
 rcases h t x hx with ⟨j,a,b,d⟩|r
 ·exact .inl ⟨j,a,b,by rw [he j a];exact d⟩
 ·exact .inr r
theorem FrOk.env {ops:List Oper} {E0 E E':aK} {hs:Nat→HV} {i:Nat} (h:FrOk ops E0 hs i E) (he:∀ t x,hlk E' t=some x→hlk E t=some x):FrOk ops E0 hs i E':=fun t x hx=>h t x (he t x hx)
theorem FrOk.set {ops:List Oper} {E0:aK} {hs:Nat→HV} {i:Nat} {S:HS} (h:FrOk ops E0 hs i S.env) {o:Oper} (ho:ops[i]?=some o):FrOk ops E0 hs (i + 1) (S.set o.dst (hs i)).env:=by
 have hd:aM ops i=o.dst:=by unfold aM;rw [ho];rfl
 intro t x hx
 cases e:o.dst with
|none =>
  rw [e] at hx hd
  rcases h t x hx with ⟨j,a,b,d⟩|⟨a,b⟩
  ·exact .inl ⟨j,by omega,b,d⟩
  ·refine .inr ⟨fun j hj=>?_,b⟩
   by_cases ej:j=i
   ·subst ej;rw [hd];simp
   ·exact a j (by omega)
|some d =>
  rw [e] at hx hd;simp only [HS.set,hlk] at hx
  by_cases et:d=t
  ·rw [if_pos et] at hx;simp only [Option.some.injEq] at hx;exact .inl ⟨i,by omega,by rw [hd,et],hx⟩
  ·rw [if_neg et] at hx
   rcases h t x hx with ⟨j,a,b,d'⟩|⟨a,b⟩
   ·exact .inl ⟨j,by omega,b,d'⟩
   ·refine .inr ⟨fun j hj=>?_,b⟩
    by_cases ej:j=i
    ·subst ej;rw [hd];simpa using et
    ·exact a j (by omega)
structure HeadOk (P:Program) (N:Nat) (ops:List Oper) (E0:aK) (st:aD) (hs:Nat→HV) (i:Nat) (o:Oper):Prop where
 lt:jT N o.dst
 head:∃ T:aK,FrOk ops E0 hs i T∧(∀ t h,hlk T t=some h→t ∈ iW (cT ops) o.guard ++ bY o.op)∧∀ (c:Ctx) (l:Env) (w:World) (ρ:Nat→Value) (xs:Nat→List Value),Good c ⟨T,st⟩ (lk l) w ρ xs →
  ∃ b,gd l (cT ops) o.guard (·=b)∧(b=true→aW P l o.op o.type w (fun u w'=>RepH w' (c.A ρ st) c.n0 ρ u (hs i)∧Below w.heap.size w w') (fun u w'=>RepH w' (c.A ρ st) c.n0 ρ u (hs i)∧Below w.heap.size w w'))∧(b=false→hs i=.v undef)
theorem qAg {d:Option Nat} (h:nT N d S K):jT N d∧K (S.set d (.v undef)):=by
 unfold nT at h;split at h
 ·rename_i hd;exact ⟨jH hd,h⟩
 ·exact h.elim
theorem qHt {ops:List Oper} {E0:aK} {st:aD}:∀ (rest:List Oper) (i:Nat) (S:HS) (hs0:Nat→HV),(∀ k o,rest[k]?=some o→ops[i + k]?=some o)→S.st=st→FrOk ops E0 hs0 i S.env→HVr P N (cT ops) K rest S →
  ∃ hs,(∀ j,j < i→hs j=hs0 j)∧(∀ k o,rest[k]?=some o→HeadOk P N ops E0 st hs (i + k) o)∧∃ S',S'.st=st∧FrOk ops E0 hs (i + rest.length) S'.env∧K S'
|[],i,S,hs0,hops,hst,F,h=>⟨hs0,fun _ _=>rfl,fun k o hk=>by simp at hk,S,hst,F,h⟩
|o :: rest,i,S,hs0,hops,hst,F,h=>by
  have hoi:ops[i]?=some o:=hops 0 o (by simp)
  rw [HVr] at h;generalize hT:lB S.env (iW (cT ops) o.guard ++ bY o.op)=T at h
  have TF:∀ t x,hlk T t=some x→t ∈ iW (cT ops) o.guard ++ bY o.op∧hlk S.env t=some x:=fun t x hx=>by subst hT;exact vZ hx
  have key:∀ (S1:HS) (x:HV),S1.st=st→FrOk ops E0 hs0 i S1.env→HVr P N (cT ops) K rest (S1.set o.dst x)→jT N o.dst →
    (∀ (c:Ctx) (l:Env) (w:World) (ρ:Nat→Value) (xs:Nat→List Value),Good c ⟨T,st⟩ (lk l) w ρ xs →
     ∃ b,gd l (cT ops) o.guard (·=b)∧(b=true→aW P l o.op o.type w (fun u w'=>RepH w' (c.A ρ st) c.n0 ρ u x∧Below w.heap.size w w') (fun u w'=>RepH w' (c.A ρ st) c.n0 ρ u x∧Below w.heap.size w w'))∧(b=false→x=.v undef)) →
    ∃ hs,(∀ j,j < i→hs j=hs0 j)∧(∀ k o',(o :: rest)[k]?=some o'→HeadOk P N ops E0 st hs (i + k) o')∧∃ S',S'.st=st∧FrOk ops E0 hs (i + (o :: rest).length) S'.env∧K S':=by
   intro S1 x hst1 F1 hK hlt hrun
   let hs1:Nat→HV:=fun j=>if j=i then x else hs0 j
   have e1:hs1 i=x:=if_pos rfl
   have e2:∀ j,j < i→hs1 j=hs0 j:=fun j hj=>if_neg (by omega)
   have F2:FrOk ops E0 hs1 (i + 1) (S1.set o.dst x).env:=by
    have:=(F1.congr e2).set hoi
    rw [e1] at this;exact this
   obtain ⟨hs,a,b,S',d,e,f⟩:=qHt rest (i + 1) (S1.set o.dst x) hs1 (fun k o' hk=>by
    have:=hops (k + 1) o' (by simpa using hk)
    rw [show i + 1 + k=i + (k + 1) by omega];exact this) (by cases o.dst <;> exact hst1) F2 hK
   have ei:hs i=x:=by rw [a i (by omega),e1]
   have ej:∀ j,j < i→hs j=hs0 j:=fun j hj=>by rw [a j (by omega),e2 j hj]
   refine ⟨hs,ej,fun k o' hk=>?_,S',d,?_,f⟩
   ·cases k with
   |zero =>
     simp only [List.getElem?_cons_zero,Option.some.injEq] at hk;subst hk;exact ⟨hlt,T,(F.congr ej).env (fun t x hx=>(TF t x hx).2),fun t x hx=>(TF t x hx).1,by rw [Nat.add_zero,ei];exact hrun⟩
   |succ k =>
     have:=b k o' (by simpa using hk)
     rw [show i + 1 + k=i + (k + 1) by omega] at this;exact this
   ·rw [List.length_cons,show i + (rest.length + 1)=i + 1 + rest.length by omega];exact e
  cases hg:hG T (cT ops) o.guard with
 |yes =>
   rw [hg] at h;obtain ⟨hlt,x,hK,hv⟩:=qC6 h;refine key S x hst F hK hlt fun c l w ρ xs G=>⟨true,qQa (S:=⟨T,st⟩) hg rfl,fun _=>?_,fun e=>by cases e⟩
   have:=hv c l w ρ xs (by rw [hst];exact G)
   rw [hst] at this;exact this
 |no =>
   rw [hg] at h;obtain ⟨hlt,hK⟩:=qAg h;exact key S _ hst F hK hlt fun c l w ρ xs G=>⟨false,zFn (S:=⟨T,st⟩) ⟨ρ,xs,G⟩ hg rfl,fun e=>(by cases e),fun _=>rfl⟩
 |ask d b want =>
   rw [hg] at h;obtain ⟨j,hj,hd,hb⟩:=zCg (S:=⟨T,st⟩) hg
   have hbS:=(TF d _ hb).2
   simp only [kD] at h;split at h
   ·rename_i e
    have e':b=want:=by simpa using e
    subst e';obtain ⟨hlt,x,hK,hv⟩:=qC6 h;refine key (S.rep d (.v (.bool b))) x hst (F.env fun t x hx=>by rw [← oD hbS t];exact hx) hK hlt fun c l w ρ xs G=>⟨true,(yR (S:=⟨T,st⟩) ⟨ρ,xs,G⟩ hg (k:=(·=true)) e).1,fun _=>?_,fun e=>by cases e⟩
    have:=hv c l w ρ xs (by rw [hst];exact G.sameEnv (oD hb))
    simp only [HS.rep] at this;rw [hst] at this;exact this
   ·rename_i e
    have e':b=!want:=by cases b <;> cases want <;> simp_all
    subst e';obtain ⟨hlt,hK⟩:=qAg h;exact key (S.rep d (.v (.bool (!want)))) _ hst (F.env fun t x hx=>by rw [← oD hbS t];exact hx) hK hlt fun c l w ρ xs G=>⟨false,(yR (S:=⟨T,st⟩) ⟨ρ,xs,G⟩ hg (k:=(·=false)) e).1,fun e=>(by cases e),fun _=>rfl⟩
 |bad=>rw [hg] at h;exact h.elim
end
end Go.Eng
end

section
namespace Go.Eng
open Go Go.RowKit
section
variable {P:Program} {N:Nat} {c:Ctx} {S T:HS} {Q:gG} {l:Env} {look:Nat→Option Value} {w w':World} {ρ:Nat→Value} {xs:Nat→List Value} {K:HS→Prop}
theorem uA {ops:List Oper} {o:Oper} {t:Nat} (h:t ∈ iW (cT ops) o.guard ++ bY o.op):t ∈ o.looksAt ops.toArray:=by
 rcases List.mem_append.1 h with h|h
 ·cases hg:o.guard with
 |none=>rw [hg] at h;simp [iW] at h
 |some p =>
   obtain ⟨g,b⟩:=p;rw [hg] at h;simp only [iW] at h;split at h
   ·rename_i d hd;simp only [List.mem_singleton] at h;subst h;refine jY hg ?_;unfold aM;simp only [cT,List.getElem?_map,Option.map_eq_some_iff] at hd;obtain ⟨x,hx,hx'⟩:=hd;simp [hx,hx']
   ·simp at h
 ·exact wG (qW3 h)
theorem wT {x:HV} {k:Nat}:∀ {e:aK},hlk e k=some x→k ∈ bU e
|[],h=>by simp [hlk] at h
|(j,y) :: r,h=>by
  simp only [hlk] at h
  by_cases ej:j=k
  ·simp [bU,ej]
  ·rw [if_neg ej] at h
   have:=wT h
   simp only [bU,List.map_cons,List.mem_cons];exact .inr this
theorem zQu {id:Nat} {ops:List Oper} (n:Nat) (hm:P.follows .mixedOrders=true) (hok:qA4 (bU S.env) ops n=true)
  (h:∀ K:HS→Prop,(∀ S',Q .normal S'→K S')→HVr P N (cT ops) (fun S'=>mU (HV2 P N (cT ops) K (ops.drop n)) S') (ops.take n) S):HW P N (.region id ops.toArray true) Q S:=fun c l w I=>by
 have hks:∀ k ∈ bU S.env,∃ v,lk l k=some v:=fun k hk=>by
  obtain ⟨x,hx⟩:=qM hk;obtain ⟨ρ,xs,G⟩:=I;obtain ⟨v,h1,-⟩:=G.env k x hx;exact ⟨v,h1⟩
 refine qEk (bU S.env) ?_
 have I':Inv c S (lk (keep (bU S.env) l)) w:=I.agree fun k x hk=>qB (wT hk)
 have hkk:uC (keep (bU S.env) l)=bU S.env:=rW hks
 generalize keep (bU S.env) l=l' at I' hkk;obtain ⟨ρ,xs,G⟩:=I'
 have ok:=rF hok
 have hlen:(ops.take n).length=n:=by rw [List.length_take];have:=ok.hn;omega
 have get_take:∀ {i:Nat} {o:Oper},(ops.take n)[i]?=some o→i < n∧ops[i]?=some o:=fun {i o} h=>by
  have hi:=(List.getElem?_eq_some_iff.1 h).1
  rw [hlen] at hi;rw [List.getElem?_take_of_lt hi] at h;exact ⟨hi,h⟩
 obtain ⟨hs,-,heads,S1,e1,F1,h1⟩:=qHt (E0:=S.env) (st:=S.st) (ops.take n) 0 S (fun _=>.junk) (fun k o hk=>by rw [Nat.zero_add];exact (get_take hk).2) rfl (fun t x hx=>.inr ⟨fun j hj=>absurd hj (Nat.not_lt_zero _),hx⟩) (h (Q .normal) fun _ h=>h)
 rw [hlen,Nat.zero_add] at F1
 have head:∀ i o,i < n→ops[i]?=some o→HeadOk P N ops S.env S.st hs i o:=fun i o hi ho=>by
  have:=heads i o (by rw [List.getElem?_take_of_lt hi];exact ho)
  rw [Nat.zero_add] at this;exact this
 have uniq:∀ i j t,i < n→j < n→aM ops i=some t→aM ops j=some t→i=j:=by
  intro i j t hi hj h1 h2
  rcases Nat.lt_trichotomy i j with h|h|h
  ·rcases ok.uniq j i hj h with e|e
   ·rw [h2] at e;cases e
   ·exact absurd (h2.trans h1.symm) e
  ·exact h
  ·rcases ok.uniq i j hi h with e|e
   ·rw [h1] at e;cases e
   ·exact absurd (h1.trans h2.symm) e
 have hlt:DLt N ops n:=fun i t hi hd=>by
  obtain ⟨o,ho,hod⟩:=tC hd
  have:=(head i o hi ho).lt
  rw [hod] at this;exact this
 -- what a frame of the heads' names reads
 have frame:∀ (vs:Nat→Value) (w':World) (i:Nat) (E:aK),i≤n→Below w.heap.size w w'→FrOk ops S.env hs i E →
   (∀ j t x,j < i→aM ops j=some t→hlk E t=some x→RepH w' (c.A ρ S.st) c.n0 ρ (vs j) (hs j))→Good c ⟨E,S.st⟩ (lk (iH l' ops vs i)) w' ρ xs:=fun vs w' i E hi hB F hv=>by
  have GB:=G.below hB
  refine ⟨GB.rows,GB.apart,fun k x hk=>?_,GB.kept,GB.a0⟩
  rcases F k x hk with ⟨j,a,b,d⟩|⟨a,b⟩
  ·refine ⟨vs j,(lP (l:=l') (vs:=vs) hlt (base:=Array.replicate N undef) (by simp) b (fun q hq hne e=>hne (uniq q j k hq (by omega) e b)) i hi a).1,?_⟩
   rw [← d];exact hv j k x a b hk
  ·obtain ⟨v,v1,v2⟩:=GB.env k x b;exact ⟨v,by rw [(nP (l:=l') (vs:=vs) #[] k i a).1];exact v1,v2⟩
 refine zNv (bU S.env) n hm hkk hok hlt (C:=fun w'=>Below w.heap.size w w') (R:=fun j u w'=>RepH w' (c.A ρ S.st) c.n0 ρ u (hs j)) (Below.refl _ _).drew (fun i u w1 w2 _ hr hB=>hr.above hB) ?_ ?_
 ·intro i o hi ho vs w1 hC hR;obtain ⟨T,TF,TS,run⟩:=(head i o hi ho).head
  have GT:Good c ⟨T,S.st⟩ (lk (iH l' ops vs i)) w1 ρ xs:=frame vs w1 i T (by omega) hC TF fun j t x hj hd hx=>hR j t hj hd (uA (TS t x hx))
  obtain ⟨b,b1,b2,b3⟩:=run c _ w1 ρ xs GT;refine ⟨b,b1,fun hb=>?_,fun hb=>?_⟩
  ·exact (lU (fun x X hx=>by simp [evD,hx]) (b2 hb)).mono fun u w2 ⟨hu,hB⟩=>⟨hu,hC.trans (hB.mono hC.size),hB⟩
  ·rw [b3 hb];exact .v _
 ·intro vs w1 hC hR;obtain ⟨E1,st1⟩:=S1
  have e1:st1=S.st:=e1
  subst e1
  have G1:=frame vs w1 n E1 (Nat.le_refl _) hC F1 fun j t x hj _ _=>hR j hj
  exact HW_drw.V2.mono' (qAf _ _ _ _ h1 ⟨ρ,xs,G1⟩) fun l2 w2 h2=>h2
theorem zW0 {f:FuncId} {args args':List HV} {x:HV} {K:HV→Prop} (hc:aE P f=true) (H:HFun P f args' (fun h st=>h=x∧st=[])) (hf:FreshH x) (hn:∀ ρ ρ':Nat→Value,∀ (w:World) (A:Nat→Prop) (n:Nat) (v:Value),RepH w A n ρ v x→RepH w A n ρ' v x) (hl:Lends T.st args args') (hK:K x):zN5 P f args T K :=
 ⟨hc,x,hK,fun c look w ρ xs vs G R=>Ret.mono (H w vs (mM G R hl)) fun v w' ⟨B,h,st,h8,⟨e1,e2⟩,ρ',xs',G',hr⟩=>⟨by
  subst e1;subst e2
  have hw:c.n0≤w.heap.size:=Nat.le_trans c.hn G.kept.size
  refine hn ρ' ρ _ _ _ _ (hr.up (Nat.le_refl _) (fun _ _ _=>rfl) (fun b _ hA=>?_) hw)
  left
  show b < w.heap.size
  rcases hA with h0|⟨i,r,hi,hb⟩
  ·have:=(G.a0 b h0).1;have:=G.kept.size;omega
  ·exact G.lt hi hb,B⟩⟩
end
end Go.Eng
end

section
namespace Go.Eng
open Go Go.RowKit
section
variable {P:Program} {T:HS}
theorem zL7 {f:FuncId} {args args':List HV} {ty sz:Nat} {els:List (List FV)} {K:HV→Prop} (hc:aE P f=true) (H:HFun P f args' (fun h st=>h=.own 0∧st=[(0,.sl true ty sz els)])) (hl:Lends T.st args args') (hK:K (.lst true els)):zN5 P f args T K :=
 ⟨hc,_,hK,fun c look w ρ xs vs G R=>Ret.mono (H w vs (mM G R hl)) fun v w' ⟨B,h,st,h8,⟨e1,e2⟩,ρ',xs',G',hr⟩=>⟨by
  subst e1;subst e2
  have hw:c.n0≤w.heap.size:=Nat.le_trans c.hn G.kept.size
  have hA:∀ b,c.A ρ T.st b→b < w.heap.size:=by
   rintro b (h0|⟨i,r,hi,hb⟩)
   ·have:=(G.a0 b h0).1;have:=G.kept.size;omega
   ·exact G.lt hi hb
  have e0:rlk (HS.st ⟨[],[(0,Row.sl true ty sz els)]⟩) 0=some (.sl true ty sz els):=rfl
  cases hr
  obtain ⟨o1,o2,o3⟩:=dK G' e0
  have R0:=G'.rows 0 _ e0
  refine .lst (qCf o1 o2 (fun p k hp hk=>?_) (fun b hb=>?_))
  ·obtain ⟨u,a,b,d⟩:=o3 p k hp hk;exact ⟨u,a,b,d.up (Nat.le_refl _) (fun _ _ _=>rfl) (fun b _ h=>.inl (hA b h)) hw⟩
  ·rcases (R0.new b hb).1 with h|h
   ·have h:w.heap.size≤b:=h
    exact ⟨fun hA'=>by have:=hA b hA';omega,fun _=>by omega⟩
   ·exact h.elim,B⟩⟩
end
end Go.Eng
end

section
namespace Go.Eng
open Go Go.RowKit
theorem zS (t:Nat):hlk [] t=none:=nr rfl
theorem zM (k:Nat) (v:HV) (r:aK) (t:Nat):hlk ((k,v) :: r) t=if k=t then some v else hlk r t:=nr rfl
theorem zX (t:Nat):rlk [] t=none:=nr rfl
theorem zU (k:Nat) (v:Row) (r:aD) (t:Nat):rlk ((k,v) :: r) t=if k=t then some v else rlk r t:=nr rfl
theorem zFb (l:aK) (t:Nat):hev l (.tmp t)=hlk l t:=nr rfl
theorem qT3 (l:aK) (v:Value):hev l (.const v)=some (.v v):=nr rfl
theorem qNq (l:aK) (g:Nat):hev l (.global g)=some (.v (.pointer (some ⟨g,0,none⟩))):=nr rfl
theorem qY8 (l:aK) (f:FuncId):hev l (.func f)=some (.v (.func (.func f) #[] #[])):=nr rfl
theorem qY7 (l:aK):lL l []=some []:=nr rfl
theorem qT2 (l:aK) (x:Operand) (r:List Operand):lL l (x :: r)=match hev l x with|some v=>(match lL l r with|some vs=>some (v :: vs)|none=>none)|none=>none:=nr rfl
theorem zLe (x:Value):qHg (some (.v x))=some x:=nr rfl
theorem qS8  : qHg none=none:=nr rfl
theorem qX8 (fr:Bool) (xs:List (List FV)):qHg (some (.lst fr xs))=none:=nr rfl
theorem qX7 (i:Nat):qHg (some (.own i))=none:=nr rfl
theorem qX6 (i s j k:Nat):qHg (some (.ptr i s j k))=none:=nr rfl
theorem qX9 (fr:Bool) (xs:List (List FV)) (s j k:Nat):qHg (some (.elt fr xs s j k))=none:=nr rfl
theorem qYa (cs:List HV):qHg (some (.agg cs))=none:=nr rfl
theorem qX5 (cs:List HV):qHg (some (.tup cs))=none:=nr rfl
theorem zEm (i s o n:Nat):qHg (some (.vw i s o n))=none:=nr rfl
theorem qS9  : qHg (some .junk)=none:=nr rfl
theorem qPh (S:HS) (id:Nat) (P:Program) (o:Op) (c:Prop) (v:Value):pU S id P o (some (c,v))=.go c (.v v) S:=nr rfl
theorem qPi (S:HS) (id:Nat) (P:Program) (o:Op):pU S id P o none=iN P S id o:=nr rfl
theorem zLv (P:Program) (S:HS) (id:Nat) (o:Op):hop P S id o=pU S id P o (aH P (lo S.env) o):=nr rfl
theorem qT7 (P:Program) (S:HS) (id:Nat) (x:Operand):iN P S id (.move x)=qAj S (hev S.env x):=nr rfl
theorem qJs (P:Program) (S:HS) (id:Nat) (x:Operand):iN P S id (.assign x)=qAj S (hev S.env x):=nr rfl
theorem qT5 (P:Program) (S:HS) (id:Nat) (c a b:Operand):iN P S id (.pick c a b)=qF2 S (hev S.env c) (hev S.env a) (hev S.env b):=nr rfl
theorem qF0 (P:Program) (S:HS) (id:Nat) (x:Operand) (i:Nat):iN P S id (.extract x i)=nL S i (hev S.env x):=nr rfl
theorem qNw (P:Program) (S:HS) (id:Nat) (t:TypeId) (x:Operand) (f:Nat):iN P S id (.field t x f)=vF S (qF9 P t f) (hev S.env x):=nr rfl
theorem qNx (P:Program) (S:HS) (id:Nat) (t:TypeId) (x:Operand) (f:Nat):iN P S id (.fieldAddr t x f)=vG S (fR P t f) (hev S.env x):=nr rfl
theorem qT6 (P:Program) (S:HS) (id:Nat) (x:Operand):iN P S id (.nilCheck x)=qRi S (hev S.env x):=nr rfl
theorem qNv (P:Program) (S:HS) (id:Nat) (t:TypeId) (x i:Operand):iN P S id (.indexAddr t x i)=oE S (bG P t) (qGx P t) (hev S.env x) (hev S.env i):=nr rfl
theorem qNs (P:Program) (S:HS) (id:Nat) (t:TypeId) (x:Operand) (l h:Option Operand):iN P S id (.slice t x l h none)=sU S (bG P t) l h (hev S.env x):=nr rfl
theorem qT8 (P:Program) (S:HS) (id:Nat) (t:TypeId) (x:Operand):iN P S id (.load t x)=uH S (bJ P t) (hev S.env x):=nr rfl
theorem qNr (P:Program) (S:HS) (id:Nat) (t:TypeId) (x y:Operand):iN P S id (.store t x y)=vD S (bJ P t) (hev S.env x) (hev S.env y):=nr rfl
theorem qN1 (P:Program) (S:HS) (id:Nat) (t:TypeId):iN P S id (.alloc t)=pP S id t (eR P t):=nr rfl
theorem qZc (P:Program) (S:HS) (id:Nat) (t:TypeId) (x:Operand):iN P S id (.box t x)=qZt S id t (hev S.env x):=nr rfl
theorem qN0 (P:Program) (S:HS) (id:Nat) (t:TypeId) (ps:Array (Nat × Operand)):iN P S id (.build t ps)=xY S (cF P t) (cK P t) (eR P t) (jX S.env ps.toList):=nr rfl
theorem qJr (P:Program) (S:HS) (id:Nat) (t n:TypeId) (ps:Array (Nat × Operand)):iN P S id (.buildSlice t n ps)=mC S id n (jU P t) (jX S.env ps.toList):=nr rfl
theorem qNt (P:Program) (S:HS) (id:Nat) (t:TypeId) (x y:Operand):iN P S id (.makeSlice t x y)=qJ0 S id (jU P t) (hev S.env x) (hev S.env y):=nr rfl
theorem qZa (P:Program) (S:HS) (id:Nat) (args:Array Operand) (ats:Array TypeId):iN P S id (.call ⟨.builtin .len,args,ats⟩)=match lL S.env args.toList with|some [h]=>qPo S (cA ((bG P (eN ats)).isSome=true∧ats.size=1)) (some h)|_=>.bad:=nr rfl
theorem qZd (P:Program) (S:HS) (id:Nat) (args:Array Operand) (ats:Array TypeId):iN P S id (.call ⟨.builtin .append,args,ats⟩)=kJ S id (ats == #[eN ats,eN ats]) (zA8 P ats) (jU P (eN ats)) (lL S.env args.toList):=nr rfl
theorem qNz (P:Program) (S:HS) (id:Nat) (f:FuncId) (args:Array Operand) (ats:Array TypeId):iN P S id (.call ⟨.value (.func f),args,ats⟩)=qJ5 f (lL S.env args.toList):=nr rfl
theorem qZb (P:Program) (S:HS) (id:Nat) (t:TypeId) (x y:Operand) (u:TypeId):iN P S id (.binOp .eql t x y u)=hEq S (qKi P t) t false (hev S.env x) (hev S.env y):=nr rfl
theorem qY9 (P:Program) (S:HS) (id:Nat) (t:TypeId) (x y:Operand) (u:TypeId):iN P S id (.binOp .neq t x y u)=hEq S (qKi P t) t true (hev S.env x) (hev S.env y):=nr rfl
theorem qUa (P:Program) (S:HS) (id:Nat) (s d:TypeId) (x:Operand):iN P S id (.convert s d x)=uN S (qEf P s d) (qQt P s d) (hev S.env x):=nr rfl
theorem qZj (S:HS) (h:HV):qAj S (some h)=.go True h S:=nr rfl
theorem qZg (S:HS) (t:Bool) (a b:HV):qF2 S (some (.v (.bool t))) (some a) (some b)=.go True (bif t then a else b) S:=nr rfl
theorem qJ2 (S:HS) (i:Nat) (hs:List HV):nL S i (some (.tup hs))=match hs[i]? with|some h=>.go True h S|none=>.bad:=nr rfl
theorem qNu (P:Program) (S:HS) (id:Nat) (t:TypeId) (x i:Operand):iN P S id (.index t x i)=qF S (qQ6 P t) (hev S.env x) (hev S.env i):=nr rfl
theorem qJ1 (S:HS) (m:Nat) (hs:List HV) (k:IntKind) (n:Int):qF S (some m) (some (.agg hs)) (some (.v (.int k n)))=match hs[n.toNat]? with|some h=>.go (cA (0≤n∧n < m)) h S|none=>.bad:=nr rfl
theorem qP0 (S:HS) (off:Nat) (hs:List HV):vF S (some (off,none)) (some (.agg hs))=match hs[off]? with|some h=>.go True h S|none=>.bad:=nr rfl
theorem qPz (S:HS) (off n:Nat) (hs:List HV):vF S (some (off,some n)) (some (.agg hs))=.go (cA (off + n≤hs.length)) (.agg ((hs.drop off).take n)) S:=nr rfl
theorem qP1 (S:HS) (off id sz i k:Nat):vG S (some off) (some (.ptr id sz i k))=.go True (.ptr id sz i (k + off)) S:=nr rfl
theorem qP2 (S:HS) (off:Nat) (fr:Bool) (xs:List (List FV)) (sz i k:Nat):vG S (some off) (some (.elt fr xs sz i k))=.go True (.elt fr xs sz i (k + off)) S:=nr rfl
theorem qZh (S:HS) (id sz i k:Nat):qRi S (some (.ptr id sz i k))=.go True (.ptr id sz i k) S:=nr rfl
theorem qZi (S:HS) (fr:Bool) (xs:List (List FV)) (sz i k:Nat):qRi S (some (.elt fr xs sz i k))=.go True (.elt fr xs sz i k) S:=nr rfl
theorem qPq (S:HS) (id:Nat) (us ua:Option (Nat × Nat)) (kk:IntKind) (n:Int):oE S us ua (some (.own id)) (some (.v (.int kk n)))=qG S id n us (rlk S.st id):=nr rfl
theorem qPr (S:HS) (fr:Bool) (xs:List (List FV)) (us ua:Option (Nat × Nat)) (kk:IntKind) (n:Int):oE S us ua (some (.lst fr xs)) (some (.v (.int kk n)))=uL S fr xs n us:=nr rfl
theorem qPp (S:HS) (id sz i k:Nat) (us ua:Option (Nat × Nat)) (kk:IntKind) (n:Int):oE S us ua (some (.ptr id sz i k)) (some (.v (.int kk n)))=uK S id sz i k n ua:=nr rfl
theorem qPs (S:HS) (fr:Bool) (xs:List (List FV)) (sz i k:Nat) (us ua:Option (Nat × Nat)) (kk:IntKind) (n:Int):oE S us ua (some (.elt fr xs sz i k)) (some (.v (.int kk n)))=uM S fr xs sz i k n ua:=nr rfl
theorem qPv (S:HS) (id:Nat) (n:Int) (e sz:Nat) (nw:Bool) (ty s:Nat) (els:List (List FV)):qG S id n (some (e,sz)) (some (.sl nw ty s els))=.go (cA (sz=s∧0≤n∧n < els.length)) (.ptr id s n.toNat 0) S:=nr rfl
theorem qPx (S:HS) (fr:Bool) (xs:List (List FV)) (n:Int) (e sz:Nat):uL S fr xs n (some (e,sz))=.go (cA (0≤n∧n < xs.length)∧Wid sz xs) (.elt fr xs sz n.toNat 0) S:=nr rfl
theorem qPw (S:HS) (id sz i k:Nat) (n:Int) (len size:Nat):uK S id sz i k n (some (len,size))=.go (cA (0≤n∧n < len)) (.ptr id sz i (k + n.toNat * size)) S:=nr rfl
theorem qPy (S:HS) (fr:Bool) (xs:List (List FV)) (sz i k:Nat) (n:Int) (len size:Nat):uM S fr xs sz i k n (some (len,size))=.go (cA (0≤n∧n < len)) (.elt fr xs sz i (k + n.toNat * size)) S:=nr rfl
theorem zFe (S:HS) (c:Prop) (i s o n:Nat):qPo S c (some (.vw i s o n))=.go c (.v (.int .i64 n)) S:=nr rfl
theorem qPd (S:HS) (us:Option (Nat × Nat)) (l h:Option Operand) (id:Nat):sU S us l h (some (.own id))=uF S id (mE (lo S.env) l 0) (mE (lo S.env) h (zPm (rlk S.st id))) us (rlk S.st id):=nr rfl
theorem qUf (S:HS) (us:Option (Nat × Nat)) (l h:Option Operand) (id sz off n:Nat):sU S us l h (some (.vw id sz off n))=uE S id sz off (mE (lo S.env) l 0) (mE (lo S.env) h n) us (rlk S.st id):=nr rfl
theorem qPf (S:HS) (id:Nat) (a b:Int) (e sz:Nat) (nw:Bool) (ty s:Nat) (els:List (List FV)):uF S id (some a) (some b) (some (e,sz)) (some (.sl nw ty s els))=.go (cA (sz=s∧0≤a∧a≤b∧b≤els.length)) (.vw id s a.toNat (b.toNat - a.toNat)) S:=nr rfl
theorem qPe (S:HS) (id sz off:Nat) (a b:Int) (e sz':Nat) (nw:Bool) (ty s:Nat) (els:List (List FV)):uE S id sz off (some a) (some b) (some (e,sz')) (some (.sl nw ty s els))=.go (cA (sz'=sz∧s=sz∧0≤a∧a≤b∧off + b≤els.length)) (.vw id sz (off + a.toNat) (b.toNat - a.toNat)) S:=nr rfl
theorem zDh (nw:Bool) (ty s:Nat) (els:List (List FV)):zPm (some (.sl nw ty s els))=els.length:=nr rfl
theorem qUm (S:HS) (id s off m:Nat) (us ua:Option (Nat × Nat)) (kk:IntKind) (n:Int):oE S us ua (some (.vw id s off m)) (some (.v (.int kk n)))=uJ S id s off m n us (rlk S.st id):=nr rfl
theorem qPt (S:HS) (id s off m:Nat) (n:Int) (e sz:Nat) (nw:Bool) (ty s':Nat) (els:List (List FV)):uJ S id s off m n (some (e,sz)) (some (.sl nw ty s' els))=.go (cA (sz=s∧s'=s∧0≤n∧n < m)) (.ptr id s (off + n.toNat) 0) S:=nr rfl
theorem qSy (st:aD) (sz id s off n:Nat):mG st sz (.vw id s off n)=match rlk st id with|some (.sl _ _ s' els)=>some (cA (s=sz∧s'=sz),(els.drop off).take n)|_=>none:=nr rfl
theorem qUb (i s o n:Nat):dZ (.vw i s o n)=some [.vw i s o n]:=nr rfl
theorem zE3 (i s o n:Nat):(HV.vw i s o n).one=true:=nr rfl
theorem cM (p:Nat→Bool) (i s o n:Nat):HV.kill p (.vw i s o n)=bif p i then .junk else .vw i s o n:=by rw [HV.kill]
theorem mB (m:Nat→Option Nat) (i s o n:Nat):HV.ren m (.vw i s o n)=match m i with|some j=>.vw j s o n|none=>.junk:=by rw [HV.ren];cases m i <;> rfl
theorem mA (id:Nat) (x0:HV) (i s o n:Nat):HV.sub id x0 (.vw i s o n)=if i=id then zJu x0 s o n else .vw i s o n:=by rw [HV.sub]
theorem qSq (i s o n:Nat):xT (.vw i s o n)=[]:=nr rfl
theorem qMj (i s o n:Nat):qCk (.vw i s o n)=[]:=nr rfl
theorem qZl (S:HS) (c:Prop) (id:Nat):qPo S c (some (.own id))=qF3 S c (rlk S.st id):=nr rfl
theorem qZm (S:HS) (c:Prop) (fr:Bool) (xs:List (List FV)):qPo S c (some (.lst fr xs))=.go c (.v (.int .i64 xs.length)) S:=nr rfl
theorem qZn (S:HS) (c:Prop) (nw:Bool) (ty s:Nat) (els:List (List HV)):qF3 S c (some (.hl nw ty s els))=.go c (.v (.int .i64 els.length)) S:=nr rfl
theorem qPu (S:HS) (id:Nat) (n:Int) (e sz:Nat) (nw:Bool) (ty s:Nat) (els:List (List HV)):qG S id n (some (e,sz)) (some (.hl nw ty s els))=.go (cA (sz=s∧0≤n∧n < els.length)) (.ptr id s n.toNat 0) S:=nr rfl
theorem qZo (S:HS) (c:Prop) (nw:Bool) (ty s:Nat) (els:List (List FV)):qF3 S c (some (.sl nw ty s els))=.go c (.v (.int .i64 els.length)) S:=nr rfl
theorem qUg (S:HS) (us:Option (Nat × Nat)) (l h:Option Operand) (fr:Bool) (xs:List (List FV)):sU S us l h (some (.lst fr xs))=uG S fr xs (mE (lo S.env) l 0) (mE (lo S.env) h xs.length) us:=nr rfl
theorem qPg (S:HS) (fr:Bool) (xs:List (List FV)) (a b:Int) (e sz:Nat):uG S fr xs (some a) (some b) (some (e,sz))=.go (cA (0≤a∧a≤b∧b≤xs.length)∧Wid sz xs) (.lst fr ((xs.take b.toNat).drop a.toNat)) S:=nr rfl
theorem qUh (S:HS) (kt:Option (Option Nat)) (id sz i k:Nat):uH S kt (some (.ptr id sz i k))=nK S sz i k kt (rlk S.st id):=nr rfl
theorem qUi (S:HS) (kt:Option (Option Nat)) (fr:Bool) (xs:List (List FV)) (sz i k:Nat):uH S kt (some (.elt fr xs sz i k))=vE S xs i k kt:=nr rfl
theorem qUj (S:HS) (sz i k:Nat) (nw:Bool) (ty s:Nat) (els:List (List FV)):nK S sz i k (some none) (some (.sl nw ty s els))=.go (cA (sz=s∧i < els.length∧k < (els.getD i []).length)) ((els.getD i []).getD k default).h S:=nr rfl
theorem qPj (S:HS) (sz i k n:Nat) (nw:Bool) (ty s:Nat) (els:List (List FV)):nK S sz i k (some (some n)) (some (.sl nw ty s els))=.go (cA (sz=s∧i < els.length∧k + n≤(els.getD i []).length)) (.agg ((((els.getD i []).drop k).take n).map FV.h)) S:=nr rfl
theorem qUl (S:HS) (sz i k:Nat) (nw:Bool) (ty:Nat) (cells:List HV):nK S sz i k (some none) (some (.bx nw ty cells))=.go (cA (i=0∧k < cells.length)) (cells.getD k .junk) S:=nr rfl
theorem qPl (S:HS) (sz i k n:Nat) (nw:Bool) (ty:Nat) (cells:List HV):nK S sz i k (some (some n)) (some (.bx nw ty cells))=.go (cA (i=0∧k + n≤cells.length)) (.agg ((cells.drop k).take n)) S:=nr rfl
theorem qUk (S:HS) (sz i k:Nat) (nw:Bool) (ty s:Nat) (els:List (List HV)):nK S sz i k (some none) (some (.hl nw ty s els))=.go (cA (sz=s∧i < els.length∧k < (els.getD i []).length)) ((els.getD i []).getD k .junk) S:=nr rfl
theorem qPk (S:HS) (sz i k n:Nat) (nw:Bool) (ty s:Nat) (els:List (List HV)):nK S sz i k (some (some n)) (some (.hl nw ty s els))=.go (cA (sz=s∧i < els.length∧k + n≤(els.getD i []).length)) (.agg (((els.getD i []).drop k).take n)) S:=nr rfl
theorem qPb (S:HS) (id sz i k:Nat) (kt:Option (Option Nat)) (h:HV) (nw:Bool) (ty s:Nat) (els:List (List HV)):oQ S id sz i k kt h (some (.hl nw ty s els))=qD S id sz i k nw ty s els kt h:=nr rfl
theorem qJw (S:HS) (id sz i k:Nat) (nw:Bool) (ty s:Nat) (els:List (List HV)) (h:HV):qD S id sz i k nw ty s els (some none) h=.go (cA (sz=s∧i < els.length∧k < (els.getD i []).length∧h.one=true)) (.v undef) ⟨S.env,jV id (.hl nw ty s (els.set i ((els.getD i []).set k h))) S.st⟩:=nr (by cases h <;> rfl)
theorem qJx (S:HS) (id sz i k n:Nat) (nw:Bool) (ty s:Nat) (els:List (List HV)) (hs:List HV):qD S id sz i k nw ty s els (some (some n)) (.agg hs)=.go (cA (sz=s∧i < els.length∧hs.length=n∧k + n≤(els.getD i []).length)) (.v undef) ⟨S.env,jV id (.hl nw ty s (els.set i (splice (els.getD i []) k hs))) S.st⟩:=nr rfl
theorem qPm (S:HS) (xs:List (List FV)) (i k:Nat):vE S xs i k (some none)=.go (cA (i < xs.length∧k < (xs.getD i []).length)) ((xs.getD i []).getD k default).h S:=nr rfl
theorem qPn (S:HS) (xs:List (List FV)) (i k n:Nat):vE S xs i k (some (some n))=.go (cA (i < xs.length∧k + n≤(xs.getD i []).length)) (.agg ((((xs.getD i []).drop k).take n).map FV.h)) S:=nr rfl
theorem qUe (S:HS) (kt:Option (Option Nat)) (id sz i k:Nat) (h:HV):vD S kt (some (.ptr id sz i k)) (some h)=oQ S id sz i k kt h (rlk S.st id):=nr rfl
theorem qPa (S:HS) (id sz i k:Nat) (kt:Option (Option Nat)) (h:HV) (nw:Bool) (ty s:Nat) (els:List (List FV)):oQ S id sz i k kt h (some (.sl nw ty s els))=qC S id sz i k nw ty s els kt h:=nr rfl
theorem qPc (S:HS) (id sz i k:Nat) (kt:Option (Option Nat)) (h:HV) (nw:Bool) (ty:Nat) (cells:List HV):oQ S id sz i k kt h (some (.bx nw ty cells))=qE S id i k nw ty cells kt h:=nr rfl
theorem qJu (S:HS) (id sz i k:Nat) (nw:Bool) (ty s:Nat) (els:List (List FV)) (h:HV):qC S id sz i k nw ty s els (some none) h=match h.f with|some f=>.go (cA (sz=s∧i < els.length∧k < (els.getD i []).length∧f.one=true)) (.v undef) ⟨S.env,jV id (.sl nw ty s (els.set i ((els.getD i []).set k f))) S.st⟩|none=>.bad:=nr rfl
theorem qJv (S:HS) (id sz i k n:Nat) (nw:Bool) (ty s:Nat) (els:List (List FV)) (hs:List HV):qC S id sz i k nw ty s els (some (some n)) (.agg hs)=match HV.fs hs with|some fs=>.go (cA (sz=s∧i < els.length∧fs.length=n∧k + n≤(els.getD i []).length)) (.v undef) ⟨S.env,jV id (.sl nw ty s (els.set i (splice (els.getD i []) k fs))) S.st⟩|none=>.bad:=nr rfl
theorem qJy (S:HS) (id i k:Nat) (nw:Bool) (ty:Nat) (cells:List HV) (h:HV):qE S id i k nw ty cells (some none) h=.go (cA (i=0∧k < cells.length∧h.one=true)) (.v undef) ⟨S.env,jV id (.bx nw ty (cells.set k h)) S.st⟩:=nr (by cases h <;> rfl)
theorem qJz (S:HS) (id i k n:Nat) (nw:Bool) (ty:Nat) (cells:List HV) (hs:List HV):qE S id i k nw ty cells (some (some n)) (.agg hs)=.go (cA (i=0∧hs.length=n∧k + n≤cells.length)) (.v undef) ⟨S.env,jV id (.bx nw ty (splice cells k hs)) S.st⟩:=nr rfl
theorem qUv (S:HS) (id:Nat) (t:TypeId) (z:Array Value):pP S id t (some z)=.go (cA (uY z=true)) (.ptr id z.size 0 0) ((S.kill (only id)).row id (.bx true t (z.toList.map .v))):=nr rfl
theorem zFl (S:HS) (id:Nat) (t:TypeId) (h:HV):qZt S id t (some h)=qP8 S id t (dZ h):=nr rfl
theorem qZs (S:HS) (id:Nat) (t:TypeId) (cs:List HV):qP8 S id t (some cs)=.go True (.ptr id cs.length 0 0) ((S.kill (only id)).row id (.bx true t (cs.map (HV.kill (only id))))):=nr rfl
theorem qMe (l:aK):jX l []=some []:=nr rfl
theorem qJj (l:aK) (i:Nat) (x:Operand) (r:List (Nat × Operand)):jX l ((i,x) :: r)=match hev l x with|some v=>(match jX l r with|some vs=>some ((i,v) :: vs)|none=>none)|none=>none:=nr rfl
theorem qT1 (aQ:Nat→Option (Nat × Nat)) (cells:List HV):qFz aQ cells []=some (True,cells):=nr rfl
theorem qNp (aQ:Nat→Option (Nat × Nat)) (cells:List HV) (i:Nat) (h:HV) (r:List (Nat × HV)):qFz aQ cells ((i,h) :: r)=match aQ i with|some (off,n)=>(match dZ h with|some cs=>(match qFz aQ (splice cells off cs) r with|some (c,out)=>some (cA (cs.length=n∧off + n≤cells.length)∧c,out)|none=>none)|none=>none)|none=>none:=nr rfl
theorem qUu (S:HS) (ok:Bool) (aQ:Nat→Option (Nat × Nat)) (z:Array Value) (ps:List (Nat × HV)):xY S ok aQ (some z) (some ps)=uP S (ok && uY z) (qFz aQ (z.toList.map .v) ps):=nr rfl
theorem qP7 (S:HS) (ok:Bool) (c:Prop) (cs:List HV):uP S ok (some (c,cs))=.go (cA (ok=true)∧c) (.agg cs) S:=nr rfl
theorem qY2 (sz:Nat) (els:List (List FV)):qV8 sz els []=some (True,els):=nr rfl
theorem qTv (sz:Nat) (els:List (List FV)) (i:Nat) (h:HV) (r:List (Nat × HV)):qV8 sz els ((i,h) :: r)=match dZ h with|some cs=>(match HV.fs cs with|some fs=>(match qV8 sz (els.set i fs) r with|some (c,out)=>some (cA (fs.length=sz∧i < els.length)∧c,out)|none=>none)|none=>none)|none=>none:=nr rfl
theorem qP4 (S:HS) (id n e sz by':Nat) (z:Array Value) (ps:List (Nat × HV)):mC S id n (some (e,sz,by',z)) (some ps)=match uY z && z.size == sz with|true=>lM S id e sz n z ps (zAr ps)|false=>.bad:=nr rfl
theorem zAq  : zAr []=true:=nr rfl
theorem qVh (i:Nat) (h:HV) (r:List (Nat × HV)):zAr ((i,h) :: r)=match dZ h with|some cs=>((HV.fs cs).isSome && zAr r)|none=>zAr r:=nr rfl
theorem qTw (sz:Nat) (els:List (List HV)):qFx sz els []=some (True,els):=nr rfl
theorem qNo (sz:Nat) (els:List (List HV)) (i:Nat) (h:HV) (r:List (Nat × HV)):qFx sz els ((i,h) :: r)=match dZ h with|some cs=>(match qFx sz (els.set i cs) r with|some (c,out)=>some (cA (cs.length=sz∧i < els.length)∧c,out)|none=>none)|none=>none:=nr rfl
theorem zLy (id:Nat) (els:List (List HV)):hkl id els=els.map (List.map (HV.kill (only id))):=nr rfl
theorem qP5 (S:HS) (id e sz n:Nat) (z:Array Value) (ps:List (Nat × HV)):lM S id e sz n z ps true=nN S id e sz n (qV8 sz (List.replicate n (z.toList.map .v)) ps):=nr rfl
theorem qP6 (S:HS) (id e sz n:Nat) (z:Array Value) (ps:List (Nat × HV)):lM S id e sz n z ps false=nM S id e sz n (qFx sz (List.replicate n (z.toList.map .v)) ps):=nr rfl
theorem qJ6 (S:HS) (id e sz n:Nat) (c:Prop) (els:List (List HV)):nM S id e sz n (some (c,els))=.go (cA (n * sz≤16777216∧n≤16777216)∧c) (.own id) ((S.kill (only id)).row id (.hl true e sz (hkl id els))):=nr rfl
theorem qJ7 (S:HS) (id e sz n:Nat) (c:Prop) (els:List (List FV)):nN S id e sz n (some (c,els))=.go (cA (n * sz≤16777216∧n≤16777216)∧c) (.own id) ((S.kill (only id)).row id (.sl true e sz els)):=nr rfl
theorem qZk (S:HS) (id e sz by':Nat) (z:Array Value) (n m:Int):qJ0 S id (some (e,sz,by',z)) (some (.v (.int .i64 n))) (some (.v (.int .i64 m)))=match uY z && z.size == sz with|true=>.go (cA (n=m∧0≤n∧by' * n.toNat≤281474976710656∧n.toNat≤maxLen)) (.own id) ((S.kill (only id)).row id (.sl true e sz (List.replicate n.toNat (z.toList.map .v))))|false=>.bad:=nr rfl
theorem qMq (st:aD) (sz id:Nat):mG st sz (.own id)=match rlk st id with|some (.sl _ _ s els)=>some (cA (s=sz),els)|_=>none:=nr rfl
theorem qMs (st:aD) (sz:Nat) (fr:Bool) (xs:List (List FV)):mG st sz (.lst fr xs)=some (Wid sz xs,xs):=nr rfl
theorem qMr (st:aD) (sz:Nat):mG st sz (.v (.slice none 0 0))=some (True,[]):=nr rfl
theorem qNy (P:Program) (S:HS) (id:Nat) (t:Nat) (args:Array Operand) (ats:Array TypeId):iN P S id (.call ⟨.value (.tmp t),args,ats⟩)=qD9 (fnH (hlk S.env t)) (lL S.env args.toList):=nr rfl
theorem zSo (f:FuncId):fnH (some (.v (.func (.func f) #[] #[])))=some f:=nr rfl
theorem qJ4 (f:FuncId) (a:Option (List HV)):qD9 (some f) a=qJ5 f a:=nr rfl
theorem qT9 (P:Program) (S:HS) (id:Nat) (args:Array Operand) (ats:Array TypeId):iN P S id (.call ⟨.builtin .copy,args,ats⟩)=wV S (ats == #[eN ats,eN ats]) (bG P (eN ats)) (lL S.env args.toList):=nr rfl
theorem qUn (S:HS) (us:Option (Nat × Nat)) (id:Nat) (x:HV):wV S true us (some [.own id,x])=sV S id 0 none none x us (rlk S.st id):=nr rfl
theorem qZq (S:HS) (us:Option (Nat × Nat)) (id s off n:Nat) (x:HV):wV S true us (some [.vw id s off n,x])=sV S id off (some s) (some n) x us (rlk S.st id):=nr rfl
theorem qP3 (S:HS) (id off:Nat) (x:HV) (e sz:Nat) (nw:Bool) (ty s:Nat) (els:List (List FV)):sV S id off none none x (some (e,sz)) (some (.sl nw ty s els))=match decide (sz=s) with|true=>qBq S id s off els.length (s=s) nw ty els (mG S.st s x)|false=>.bad:=nr rfl
theorem qUo (S:HS) (id off s0 n:Nat) (x:HV) (e sz:Nat) (nw:Bool) (ty s:Nat) (els:List (List FV)):sV S id off (some s0) (some n) x (some (e,sz)) (some (.sl nw ty s els))=match decide (sz=s) with|true=>qBq S id s off n (s0=s) nw ty els (mG S.st s x)|false=>.bad:=nr rfl
def cpy (els:List (List FV)) (off:Nat) (news:List (List FV)) (n:Nat):List (List FV):=splice els off (news.take n)
def cpn (news:List (List FV)) (n:Nat):Nat:=min news.length n
theorem qJ3 (S:HS) (id sz off n:Nat) (ok:Prop) (nw:Bool) (ty:Nat) (els:List (List FV)) (c:Prop) (news:List (List FV)):qBq S id sz off n ok nw ty els (some (c,news))=.go (c∧cA (off + n≤els.length∧0 < sz∧ok)) (.v (.int .i64 (cpn news n:Nat))) ⟨S.env,jV id (.sl nw ty sz (cpy els off news n)) S.st⟩:=nr rfl
theorem qJ8 (S:HS) (nid:Nat) (same str:Bool) (e sz by':Nat) (z:Array Value) (id:Nat) (x:HV):kJ S nid same str (some (e,sz,by',z)) (some [.own id,x])=match (same || str) && z.size == sz with|true=>qF4 S id e sz by' same x (qS2 same str S.st sz x) (rlk S.st id)|false=>.bad:=nr rfl
theorem qSz (st:aD) (sz id:Nat):qMt st sz (.own id)=match rlk st id with|some (.sl _ _ s els)=>some (cA (s=sz),els.map (List.map FV.h))|some (.hl _ _ s els)=>some (cA (s=sz),els)|_=>none:=nr rfl
theorem qS1 (st:aD) (sz:Nat) (fr:Bool) (xs:List (List FV)):qMt st sz (.lst fr xs)=some (Wid sz xs,xs.map (List.map FV.h)):=nr rfl
theorem qS0 (st:aD) (sz:Nat):qMt st sz (.v (.slice none 0 0))=some (True,[]):=nr rfl
theorem zGo (a b c d:Nat):(#[a,b] == #[c,d])=(a == c && b == d):=by rw [Bool.eq_iff_iff];simp
theorem zEh (str:Bool) (st:aD) (sz:Nat) (x:HV):qS2 true str st sz x=mG st sz x:=nr rfl
theorem zEi (st:aD) (sz:Nat) (x:HV):qS2 false true st sz x=qXy x:=nr rfl
theorem qSx (s:ByteArray):qXy (.v (.string s))=some (True,kR s):=nr rfl
theorem qJ9 (S:HS) (nid:Nat) (same str:Bool) (e sz by':Nat) (z:Array Value) (x:HV):kJ S nid same str (some (e,sz,by',z)) (some [.v (.slice none 0 0),x])=match same && z.size == sz with|true=>qBr S nid e sz by' true [] (mG S.st sz x)|false=>.bad:=nr rfl
theorem qZu (S:HS) (id e sz by':Nat) (same:Bool) (x:HV) (news:Option (Prop × List (List FV))) (nw:Bool) (ty s:Nat) (els:List (List HV)):qF4 S id e sz by' same x news (some (.hl nw ty s els))=match same && (decide (ty=e) && decide (s=sz)) with|true=>qKa S id e sz by' nw els (qMt S.st sz x)|false=>.bad:=nr rfl
theorem qZx (S:HS) (id e sz by':Nat) (nw:Bool) (els news:List (List HV)) (c:Prop):qKa S id e sz by' nw els (some (c,news))=.go (c∧cA ((els.length + news.length) * by'≤140737488355328∧0 < by'∧0 < sz)) (.own id) ((S.kill (only id)).row id (.hl nw e sz (hkl id (els ++ news)))):=nr rfl
theorem qZv (S:HS) (id e sz by':Nat) (same:Bool) (x:HV) (news:Option (Prop × List (List FV))) (nw:Bool) (ty s:Nat) (els:List (List FV)):qF4 S id e sz by' same x news (some (.sl nw ty s els))=match decide (ty=e) && decide (s=sz) with|true=>qBr S id e sz by' nw els news|false=>.bad:=nr rfl
theorem qZw (S:HS) (id e sz by':Nat) (nw:Bool) (els:List (List FV)) (c:Prop) (news:List (List FV)):qBr S id e sz by' nw els (some (c,news))=.go (c∧cA ((els.length + news.length) * by'≤140737488355328∧0 < by'∧0 < sz)) (.own id) ((S.kill (only id)).row id (.sl nw e sz (els ++ news))):=nr rfl
theorem qS7  : wH []=some []:=nr rfl
theorem qM5 (x:Value) (r:List HV):wH (.v x :: r)=match wH r with|some vs=>some (x :: vs)|none=>none:=nr rfl
theorem zL9 (S:HS) (up:Bool) (t:TypeId) (neg:Bool) (xs ys:List HV):hEq S up t neg (some (.agg xs)) (some (.agg ys))=qV9 t neg (wH xs) (wH ys):=nr rfl
theorem zFi (S:HS) (up:Bool) (t:TypeId) (neg:Bool) (a b c d:Nat):hEq S up t neg (some (.ptr a b c d)) (some (.v (.pointer none)))=.go (cA (up=true)) (.v (.bool neg)) S:=nr rfl
theorem zFj (S:HS) (up:Bool) (t:TypeId) (neg fr:Bool) (xs:List (List FV)) (a b c:Nat):hEq S up t neg (some (.elt fr xs a b c)) (some (.v (.pointer none)))=.go (cA (up=true)) (.v (.bool neg)) S:=nr rfl
theorem qUp (S:HS) (ok okB:Bool) (s:ByteArray):uN S ok okB (some (.v (.string s)))=.bytes okB s:=nr rfl
theorem qUq (S:HS) (ok okB:Bool) (id:Nat):uN S ok okB (some (.own id))=qD8 S ok (rlk S.st id):=nr rfl
theorem qUr (S:HS) (ok okB fr:Bool) (xs:List (List FV)):uN S ok okB (some (.lst fr xs))=sW S ok (tJ xs):=nr rfl
theorem qUs (S:HS) (ok nw:Bool) (t s:Nat) (els:List (List FV)):qD8 S ok (some (.sl nw t s els))=sW S ok (tJ els):=nr rfl
theorem qUt (S:HS) (ok:Bool) (ns:List Int):sW S ok (some ns)=.go (cA (ok=true)) (.v (.string (strOfNums ns))) S:=nr rfl
theorem qQx  : tJ []=some []:=nr rfl
theorem qKe (n:Int) (r:List (List FV)):tJ ([.v (.int .u8 n)] :: r)=match tJ r with|some ns=>some (n :: ns)|none=>none:=nr rfl
theorem zFk (t:TypeId) (neg:Bool) (xs ys:List Value):qV9 t neg (some xs) (some ys)=.eqn t xs ys neg:=nr rfl
theorem qZr (f:FuncId) (hs:List HV):qJ5 f (some hs)=.call f hs:=nr rfl
theorem zGn (ats:Array TypeId):eN ats=ats.getD 0 0:=nr rfl
theorem qSt (z:Array Value):uY z=z.toList.all (fun v=>v.oneCell'):=nr rfl
theorem zVt (x:Value):(HV.v x).f=some (.v x):=nr rfl
theorem zL3 (i:Nat):(HV.own i).f=none:=nr rfl
theorem zSn (i s o n:Nat):(HV.vw i s o n).f=none:=nr rfl
theorem zL2 (i s j k:Nat):(HV.ptr i s j k).f=none:=nr rfl
theorem zL4 (fr:Bool) (xs:List (List FV)):(HV.lst fr xs).f=some (.lst fr xs):=nr rfl
theorem zFa  : HV.fs []=some []:=nr rfl
theorem qY6 (h:HV) (r:List HV):HV.fs (h :: r)=match h.f,HV.fs r with|some f,some fs=>some (f :: fs)|_,_=>none:=nr rfl
theorem zMe (x:Value):(FV.v x).one=x.oneCell':=nr rfl
theorem qZ0 (fr:Bool) (xs:List (List FV)):(FV.lst fr xs).one=true:=nr rfl
theorem zLw (x:Value):(HV.v x).one=x.oneCell':=nr rfl
theorem qYy (fr:Bool) (xs:List (List FV)):(HV.lst fr xs).one=true:=nr rfl
theorem qYx (i:Nat):(HV.own i).one=true:=nr rfl
theorem qYw (i s j k:Nat):(HV.ptr i s j k).one=true:=nr rfl
theorem zVv (x:Value):(FV.v x).h=.v x:=nr rfl
theorem zM5 (fr:Bool) (xs:List (List FV)):(FV.lst fr xs).h=.lst fr xs:=nr rfl
theorem zEe (k:IntKind) (n:Int):Value.oneCell' (.int k n)=true:=nr rfl
theorem qN5 (k:IntKind) (n:Int):dZ (.v (.int k n))=some [.v (.int k n)]:=nr rfl
theorem qXt (b:Bool):Value.oneCell' (.bool b)=true:=nr rfl
theorem qJt (b:Bool):dZ (.v (.bool b))=some [.v (.bool b)]:=nr rfl
theorem zEc (s:ByteArray):Value.oneCell' (.string s)=true:=nr rfl
theorem qN3 (s:ByteArray):dZ (.v (.string s))=some [.v (.string s)]:=nr rfl
theorem qSs (a:Option Addr) (n c:Nat):Value.oneCell' (.slice a n c)=true:=nr rfl
theorem qF1 (a:Option Addr) (n c:Nat):dZ (.v (.slice a n c))=some [.v (.slice a n c)]:=nr rfl
theorem zEd (a:Option Addr):Value.oneCell' (.pointer a)=true:=nr rfl
theorem qN4 (a:Option Addr):dZ (.v (.pointer a))=some [.v (.pointer a)]:=nr rfl
theorem qN9 (cs:List HV):dZ (.agg cs)=some cs:=nr rfl
theorem qN8 (fr:Bool) (xs:List (List FV)):dZ (.lst fr xs)=some [.lst fr xs]:=nr rfl
theorem qN7 (i:Nat):dZ (.own i)=some [.own i]:=nr rfl
theorem qN6 (i s j k:Nat):dZ (.ptr i s j k)=some [.ptr i s j k]:=nr rfl
theorem qR2 {α:Type} (l:List α) (k:Nat) (cs:List α):splice l k cs=l.take k ++ cs ++ l.drop (k + cs.length):=nr rfl
theorem dX (e:aK) (s:aD) (p:Nat→Bool):HS.kill ⟨e,s⟩ p=⟨jS p e,dF p s⟩:=nr rfl
theorem fM (e:aK) (s:aD) (id:Nat) (r:Row):HS.row ⟨e,s⟩ id r=⟨e,(id,r) :: s⟩:=nr rfl
theorem qW5 (e:aK) (s:aD) (k:Nat) (h:HV):HS.set ⟨e,s⟩ (some k) h=⟨(k,h) :: e,s⟩:=nr rfl
theorem qW6 (S:HS) (h:HV):HS.set S none h=S:=nr rfl
theorem fN (e:aK) (s:aD) (d:Nat) (h:HV):HS.rep ⟨e,s⟩ d h=⟨vA d h e,s⟩:=nr rfl
theorem dC (d:Nat) (h:HV):vA d h []=[]:=nr rfl
theorem cD (d:Nat) (h:HV) (k:Nat) (x:HV) (r:aK):vA d h ((k,x) :: r)=if k=d then (k,h) :: r else (k,x) :: vA d h r:=nr rfl
theorem bQ (p:Nat→Bool):jS p []=[]:=nr rfl
theorem aY (p:Nat→Bool) (k:Nat) (h:HV) (r:aK):jS p ((k,h) :: r)=(k,h.kill p) :: jS p r:=nr rfl
theorem aZ (p:Nat→Bool):dF p []=[]:=nr rfl
theorem aT (p:Nat→Bool) (k:Nat) (h:Row) (r:aD):dF p ((k,h) :: r)=bif p k then dF p r else (k,h.kill p) :: dF p r:=nr rfl
theorem bV (p:Nat→Bool) (nw:Bool) (t s:Nat) (xs:List (List FV)):(Row.sl nw t s xs).kill p=.sl nw t s xs:=nr rfl
theorem cJ (p:Nat→Bool) (nw:Bool) (t s:Nat) (xs:List (List HV)):(Row.hl nw t s xs).kill p=.hl nw t s (xs.map (List.map (HV.kill p))):=nr rfl
theorem bW (p:Nat→Bool) (nw:Bool) (t:Nat) (cs:List HV):(Row.bx nw t cs).kill p=.bx nw t (cs.map (HV.kill p)):=nr rfl
theorem cY (p:Nat→Bool) (x:Value):HV.kill p (.v x)=.v x:=by rw [HV.kill]
theorem vB (m:Nat→Option Nat) (x:Value):HV.ren m (.v x)=.v x:=by rw [HV.ren]
theorem pN (id:Nat) (x0:HV) (x:Value):HV.sub id x0 (.v x)=.v x:=by rw [HV.sub]
theorem bD (p:Nat→Bool) (fr:Bool) (xs:List (List FV)):HV.kill p (.lst fr xs)=.lst fr xs:=by rw [HV.kill]
theorem lJ (m:Nat→Option Nat) (fr:Bool) (xs:List (List FV)):HV.ren m (.lst fr xs)=.lst fr xs:=by rw [HV.ren]
theorem jD (id:Nat) (x0:HV) (fr:Bool) (xs:List (List FV)):HV.sub id x0 (.lst fr xs)=.lst fr xs:=by rw [HV.sub]
theorem cE (p:Nat→Bool) (fr:Bool) (xs:List (List FV)) (s j k:Nat):HV.kill p (.elt fr xs s j k)=.elt fr xs s j k:=by rw [HV.kill]
theorem qYt (m:Nat→Option Nat) (fr:Bool) (xs:List (List FV)) (s j k:Nat):HV.ren m (.elt fr xs s j k)=.elt fr xs s j k:=by rw [HV.ren]
theorem jE (id:Nat) (x0:HV) (fr:Bool) (xs:List (List FV)) (s j k:Nat):HV.sub id x0 (.elt fr xs s j k)=.elt fr xs s j k:=by rw [HV.sub]
theorem aX (p:Nat→Bool):HV.kill p .junk=.junk:=by rw [HV.kill]
theorem kG (m:Nat→Option Nat):HV.ren m .junk=.junk:=by rw [HV.ren]
theorem gL (id:Nat) (x0:HV):HV.sub id x0 .junk=.junk:=by rw [HV.sub]
theorem bC (p:Nat→Bool) (i:Nat):HV.kill p (.own i)=bif p i then .junk else .own i:=by rw [HV.kill]
theorem bB (p:Nat→Bool) (i s j k:Nat):HV.kill p (.ptr i s j k)=bif p i then .junk else .ptr i s j k:=by rw [HV.kill]
theorem bP (p:Nat→Bool) (cs:List HV):HV.kill p (.agg cs)=.agg (cs.map (HV.kill p)):=by rw [HV.kill]
theorem bN (p:Nat→Bool) (cs:List HV):HV.kill p (.tup cs)=.tup (cs.map (HV.kill p)):=by rw [HV.kill]
theorem lG (m:Nat→Option Nat) (i:Nat):HV.ren m (.own i)=match m i with|some j=>.own j|none=>.junk:=by rw [HV.ren];cases m i <;> rfl
theorem nJ (m:Nat→Option Nat) (i s j k:Nat):HV.ren m (.ptr i s j k)=match m i with|some i'=>.ptr i' s j k|none=>.junk:=by rw [HV.ren];cases m i <;> rfl
theorem lK (m:Nat→Option Nat) (cs:List HV):HV.ren m (.agg cs)=.agg (cs.map (HV.ren m)):=by rw [HV.ren]
theorem lF (m:Nat→Option Nat) (cs:List HV):HV.ren m (.tup cs)=.tup (cs.map (HV.ren m)):=by rw [HV.ren]
theorem jC (id:Nat) (x0:HV) (i:Nat):HV.sub id x0 (.own i)=if i=id then x0 else .own i:=by rw [HV.sub]
theorem jB (id:Nat) (x0:HV) (i s j k:Nat):HV.sub id x0 (.ptr i s j k)=if i=id then .junk else .ptr i s j k:=by rw [HV.sub]
theorem jF (id:Nat) (x0:HV) (cs:List HV):HV.sub id x0 (.agg cs)=.agg (cs.map (HV.sub id x0)):=by rw [HV.sub]
theorem jA (id:Nat) (x0:HV) (cs:List HV):HV.sub id x0 (.tup cs)=.tup (cs.map (HV.sub id x0)):=by rw [HV.sub]
theorem oL (m:Nat→Option Nat) (nw:Bool) (t s:Nat) (xs:List (List FV)):(Row.sl nw t s xs).ren m=.sl nw t s xs:=nr rfl
theorem oM (m:Nat→Option Nat) (nw:Bool) (t s:Nat) (xs:List (List HV)):(Row.hl nw t s xs).ren m=.hl nw t s (xs.map (List.map (HV.ren m))):=nr rfl
theorem oN (m:Nat→Option Nat) (nw:Bool) (t:Nat) (cs:List HV):(Row.bx nw t cs).ren m=.bx nw t (cs.map (HV.ren m)):=nr rfl
theorem lV (id:Nat) (x0:HV) (nw:Bool) (t s:Nat) (xs:List (List FV)):(Row.sl nw t s xs).sub id x0=.sl nw t s xs:=nr rfl
theorem lW (id:Nat) (x0:HV) (nw:Bool) (t s:Nat) (xs:List (List HV)):(Row.hl nw t s xs).sub id x0=.hl nw t s (xs.map (List.map (HV.sub id x0))):=nr rfl
theorem lX (id:Nat) (x0:HV) (nw:Bool) (t:Nat) (cs:List HV):(Row.bx nw t cs).sub id x0=.bx nw t (cs.map (HV.sub id x0)):=nr rfl
theorem cX (id i:Nat):only id i=(i == id):=nr rfl
theorem qZ9 (n i:Nat):fC n i=(decide (n≤i) && decide (i < n + 8)):=by rw [Bool.eq_iff_iff];simp [fC]
theorem zRv (n i:Nat):sh n i=bif decide (i < 8) then some (n + i) else none:=by unfold sh;congr 1;rw [Bool.eq_iff_iff];simp
theorem zGp (e:aK) (s:aD) (n:Nat) (st:aD):HS.adds ⟨e,s⟩ n st=⟨jS (fC n) e,qE9 n st (dF (fC n) s)⟩:=nr rfl
theorem qSh (n:Nat) (b:aD):qE9 n [] b=b:=nr rfl
theorem qLy (n k:Nat) (r:Row) (t b:aD):qE9 n ((k,r) :: t) b=(n + k,r.ren (sh n)) :: qE9 n t b:=nr rfl
theorem lZ (e:aK) (s:aD) (id:Nat) (x:HV):HS.rest ⟨e,s⟩ id x=⟨qZ7 id x e,qLb id x s⟩:=nr rfl
theorem jG (id:Nat) (x:HV):qZ7 id x []=[]:=nr rfl
theorem gM (id:Nat) (x:HV) (k:Nat) (h:HV) (r:aK):qZ7 id x ((k,h) :: r)=(k,HV.sub id x h) :: qZ7 id x r:=nr rfl
theorem iV (id:Nat) (x:HV):qLb id x []=[]:=nr rfl
theorem gJ (id:Nat) (x:HV) (k:Nat) (h:Row) (r:aD):qLb id x ((k,h) :: r)=if k=id then qLb id x r else (k,h.sub id x) :: qLb id x r:=nr rfl
theorem qWs (id:Nat) (r:Row):jV id r []=[]:=nr rfl
theorem qR1 (id:Nat) (r:Row) (k:Nat) (s:Row) (t:aD):jV id r ((k,s) :: t)=if k=id then (k,r) :: t else (k,s) :: jV id r t:=nr rfl
theorem zFh (l:aK) (ds:List (Option Nat)):hG l ds none=.yes:=nr rfl
theorem zFg (l:aK) (ds:List (Option Nat)) (j:Nat) (want:Bool):hG l ds (some (j,want))=match ds[j]? with|some (some d)=>hGv d want (hlk l d)|_=>.bad:=nr rfl
theorem qZp (d:Nat) (want b:Bool):hGv d want (some (.v (.bool b)))=.ask d b want:=nr rfl
theorem zFf (d:Nat) (want:Bool) (vs:Array Value):hGv d want (some (.v (.tuple vs)))=.no:=nr rfl
theorem zLz (P:Program) (d:Option Nat) (S:HS) (K:HS→Prop) (c:Prop) (h:HV) (S':HS):qHw P d S K (.go c h S')=(c∧K (S'.set d h)):=nr rfl
theorem qY5 (P:Program) (d:Option Nat) (S:HS) (K:HS→Prop) (f:FuncId) (args:List HV):qHw P d S K (.call f args)=HAt P f args S (fun h S'=>mU K (S'.set d h)):=nr rfl
theorem zE8 (P:Program) (d:Option Nat) (S:HS) (K:HS→Prop) (t:TypeId) (x y:List Value) (neg:Bool):qHw P d S K (.eqn t x y neg)=∃ r,EqR P t x.toArray y.toArray r∧mU K (S.set d (.v (.bool (neg ^^ r)))):=nr rfl
theorem qTz (P:Program) (d:Option Nat) (S:HS) (K:HS→Prop) (ok:Bool) (s:ByteArray):qHw P d S K (.bytes ok s)=(cA (ok=true∧s.size≤9223372036854775807)∧K (S.set d (.lst true (kR s)))):=nr rfl
theorem zL0 (P:Program) (N:Nat) (o:Oper) (S:HS) (K:HS→Prop):HGo P N o S K=zQ0 P N o (nU S o.op) K:=nr rfl
theorem zE9 (P:Program) (N:Nat) (o:Oper) (S:HS) (K:HS→Prop):zQ0 P N o S K=match fW N o.dst with|true=>qHw P o.dst S K (hop P S (sT o.dst) o.op)|false=>False:=nr rfl
theorem qTp (S:HS) (x:Operand):nU S (.move x)=S:=nr rfl
theorem qJq (S:HS) (x:Operand):nU S (.assign x)=S:=nr rfl
theorem qTn (S:HS) (c a b:Operand):nU S (.pick c a b)=S:=nr rfl
theorem qFu (S:HS) (x:Operand) (i:Nat):nU S (.extract x i)=S:=nr rfl
theorem qNj (S:HS) (t:TypeId) (x:Operand) (f:Nat):nU S (.field t x f)=S:=nr rfl
theorem qNk (S:HS) (t:TypeId) (x:Operand) (f:Nat):nU S (.fieldAddr t x f)=S:=nr rfl
theorem qTo (S:HS) (x:Operand):nU S (.nilCheck x)=S:=nr rfl
theorem qNi (S:HS) (t:TypeId) (x i:Operand):nU S (.indexAddr t x i)=S:=nr rfl
theorem qNg (S:HS) (t:TypeId) (x:Operand) (l h m:Option Operand):nU S (.slice t x l h m)=S:=nr rfl
theorem qTr (S:HS) (t:TypeId) (x:Operand):nU S (.load t x)=S:=nr rfl
theorem qNl (S:HS) (t:TypeId) (ps:Array (Nat × Operand)):nU S (.build t ps)=S:=nr rfl
theorem qYv (S:HS) (b:BinOp) (t:TypeId) (x y:Operand) (u:TypeId):nU S (.binOp b t x y u)=S:=nr rfl
theorem zE1 (S:HS) (u:UnOp) (t:TypeId) (x:Operand):nU S (.unOp u t x)=S:=nr rfl
theorem qTs (S:HS) (s d:TypeId) (x:Operand):nU S (.convert s d x)=S:=nr rfl
theorem qNh (S:HS) (t:TypeId) (x i:Operand):nU S (.index t x i)=S:=nr rfl
theorem qTt (S:HS) (c:Call):nU S (.call c)=S:=nr rfl
theorem qNm (S:HS) (t:TypeId):nU S (.alloc t)=S:=nr rfl
theorem qYu (S:HS) (t:TypeId) (x:Operand):nU S (.box t x)=S:=nr rfl
theorem qTq (S:HS) (t:TypeId) (x y:Operand):nU S (.makeSlice t x y)=S:=nr rfl
theorem qNf (S:HS) (t:TypeId) (x y:Operand):nU S (.store t x y)=restAll S (zK5 S (hev S.env x) (hev S.env y)):=nr rfl
theorem qJp (S:HS) (t n:TypeId) (ps:Array (Nat × Operand)):nU S (.buildSlice t n ps)=restAll S (zK6 (jX S.env ps.toList)):=nr rfl
theorem qXm (S:HS) (id sz i k:Nat) (h:HV):zK5 S (some (.ptr id sz i k)) (some h)=qXq S h (rlk S.st id):=nr rfl
theorem qXn (S:HS) (h:HV) (nw:Bool) (ty s:Nat) (els:List (List FV)):qXq S h (some (.sl nw ty s els))=xT h:=nr rfl
theorem qXp (S:HS) (h:HV) (nw:Bool) (ty:Nat) (cs:List HV):qXq S h (some (.bx nw ty cs))=[]:=nr rfl
theorem qXr (ps:List (Nat × HV)):zK6 (some ps)=ps.flatMap fun p=>xT p.2:=nr rfl
theorem qMg (i:Nat):xT (.own i)=[i]:=nr rfl
theorem qXs (x:Value):xT (.v x)=[]:=nr rfl
theorem qMh (fr:Bool) (xs:List (List FV)):xT (.lst fr xs)=[]:=nr rfl
theorem qMi (cs:List HV):xT (.agg cs)=cs.flatMap qCk:=nr rfl
theorem qJk (i:Nat):qCk (.own i)=[i]:=nr rfl
theorem qSr (x:Value):qCk (.v x)=[]:=nr rfl
theorem qJl (fr:Bool) (xs:List (List FV)):qCk (.lst fr xs)=[]:=nr rfl
theorem qJa (S:HS):restAll S []=S:=nr rfl
theorem qE5 (S:HS) (i:Nat) (r:List Nat):restAll S (i :: r)=restAll (qE4 S i) r:=nr rfl
theorem qLv (e:aK) (s:aD) (i:Nat):qE4 ⟨e,s⟩ i=match decide (i < 1000000) with|true=>(match rlk s i with|some (.sl nw _ _ els)=>HS.rest ⟨e,s⟩ i (.lst nw els)|_=>⟨e,s⟩)|false=>⟨e,s⟩:=by unfold qE4;rw [show Nat.blt i held=decide (i < 1000000) by rw [Bool.eq_iff_iff];simp [Nat.blt_eq,held]];rfl
theorem qXo (S:HS) (h:HV) (nw:Bool) (ty s:Nat) (els:List (List HV)):qXq S h (some (.hl nw ty s els))=[]:=nr rfl
theorem qYq (N:Nat) (d:Option Nat) (S:HS) (K:HS→Prop):nT N d S K=match fW N d with|true=>K (S.set d (.v undef))|false=>False:=nr rfl
theorem qTl (P:Program) (N:Nat) (o:Oper) (S:HS) (K:HS→Prop):qVk P N o S K .yes=HGo P N o S K:=nr rfl
theorem qYp (P:Program) (N:Nat) (o:Oper) (S:HS) (K:HS→Prop):qVk P N o S K .no=nT N o.dst S K:=nr rfl
theorem qTm (P:Program) (N:Nat) (o:Oper) (S:HS) (K:HS→Prop) (d:Nat) (b want:Bool):qVk P N o S K (.ask d b want)=match b == want with|true=>HGo P N o (S.rep d (.v (.bool want))) K|false=>nT N o.dst (S.rep d (.v (.bool (!want)))) K:=nr rfl
theorem zEy (P:Program) (N:Nat) (ds:List (Option Nat)) (K:HS→Prop) (S:HS):HV2 P N ds K [] S=K S:=nr rfl
theorem qYn (P:Program) (N:Nat) (ds:List (Option Nat)) (K:HS→Prop) (o:Oper) (rest:List Oper) (S:HS):HV2 P N ds K (o :: rest) S=qVk P N o S (HV2 P N ds K rest) (hG S.env ds o.guard):=nr rfl
theorem zE6 (P:Program) (o:Oper) (S:HS) (K:HS→Prop) (c:Prop) (h:HV) (S':HS):qGv P o S K (.go c h S')=(eT o.op=true∧c∧K (S.set o.dst h)):=nr rfl
theorem qTy (P:Program) (o:Oper) (S:HS) (K:HS→Prop) (f:FuncId) (args:List HV):qGv P o S K (.call f args)=zUc P f args S (fun x=>mU K (S.set o.dst (.v x))):=nr rfl
theorem qY4 (P:Program) (o:Oper) (S:HS) (K:HS→Prop) (t:TypeId) (x y:List Value) (neg:Bool):qGv P o S K (.eqn t x y neg)=∃ r,EqR P t x.toArray y.toArray r∧mU K (S.set o.dst (.v (.bool (neg ^^ r)))):=nr rfl
theorem zE7 (P:Program) (N:Nat) (o:Oper) (S:HS) (K:HS→Prop):zA1 P N o S K=match fW N o.dst with|true=>qGv P o S K (hop P S (sT o.dst) o.op)|false=>False:=nr rfl
theorem qNc (P:Program) (N:Nat) (o:Oper) (S:HS) (K:HS→Prop):qHv P N o S K .yes=zA1 P N o S K:=nr rfl
theorem qTk (P:Program) (N:Nat) (o:Oper) (S:HS) (K:HS→Prop):qHv P N o S K .no=nT N o.dst S K:=nr rfl
theorem qNd (P:Program) (N:Nat) (o:Oper) (S:HS) (K:HS→Prop) (d:Nat) (b want:Bool):qHv P N o S K (.ask d b want)=match b == want with|true=>zA1 P N o (S.rep d (.v (.bool want))) K|false=>nT N o.dst (S.rep d (.v (.bool (!want)))) K:=nr rfl
theorem zEx (P:Program) (N:Nat) (ds:List (Option Nat)) (K:HS→Prop) (S:HS):HVq P N ds K [] S=K S:=nr rfl
theorem qYl (P:Program) (N:Nat) (ds:List (Option Nat)) (K:HS→Prop) (o:Oper) (rest:List Oper) (S:HS):HVq P N ds K (o :: rest) S=qHv P N o S (HVq P N ds K rest) (hG S.env ds o.guard):=nr rfl
theorem qR8 (t:Nat):cC (.tmp t)=[t]:=nr rfl
theorem qH8 (v:Value):cC (.const v)=[]:=nr rfl
theorem qEy (g:Nat):cC (.global g)=[]:=nr rfl
theorem qLm (f:FuncId):cC (.func f)=[]:=nr rfl
theorem qLj  : xN []=[]:=nr rfl
theorem qH7 (x:Operand) (r:List Operand):xN (x :: r)=cC x ++ xN r:=nr rfl
theorem qLh  : pJ []=[]:=nr rfl
theorem qH5 (k:Nat) (x:Operand) (r:List (Nat × Operand)):pJ ((k,x) :: r)=cC x ++ pJ r:=nr rfl
theorem qLn (x:Operand):qH9 (some x)=cC x:=nr rfl
theorem qLo  : qH9 none=[]:=nr rfl
theorem qEt (x:Operand):bY (.move x)=cC x:=nr rfl
theorem qAu (x:Operand):bY (.assign x)=cC x:=nr rfl
theorem qEs (x:Operand):bY (.nilCheck x)=cC x:=nr rfl
theorem qEr (c a b:Operand):bY (.pick c a b)=cC c ++ (cC a ++ cC b):=nr rfl
theorem qAi (x:Operand) (i:Nat):bY (.extract x i)=cC x:=nr rfl
theorem qDg (t:TypeId) (x:Operand) (f:Nat):bY (.field t x f)=cC x:=nr rfl
theorem qDh (t:TypeId) (x:Operand) (f:Nat):bY (.fieldAddr t x f)=cC x:=nr rfl
theorem qEu (t:TypeId) (x:Operand):bY (.load t x)=cC x:=nr rfl
theorem qLi (u:UnOp) (t:TypeId) (x:Operand):bY (.unOp u t x)=cC x:=nr rfl
theorem qEv (s d:TypeId) (x:Operand):bY (.convert s d x)=cC x:=nr rfl
theorem qDf (t:TypeId) (x i:Operand):bY (.indexAddr t x i)=cC x ++ cC i:=nr rfl
theorem qDe (t:TypeId) (x i:Operand):bY (.index t x i)=cC x ++ cC i:=nr rfl
theorem qDc (t:TypeId) (x:Operand) (l h:Option Operand):bY (.slice t x l h none)=cC x ++ (qH9 l ++ qH9 h):=nr rfl
theorem qH6 (b:BinOp) (t:TypeId) (x y:Operand) (u:TypeId):bY (.binOp b t x y u)=cC x ++ cC y:=nr rfl
theorem qDi (t:TypeId) (ps:Array (Nat × Operand)):bY (.build t ps)=pJ ps.toList:=nr rfl
theorem rD (t:TypeId) (n:Nat) (ps:Array (Nat × Operand)):bY (.buildSlice t n ps)=pJ ps.toList:=nr rfl
theorem qDd (t:TypeId) (x y:Operand):bY (.makeSlice t x y)=cC x ++ cC y:=nr rfl
theorem qEw (k:Callee) (args:Array Operand) (ats:Array TypeId):bY (.call ⟨k,args,ats⟩)=qLl k ++ xN args.toList:=nr rfl
theorem qEx (x:Operand):qLl (.value x)=cC x:=nr rfl
theorem qAv (b:Builtin):qLl (.builtin b)=[]:=nr rfl
theorem qLq (ds:List (Option Nat)):iW ds none=[]:=nr rfl
theorem qLp (ds:List (Option Nat)) (g:Nat) (b:Bool):iW ds (some (g,b))=match ds[g]? with|some (some d)=>[d]|_=>[]:=nr rfl
theorem qSn (e:aK):lB e []=[]:=nr rfl
theorem qMc (e:aK) (t:Nat) (r:List Nat):lB e (t :: r)=match hlk e t with|some h=>(t,h) :: lB e r|none=>lB e r:=nr rfl
theorem qL9  : nZ []=true:=nr rfl
theorem qXj (k:Nat) (v:Value) (r:aK):nZ ((k,.v v) :: r)=nZ r:=nr rfl
theorem qMa (k:Nat) (b:Bool) (xs:List (List FV)) (r:aK):nZ ((k,.lst b xs) :: r)=nZ r:=nr rfl
theorem qMb (k:Nat) (hs:List HV) (r:aK):nZ ((k,.agg hs) :: r)=nZ r:=nr rfl
theorem qYz (d:Option Nat) (S:HS) (K:HS→Prop) (c:Prop) (i:Nat) (S':HS):zGt d S K (.go c (.own i) S')=match rlk S'.st i with|some (.sl _ _ _ els)=>c∧K (S.set d (.lst true els))|_=>False:=nr rfl
theorem qJn (t:TypeId) (n:Nat) (ps:Array (Nat × Operand)):zLd (.buildSlice t n ps)=true:=nr rfl
theorem qMw (t:TypeId) (x y:Operand):zLd (.makeSlice t x y)=true:=nr rfl
theorem qFa (t:TypeId) (n:Nat) (ps:Array (Nat × Operand)):eT (.buildSlice t n ps)=false:=nr rfl
theorem qJc (t:TypeId) (x y:Operand):eT (.makeSlice t x y)=false:=nr rfl
theorem zE4 (P:Program) (o:Oper) (S T:HS) (K:HS→Prop) (c:Prop) (h:HV) (S':HS):qC7 P o S T K (.go c h S')=match eT o.op with|true=>c∧K (S.set o.dst h)|false=>(match zLd o.op && nZ T.env with|true=>zGt o.dst S K (hop P ⟨T.env,[]⟩ (sT o.dst) o.op)|false=>False):=nr rfl
theorem qTx (P:Program) (o:Oper) (S T:HS) (K:HS→Prop) (f:FuncId) (args:List HV):qC7 P o S T K (.call f args)=zN5 P f args T (fun x=>mU K (S.set o.dst x)):=nr rfl
theorem qY3 (P:Program) (o:Oper) (S T:HS) (K:HS→Prop) (t:TypeId) (x y:List Value) (neg:Bool):qC7 P o S T K (.eqn t x y neg)=∃ r,EqR P t x.toArray y.toArray r∧mU K (S.set o.dst (.v (.bool (neg ^^ r)))):=nr rfl
theorem zE5 (P:Program) (N:Nat) (o:Oper) (S T:HS) (K:HS→Prop):zC0 P N o S T K=match fW N o.dst with|true=>qC7 P o S T K (hop P T (sT o.dst) o.op)|false=>False:=nr rfl
theorem qNa (P:Program) (N:Nat) (o:Oper) (S T:HS) (K:HS→Prop):kD P N o S T K .yes=zC0 P N o S T K:=nr rfl
theorem qTj (P:Program) (N:Nat) (o:Oper) (S T:HS) (K:HS→Prop):kD P N o S T K .no=nT N o.dst S K:=nr rfl
theorem qNb (P:Program) (N:Nat) (o:Oper) (S T:HS) (K:HS→Prop) (d:Nat) (b want:Bool):kD P N o S T K (.ask d b want)=match b == want with|true=>zC0 P N o (S.rep d (.v (.bool want))) (T.rep d (.v (.bool want))) K|false=>nT N o.dst (S.rep d (.v (.bool (!want)))) K:=nr rfl
theorem zEw (P:Program) (N:Nat) (ds:List (Option Nat)) (K:HS→Prop) (S:HS):HVr P N ds K [] S=K S:=nr rfl
theorem qYk (P:Program) (N:Nat) (ds:List (Option Nat)) (K:HS→Prop) (o:Oper) (rest:List Oper) (S:HS):HVr P N ds K (o :: rest) S=kD P N o S ⟨lB S.env (iW ds o.guard ++ bY o.op),S.st⟩ (HVr P N ds K rest) (hG (lB S.env (iW ds o.guard ++ bY o.op)) ds o.guard):=nr rfl
theorem qTc (k:Nat):sT (some k)=8 * k:=nr rfl
theorem qTd  : sT none=0:=nr rfl
theorem qL1 (x:Operand):eT (.move x)=true:=nr rfl
theorem qFb (x:Operand):eT (.assign x)=true:=nr rfl
theorem qLz (c a b:Operand):eT (.pick c a b)=true:=nr rfl
theorem qDj (x:Operand) (i:Nat):eT (.extract x i)=true:=nr rfl
theorem qJf (t:TypeId) (x:Operand) (f:Nat):eT (.field t x f)=true:=nr rfl
theorem qJg (t:TypeId) (x:Operand) (f:Nat):eT (.fieldAddr t x f)=true:=nr rfl
theorem qL0 (x:Operand):eT (.nilCheck x)=true:=nr rfl
theorem qJe (t:TypeId) (x i:Operand):eT (.indexAddr t x i)=true:=nr rfl
theorem qJb (t:TypeId) (x:Operand) (l h m:Option Operand):eT (.slice t x l h m)=true:=nr rfl
theorem qL2 (t:TypeId) (x:Operand):eT (.load t x)=true:=nr rfl
theorem qJh (t:TypeId) (ps:Array (Nat × Operand)):eT (.build t ps)=true:=nr rfl
theorem qSk (b:BinOp) (t:TypeId) (x y:Operand) (u:TypeId):eT (.binOp b t x y u)=true:=nr rfl
theorem qXf (u:UnOp) (t:TypeId) (x:Operand):eT (.unOp u t x)=true:=nr rfl
theorem qL3 (s d:TypeId) (x:Operand):eT (.convert s d x)=true:=nr rfl
theorem qJd (t:TypeId) (x i:Operand):eT (.index t x i)=true:=nr rfl
theorem qSj (args:Array Operand) (ats:Array TypeId):eT (.call ⟨.builtin .len,args,ats⟩)=true:=nr rfl
theorem qSi (args:Array Operand) (ats:Array TypeId):eT (.call ⟨.builtin .min,args,ats⟩)=true:=nr rfl
theorem qVg (k:Nat):qAl k []=[]:=nr rfl
theorem qQ1 (k:Nat) (v:HV) (r:List HV):qAl k (v :: r)=(k,v) :: qAl (k + 1) r:=nr rfl
theorem zZ (e:aK) (s:aD) (ks ids:List Nat):HS.keep ⟨e,s⟩ ks ids=⟨qBo ks e,vN ids s⟩:=nr rfl
theorem zR (l:aK):qBo [] l=[]:=nr rfl
theorem zP (k:Nat) (r:List Nat) (l:aK):qBo (k :: r) l=match hlk l k with|some v=>(k,v) :: qBo r l|none=>qBo r l:=nr rfl
theorem zQ (l:aD):vN [] l=[]:=nr rfl
theorem zN (k:Nat) (r:List Nat) (l:aD):vN (k :: r) l=match rlk l k with|some v=>(k,v) :: vN r l|none=>vN r l:=nr rfl
theorem yA (P:Program) (rs:List ResultVar) (Q:HV→aD→Prop) (S:HS):zL1 P rs Q .normal S=tP P S rs fun hs=>qB9 S (qD6 hs) Q:=nr rfl
theorem yM (P:Program) (rs:List ResultVar) (Q:HV→aD→Prop) (S:HS):zL1 P rs Q .ret S=tP P S rs fun hs=>qB9 S (qD6 hs) Q:=nr rfl
theorem yH (P:Program) (S:HS) (K:List HV→Prop):tP P S [] K=K []:=nr rfl
theorem aA (P:Program) (S:HS) (p ty:Nat) (r:List ResultVar) (K:List HV→Prop):tP P S (.cell p ty :: r) K=zS9 (uH S (bJ P ty) (hlk S.env p)) fun h=>tP P S r fun hs=>K (h :: hs):=nr rfl
theorem aC (c:Prop) (h:HV) (S:HS) (K:HV→Prop):zS9 (.go c h S) K=(c∧K h):=nr rfl
theorem yE (P:Program) (S:HS) (t:Nat) (r:List ResultVar) (K:List HV→Prop):tP P S (.tmp t :: r) K=match hlk S.env t with|some h=>tP P S r fun hs=>K (h :: hs)|none=>False:=nr rfl
theorem yK (h:HV):qD6 [h]=h:=nr rfl
theorem yJ (a b:HV) (r:List HV):qD6 (a :: b :: r)=.tup (a :: b :: r):=nr rfl
theorem zPp (i:Nat):pos [] i=none:=nr rfl
theorem yF (k:Nat) (r:List Nat) (i:Nat):pos (k :: r) i=if k=i then some 0 else (pos r i).map (· + 1):=nr rfl
theorem zHh (m:Nat→Option Nat) (st:aD) (k:Nat):jR m st k []=[]:=nr rfl
theorem yG (m:Nat→Option Nat) (st:aD) (k id:Nat) (r:List Nat):jR m st k (id :: r)=match rlk st id with|some row=>(k,row.ren m) :: jR m st (k + 1) r|none=>jR m st (k + 1) r:=nr rfl
theorem qQu {p:Prop} (h:p):cA p=True:=eq_true h
theorem qU8:cA True=True:=rfl
theorem ltT {a b:Int} (h:a < b):decide (a < b)=true:=decide_eq_true h
theorem ltF {a b:Int} (h:b≤a):decide (a < b)=false:=decide_eq_false (by omega)
theorem leT {a b:Int} (h:a≤b):decide (a≤b)=true:=decide_eq_true h
theorem leF {a b:Int} (h:b < a):decide (a≤b)=false:=decide_eq_false (by omega)
theorem eqT {a b:Int} (h:a=b):decide (a=b)=true:=decide_eq_true h
theorem eqF {a b:Int} (h:a < b∨b < a):decide (a=b)=false:=decide_eq_false (by omega)
theorem zP7 {α:Type} {l:List α} {i:Nat} {d:α} (h:i < l.length):l.getD i d=l[i]:=fU h
theorem wW {α β:Type} {f:α→β} {l:List α} {i:Nat} {d:β} (h:i < l.length):(l.map f).getD i d=f (l[i]):=by rw [zP7 (by simpa using h),List.getElem_map]
theorem qQb:(default:FV)=.v (.bool false):=rfl
theorem qDo {x:Int} (h1:-9223372036854775808≤x) (h2:x≤9223372036854775807):IntKind.i64.wrap x=x:=zUr ⟨by unfold zVb;exact h1,by unfold zVr;exact h2⟩
theorem qK7 (n:Nat):((n:Int) + 1).toNat=n + 1:=by omega
theorem qRs (n m:Nat):((n:Int) + (m:Int)).toNat=n + m:=by omega
theorem qKn {α:Type} {f:α→List FV} {sz:Nat} (l:List α) (h:∀ a,(f a).length=sz):Wid sz (l.map f):=fun x hx=>by
 obtain ⟨a,-,rfl⟩:=List.mem_map.1 hx;exact h a
end Go.Eng
end

section
namespace Go.Eng
open Go Go.RowKit
def zA9 (s:ByteArray):List FV:=[.v (.string s)]
def iG (a:List ByteArray):List (List FV):=a.map zA9
theorem gP (a:List ByteArray):(iG a).length=a.length:=by simp [iG]
theorem qEp (a:List ByteArray):Wid 1 (iG a)=True:=eq_true (qKn a fun _=>rfl)
theorem qK9 {a:List ByteArray} {i:Nat} {d:List FV} (h:i < a.length):(iG a).getD i d=[.v (.string a[i])]:=by unfold iG;rw [wW h];rfl
theorem qDu (a:List ByteArray):∀ x ∈ iG a,∀ f ∈ x,FreshF f:=fun x hx f hf=>by
 obtain ⟨s,-,rfl⟩:=List.mem_map.1 hx;simp [zA9] at hf;subst hf;exact .v _
theorem qRw (a:List ByteArray) (s:ByteArray):iG a ++ [[.v (.string s)]]=iG (a ++ [s]):=by simp [iG,zA9]
theorem zG3 (a:List ByteArray) (n:Nat):(iG a).take n=iG (a.take n):=by simp [iG,List.map_take]
theorem zT8 {P:Program} {N:Nat} {x:Code} {Q:gG} {S:HS} (k id ty sz:Nat) (hk:hlk S.env k=some (.v (.slice none 0 0))) (h:HW P N x Q (((S.kill (only id)).row id (.sl true ty sz [])).rep k (.own id))):HW P N x Q S:=fun c l w I=>by
 refine h c l w ?_;obtain ⟨ρ,xs,G⟩:=I
 have G2:=G.new id (.sl true ty sz []) [] (.slice none 0 0) (w':=w) (Below.refl _ _) (fun b hb=>by cases hb) (fun _ _ =>
  ⟨by rw [aF];exact World.ownsRow_nil w 0 ty sz,⟨by simp,fun i k hi=>absurd hi (by simp)⟩,fun b hb=>by rw [aF] at hb;cases hb⟩)
 refine ⟨_,_,G2.rows,G2.apart,fun j y hj=>?_,G2.kept,G2.a0⟩
 simp only [HS.rep,qNn] at hj
 by_cases e:j=k
 ·subst e;rw [if_pos rfl] at hj
  have h1:hlk ((S.kill (only id)).row id (.sl true ty sz [])).env j=some (.v (.slice none 0 0)):=by
   show hlk (jS (only id) S.env) j=_
   rw [mN,hk];simp [HV.kill]
  rw [h1] at hj;simp only [Option.map_some,Option.some.injEq] at hj;subst hj;obtain ⟨v,a,b⟩:=G2.env j _ h1
  have:=bL b
  subst this;refine ⟨_,a,?_⟩
  have:=RepH.own (w:=w) (A:=c.A (eZ ρ id (.slice none 0 0)) (((S.kill (only id)).row id (.sl true ty sz [])).rep j (.own id)).st) (n0:=c.n0) (ρ:=eZ ρ id (.slice none 0 0)) id (by rw [aF];rfl)
  rw [aF] at this;exact this
 ·rw [if_neg e] at hj;exact G2.env j y hj
theorem qFy {P:Program} {f:FuncId} {args:List HV} {x:Value} (h:∀ (w:World) (vs:List Value),vJ w (fun _=>False) w.heap.size (fun _=>undef) vs args→Calls P f vs.toArray w (Ret fun r w'=>r=x∧Below w.heap.size w w')):HFun P f args (fun h st=>h=.v x∧st=[]):=fun w vs R =>
 Ret.mono (h w vs R) fun v w' ⟨hv,B⟩=>⟨B,.v x,[],fun i r hi=>by simp [rlk] at hi,⟨rfl,rfl⟩,fun _=>undef,fun _=>[],⟨fun id r hr=>by simp [rlk] at hr,fun i j r s b hne hi=>by simp [rlk] at hi,fun k x hk=>by simp [hlk] at hk,⟨B.os,B.tape,B.output,B.size,fun b hlt _=>B.block b hlt⟩,fun b hb=>⟨hb,fun h=>h⟩⟩,by rw [hv];exact .v x⟩
theorem aL {st:aD} {fr:Bool} {xs ys:List (List FV)} (h:pK xs=ys):Lend st (.lst fr xs) (.lst false ys):=h ▸ .lst fr xs
theorem gD {st:aD} {id ty sz:Nat} {nw:Bool} {els ys:List (List FV)} (h:pK els=ys) (hr:rlk st id=some (.sl nw ty sz els)):Lend st (.own id) (.lst false ys):=h ▸ .own hr
theorem qJo {st:aD} {id ty sz off n:Nat} {nw:Bool} {els ys:List (List FV)} (h:pK ((els.drop off).take n)=ys) (hr:rlk st id=some (.sl nw ty sz els)):Lend st (.vw id sz off n) (.lst false ys):=h ▸ .vw hr
section
variable {S:HS} {Q:HV→aD→Prop}
theorem aJ {a:Value} (q:Q (.v a) []):qB9 S (.v a) Q:=⟨[],by simp,rfl,.v _,fun id h=>by simp at h,by rw [HV.ren];exact q⟩
theorem qFt {a b:Value} (q:Q (.tup [.v a,.v b]) []):qB9 S (.tup [.v a,.v b]) Q :=
 ⟨[],by simp,rfl,.tup fun x hx=>by simp at hx;rcases hx with rfl|rfl <;> exact .v _,fun id h=>by simp at h,by rw [HV.ren];simp only [List.map_cons,List.map_nil,HV.ren];exact q⟩
theorem qNe {a b c:Value} (q:Q (.tup [.v a,.v b,.v c]) []):qB9 S (.tup [.v a,.v b,.v c]) Q :=
 ⟨[],by simp,rfl,.tup fun x hx=>by simp at hx;rcases hx with rfl|rfl|rfl <;> exact .v _,fun id h=>by simp at h,by rw [HV.ren];simp only [List.map_cons,List.map_nil,HV.ren];exact q⟩
theorem xX {id ty sz:Nat} {els:List (List FV)} (hr:rlk S.st id=some (.sl true ty sz els)) (hf:∀ x ∈ els,∀ f ∈ x,FreshF f) (q:Q (.own 0) [(0,.sl true ty sz els)]):qB9 S (.own id) Q :=
 ⟨[id],by simp,by simp [dup],.own _,fun i h r hr'=>by
  simp at h;subst h;rw [hr] at hr';simp only [Option.some.injEq] at hr';subst hr';exact ⟨rfl,hf⟩,by
  rw [HV.ren];simp only [pos,if_true,jR,hr,Row.ren];exact q⟩
theorem eU {id ty sz:Nat} {els:List (List FV)} {b:Value} (hr:rlk S.st id=some (.sl true ty sz els)) (hf:∀ x ∈ els,∀ f ∈ x,FreshF f) (q:Q (.tup [.own 0,.v b]) [(0,.sl true ty sz els)]):qB9 S (.tup [.own id,.v b]) Q :=
 ⟨[id],by simp,by simp [dup],.tup fun x hx=>by simp at hx;rcases hx with rfl|rfl <;> first|exact .v _|exact .own _,fun i h r hr'=>by
  simp at h;subst h;rw [hr] at hr';simp only [Option.some.injEq] at hr';subst hr';exact ⟨rfl,hf⟩,by
  rw [HV.ren];simp only [List.map_cons,List.map_nil,HV.ren,pos,if_true,jR,hr,Row.ren];exact q⟩
end
end Go.Eng
end

section
namespace Go.Eng
open Go Go.RowKit
theorem qXw (j:Nat):qHc [] j=none:=nr rfl
theorem qSv (k:Nat) (r:List Nat) (j:Nat):qHc (k :: r) j=if j=0 then some k else qHc r (j - 1):=by cases j <;> simp [qHc]
theorem zJ5 (ids:List Nat) (n j:Nat):sh2 ids n j=match qHc ids j with|some i=>some i|none=>bif decide (j < 8) then some (n + j) else none:=by
 unfold sh2;split <;> rename_i h <;> rw [h];congr 1;rw [Bool.eq_iff_iff];simp [Nat.blt_eq]
theorem zEu (i:Nat):inL [] i=false:=nr rfl
theorem qYi (k:Nat) (r:List Nat) (i:Nat):inL (k :: r) i=(k == i || inL r i):=nr rfl
theorem qTa:zB9 none=true:=nr rfl
theorem zEp (nw:Bool) (t s:Nat) (xs:List (List FV)):zB9 (some (.sl nw t s xs))=true:=nr rfl
theorem zEr (nw:Bool) (t:Nat) (cs:List HV):zB9 (some (.bx nw t cs))=false:=nr rfl
theorem zEq (nw:Bool) (t s:Nat) (xs:List (List HV)):zB9 (some (.hl nw t s xs))=true:=nr rfl
theorem zEt (nw:Bool) (t s:Nat) (xs:List (List HV)):pF (some (.hl nw t s xs))=False:=nr rfl
theorem qTb:pF none=False:=nr rfl
theorem zEs (nw:Bool) (t s:Nat) (xs:List (List FV)):pF (some (.sl nw t s xs))=False:=nr rfl
theorem zLp (t:Nat) (cs:List HV):pF (some (.bx true t cs))=False:=nr rfl
theorem zLq (t:Nat) (cs:List HV):pF (some (.bx false t cs))=True:=nr rfl
theorem qRr (ids:List Nat) (st:aD) (n i:Nat):qDr ids st n i=(fC n i || (inL ids i && zB9 (rlk st i))):=nr rfl
theorem zFm (ids:List Nat) (n i:Nat):qF5 ids n i=(fC n i || inL ids i):=nr rfl
theorem qSu (ids:List Nat) (st:aD) (j:Nat):kV ids st j=match qHc ids j with|some i=>rlk st i|none=>none:=nr rfl
theorem zGd (nw:Bool) (t s:Nat) (xs:List (List FV)):(Row.sl nw t s xs).dark=.sl nw t s xs:=nr rfl
theorem zGf (nw:Bool) (t:Nat) (cs:List HV):(Row.bx nw t cs).dark=.bx false t cs:=nr rfl
theorem zGe (nw:Bool) (t s:Nat) (xs:List (List HV)):(Row.hl nw t s xs).dark=.hl nw t s xs:=nr rfl
theorem zF8 (o:Option Row) (nw:Bool) (t s:Nat) (xs:List (List HV)):(Row.hl nw t s xs).flag o=.hl nw t s xs:=by
 cases o with
|none=>rfl
|some o=>cases o <;> rfl
theorem qZ3 (r:Row) (nw:Bool) (t s:Nat) (xs:List (List HV)):r.flag (some (.hl nw t s xs))=r:=by cases r <;> rfl
theorem qUw (r:Row):r.flag none=r:=nr rfl
theorem zF7 (o:Option Row) (nw:Bool) (t s:Nat) (xs:List (List FV)):(Row.sl nw t s xs).flag o=.sl nw t s xs:=by
 cases o with
|none=>rfl
|some o=>cases o <;> rfl
theorem zF9 (nw n2:Bool) (t t2:Nat) (cs c2:List HV):(Row.bx n2 t2 c2).flag (some (.bx nw t cs))=.bx nw t2 c2:=nr rfl
theorem qZ2 (r:Row) (nw:Bool) (t s:Nat) (xs:List (List FV)):r.flag (some (.sl nw t s xs))=r:=by cases r <;> rfl
theorem qU5 (m:Nat→Option Nat) (st:aD) (k:Nat):tE m st k []=[]:=nr rfl
theorem qQq (m:Nat→Option Nat) (st:aD) (k id:Nat) (r:List Nat):tE m st k (id :: r)=match rlk st id with|some row=>(k,(row.ren m).dark) :: tE m st (k + 1) r|none=>tE m st (k + 1) r:=nr rfl
theorem zC8 (S0:aD) (ids:List Nat) (n:Nat) (b:aD):swp S0 ids n [] b=b:=nr rfl
theorem qWr (S0:aD) (ids:List Nat) (n j:Nat) (r:Row) (t b:aD):swp S0 ids n ((j,r) :: t) b=((sh2 ids n j).getD 0,(r.ren (sh2 ids n)).flag (kV ids S0 j)) :: swp S0 ids n t b:=nr rfl
theorem zC9 (e:aK) (s:aD) (ids:List Nat) (n:Nat) (st:aD):HS.swap ⟨e,s⟩ ids n st=⟨jS (qDr ids s n) e,swp s ids n st (dF (qF5 ids n) s)⟩:=nr rfl
theorem zJl (st:aD) (k:Nat):qQz st k []=True:=nr rfl
theorem yL (st:aD) (k id:Nat) (r:List Nat):qQz st k (id :: r)=((pF (rlk st id)→k=id)∧qQz st (k + 1) r):=nr rfl
theorem zHy (ids:List Nat) (st:aD):uD ids st []=True:=nr rfl
theorem zLk (ids:List Nat) (st:aD) (j:Nat) (nw:Bool) (t s:Nat) (xs:List (List FV)) (r:aD):uD ids st ((j,.sl nw t s xs) :: r)=uD ids st r:=nr rfl
theorem zLl (ids:List Nat) (st:aD) (j:Nat) (nw:Bool) (t s:Nat) (xs:List (List HV)) (r:aD):uD ids st ((j,.hl nw t s xs) :: r)=uD ids st r:=nr rfl
theorem zLm (ids:List Nat) (st:aD) (j:Nat) (t:Nat) (cs:List HV) (r:aD):uD ids st ((j,.bx true t cs) :: r)=uD ids st r:=nr rfl
theorem zLn (ids:List Nat) (st:aD) (j:Nat) (t:Nat) (cs:List HV) (r:aD):uD ids st ((j,.bx false t cs) :: r)=((qHc ids j=some j∧pF (rlk st j))∧uD ids st r):=by
 rw [qA];rfl
theorem cB (P:Program) (rs:List ResultVar) (st0:aD) (Q:HV→aD→Prop) (S:HS):zCe P rs st0 Q .normal S=tP P S rs fun hs=>qQ9 st0 S (qD6 hs) Q:=rfl
theorem dR (P:Program) (rs:List ResultVar) (st0:aD) (Q:HV→aD→Prop) (S:HS):zCe P rs st0 Q .ret S=tP P S rs fun hs=>qQ9 st0 S (qD6 hs) Q:=rfl
theorem pT (ids:List Nat) {st0:aD} {S:HS} {h:HV} {Q:HV→aD→Prop} (h1:ids.length≤8) (h2:dup ids=false) (h3:qQz S.st 0 ids) (h4:uD ids S.st st0) {h':HV} {st':aD} (h5:h.ren (pos ids)=h') (h6:jR (pos ids) S.st 0 ids=st') (q:Q h' st'):qQ9 st0 S h Q :=
 ⟨ids,h1,h2,h3,h4,by rw [h5,h6];exact q⟩
theorem fQ:qD6 []=.tup []:=nr rfl
section
variable {P:Program} {N:Nat} {x:Code} {Q:gG} {S S':HS}
theorem zQs (id k nid ty sz:Nat) {nw:Bool} {bt:Nat} {cells:List HV} (hne:id≠nid) (hr:rlk S.st id=some (.bx nw bt cells)) (hk:cells[k]?=some (.v (.slice none 0 0)))
  (hs:(⟨jS (only nid) S.env,(nid,.sl true ty sz []) :: jV id (.bx nw bt ((cells.map (HV.kill (only nid))).set k (.own nid))) (dF (only nid) S.st)⟩:HS)=S') (h:HW P N x Q S'):HW P N x Q S:=fun c l w I=>by
 subst hs;refine h c l w ?_;obtain ⟨ρ,xs,G⟩:=I
 have G2:=G.new nid (.sl true ty sz []) [] (.slice none 0 0) (w':=w) (Below.refl _ _) (fun b hb=>by cases hb) (fun _ _ =>
  ⟨by rw [aF];exact World.ownsRow_nil w 0 ty sz,⟨by simp,fun i k hi=>absurd hi (by simp)⟩,fun b hb=>by rw [aF] at hb;cases hb⟩)
 have hr2:rlk (dF (only nid) S.st) id=some (.bx nw bt (cells.map (HV.kill (only nid)))):=by rw [fL,oP hne,cond_false,hr];rfl
 have hl:∀ i,rlk ((nid,Row.sl true ty sz []) :: jV id (.bx nw bt ((cells.map (HV.kill (only nid))).set k (.own nid))) (dF (only nid) S.st)) i =
   if i=id then some (.bx nw bt ((cells.map (HV.kill (only nid))).set k (.own nid))) else rlk ((nid,Row.sl true ty sz []) :: dF (only nid) S.st) i:=fun i=>by
  simp only [rlk]
  by_cases e:nid=i
  ·rw [if_pos e,if_neg (by omega),if_pos e]
  ·rw [if_neg e,jW id _ _ _ hr2]
   by_cases e2:i=id
   ·rw [if_pos e2,if_pos e2]
   ·rw [if_neg e2,if_neg e2,if_neg e]
 have hid:rlk ((nid,Row.sl true ty sz []) :: dF (only nid) S.st) id=some (.bx nw bt (cells.map (HV.kill (only nid)))):=by simp only [rlk];rw [if_neg (by omega)];exact hr2
 have hA:∀ b,c.A (eZ ρ nid (.slice none 0 0)) ((nid,Row.sl true ty sz []) :: jV id (.bx nw bt ((cells.map (HV.kill (only nid))).set k (.own nid))) (dF (only nid) S.st)) b→c.A (eZ ρ nid (.slice none 0 0)) ((nid,Row.sl true ty sz []) :: dF (only nid) S.st) b:=by
  rintro b (h0|⟨i,s,hi,hb⟩)
  ·exact .inl h0
  ·right
   rw [hl] at hi
   by_cases e:i=id
   ·subst e;exact ⟨_,_,hid,hb⟩
   ·rw [if_neg e] at hi;exact ⟨i,s,hi,hb⟩
 refine ⟨eZ ρ nid (.slice none 0 0),fun i=>if i=nid then [] else xs i,⟨fun i r hi=>?_,fun i j r s b hne hi hj hbi hbj=>?_,fun j y hj=>?_,G2.kept,G2.a0⟩⟩
 ·rw [hl] at hi
  by_cases e:i=id
  ·subst e;rw [if_pos rfl] at hi;simp only [Option.some.injEq] at hi;subst hi
   have R:=G2.rows i _ hid
   refine ⟨by simpa [Row.ty,Row.sz,Row.len] using R.own,⟨R.rep.1,fun q hq=>?_⟩,R.new⟩
   have hq':q < (cells.map (HV.kill (only nid))).length:=by simpa using hq
   obtain ⟨u,u1,u2,u3⟩:=R.rep.2 q hq'
   by_cases eq:k=q
   ·subst eq;refine ⟨u,u1,u2,?_⟩;rw [List.getElem_set_self]
    have hc:cells[k]'(by simpa using hq')=.v (.slice none 0 0):=by
     have:=List.getElem?_eq_some_iff.1 hk
     exact this.2
    rw [List.getElem_map,hc,HV.kill] at u3
    have:=bL u3
    subst this
    have:=RepH.own (w:=w) (A:=c.A (eZ ρ nid (.slice none 0 0)) ((nid,Row.sl true ty sz []) :: jV i (.bx nw bt ((cells.map (HV.kill (only nid))).set k (.own nid))) (dF (only nid) S.st))) (n0:=c.n0) (ρ:=eZ ρ nid (.slice none 0 0)) nid (by rw [aF];rfl)
    rw [aF] at this;exact this
   ·refine ⟨u,u1,u2,?_⟩;rw [List.getElem_set_ne eq];exact u3.up (Nat.le_refl _) (fun _ _ _=>rfl) (fun b _=>hA b) (Nat.le_refl _)
  ·rw [if_neg e] at hi;exact (G2.rows i r hi).up (Nat.le_refl _) (fun _ _ _=>rfl) (fun b _=>hA b) (fun _ _=>rfl)
 ·have back:∀ i s,rlk ((nid,Row.sl true ty sz []) :: jV id (.bx nw bt ((cells.map (HV.kill (only nid))).set k (.own nid))) (dF (only nid) S.st)) i=some s→∃ s0,rlk ((nid,Row.sl true ty sz []) :: dF (only nid) S.st) i=some s0:=by
   intro i s hi;rw [hl] at hi
   by_cases e:i=id
   ·subst e;exact ⟨_,hid⟩
   ·rw [if_neg e] at hi;exact ⟨s,hi⟩
  obtain ⟨r0,h1⟩:=back i r hi;obtain ⟨s0,h2⟩:=back j s hj;exact G2.apart i j r0 s0 b hne h1 h2 hbi hbj
 ·obtain ⟨v,h1,h2⟩:=G2.env j y hj;exact ⟨v,h1,h2.up (Nat.le_refl _) (fun _ _ _=>rfl) (fun b _=>hA b) (Nat.le_refl _)⟩
end
section
variable {P:Program} {N:Nat} {x:Code} {Q:gG} {S:HS} {id:Nat} {R:HS→Prop}
end
end Go.Eng
end

section
namespace Go.Eng
open Go Go.RowKit
def zLx (R:HS→Prop) (Q:gG):gG
|.normal,S=>R S
|e,S=>Q e S
section
variable {P:Program} {N:Nat} {x:Code} {Q:gG} {S:HS} {R:HS→Prop}
theorem vC (h:R S):zLx R Q .normal S:=h
theorem uU {ι:Type} (E:ι→HS) (I:ι→Prop) (ks ids:List Nat) (hx:HW P N x (zLx (fun S'=>∃ j,S'.keep ks ids=E j∧I j) Q) S) (hy:∀ S' j,S'.keep ks ids=E j→I j→Q .normal S'):HW P N x Q S :=
 hx.mono fun e S' h=>by
  cases e with
 |normal=>obtain ⟨j,hE,hI⟩:=h;exact hy S' j hE hI
 |_=>exact h
end
theorem eW {P:Program} {N:Nat} {x:Code} {Q:gG} {S S':HS} (k id ty sz:Nat) (hk:hlk S.env k=some (.v (.slice none 0 0))) (hs:((S.kill (only id)).row id (.sl true ty sz [])).rep k (.own id)=S') (h:HW P N x Q S'):HW P N x Q S:=zT8 k id ty sz hk (hs ▸ h)
end Go.Eng
end

section
namespace Go.Eng
open Go Go.RowKit
theorem qHs {P:Program} {N:Nat} {ds:List (Option Nat)} {K:Env→World→Prop}:∀ {ops more:List Oper} {l:Env} {w:World},VC P N ds (fun l w=>VC P N ds K more l w) ops l w→VC P N ds K (ops ++ more) l w
|[],more,l,w,h=>by rw [VC] at h;exact h
|o :: rest,more,l,w,h=>by
  rw [List.cons_append];rw [VC] at h ⊢;obtain ⟨b,hb,hd,h⟩:=qWa h
  have conv:∀ {k:Bool→Prop},k b→gd l ds o.guard k:=by
   intro k hkb;unfold gd at hb ⊢;split
   ·rename_i hg;rw [hg] at hb;dsimp only at hb;rw [hb];exact hkb
   ·rename_i j want hg;rw [hg] at hb;dsimp only at hb;split
    ·rename_i d hd';rw [hd'] at hb;dsimp only at hb;split
     ·rename_i b' hb';rw [hb'] at hb;dsimp only at hb;rw [hb];exact hkb
     ·rename_i v hv hb';rw [hb'] at hb
      cases v <;> dsimp only at hb <;> first|(exact (hv _ rfl).elim)|(rw [hb];exact hkb)
     ·rename_i hb';rw [hb'] at hb;exact hb.elim
    ·rename_i hn;split at hb
     ·rename_i d hd';exact (hn d hd').elim
     ·exact hb.elim
  refine conv ⟨hd,?_⟩
  cases b with
 |true=>exact bF h fun v w' hv=>qHs hv
 |false=>exact qHs h
section
variable {P:Program} {N:Nat} {ds:List (Option Nat)} {K:HS→Prop} {S:HS} {Q:gG}
def zCz (P:Program) (N:Nat) (ds:List (Option Nat)) (K:HS→Prop) (ops:List Oper) (S:HS):Prop :=
 ∀ (c:Ctx) (l:Env) (w:World),Inv c S (lk l) w→VC P N ds (fun l w=>∃ S',Inv c S' (lk l) w∧K S') ops l w
theorem zN2 {ops:List Oper} (h:HV2 P N ds K ops S):zCz P N ds K ops S:=fun c l w I=>qAf (c:=c) ops S l w h I
theorem zN3 {ops:List Oper} (n:Nat) (ks ids:List Nat) (h:HV2 P N ds (fun S'=>mU (zCz P N ds K (ops.drop n)) (S'.keep ks ids)) (ops.take n) S):zCz P N ds K ops S:=fun c l w I=>by
 have:=qAf (c:=c) (ops.take n) S l w h I
 rw [← List.take_append_drop n ops];exact qHs (zJ.V.mono this fun l' w' ⟨S',I',q⟩=>(show zCz P N ds K (ops.drop n) (S'.keep ks ids) from q) c l' w' (I'.keep ks ids))
theorem zQr {id:Nat} {ops:List Oper} (h:∀ K:HS→Prop,(∀ S',Q .normal S'→K S')→zCz P N (cT ops) K ops S):HW P N (.region id ops.toArray false) Q S:=fun c l w I =>
 qQ7 fun K hK=>by
  have:=h (Q .normal) (fun _ h=>h) c l w I
  exact (zJ.V.mono this fun l' w' h=>hK l' w' h)
end
end Go.Eng
end

section
namespace Go.Eng
open Go Go.RowKit
def nm (a b:Nat):Nat→Option Nat:=fun i=>if i=a then some b else if i=b then none else some i
def qZ8 (m:Nat→Option Nat):aK→aK
|[]=>[]
|(k,h) :: r=>(k,h.ren m) :: qZ8 m r
def qVo (a b:Nat):aD→aD
|[]=>[]
|(k,r) :: t=>(if k=a then b else k,r.ren (nm a b)) :: qVo a b t
def HS.name (S:HS) (a b:Nat):HS:=⟨qZ8 (nm a b) S.env,qVo a b S.st⟩
theorem qY1 (m:Nat→Option Nat):∀ (l:aK) (k:Nat),hlk (qZ8 m l) k=(hlk l k).map (HV.ren m)
|[],k=>rfl
|(j,h) :: r,k=>by
  simp only [qZ8,hlk];split
  ·rfl
  ·exact qY1 m r k
theorem qXc {a b:Nat} (hab:a≠b):∀ (l:aD) (_:rlk l b=none) (k:Nat),rlk (qVo a b l) k=if k=b then (rlk l a).map (Row.ren (nm a b)) else if k=a then none else (rlk l k).map (Row.ren (nm a b))
|[],_,k=>by simp [qVo,rlk]
|(j,r) :: t,h,k=>by
  simp only [rlk] at h
  by_cases hj:j=b
  ·rw [if_pos hj] at h;cases h
  ·rw [if_neg hj] at h
   have ih:=qXc hab t h k
   simp only [qVo,rlk]
   by_cases e:j=a
   ·subst e;rw [if_pos rfl,if_pos rfl]
    by_cases e2:k=b
    ·subst e2;rw [if_pos rfl,if_pos rfl];rfl
    ·rw [if_neg (by omega),ih,if_neg e2,if_neg e2]
     by_cases e3:k=j
     ·rw [if_pos e3,if_pos e3]
     ·rw [if_neg e3,if_neg e3,if_neg (by omega)]
   ·rw [if_neg e,if_neg e]
    by_cases e2:j=k
    ·subst e2;rw [if_pos rfl,if_neg hj,if_neg e,if_pos rfl];rfl
    ·rw [if_neg e2,ih,if_neg e2]
section
variable {P:Program} {N:Nat} {x:Code} {Q:gG} {c:Ctx} {S S':HS} {look:Nat→Option Value} {w:World}
theorem Inv.name (I:Inv c S look w) {a b ty sz:Nat} {nw:Bool} {els:List (List FV)} (hab:a≠b) (hb:rlk S.st b=none) (ha:rlk S.st a=some (.sl nw ty sz els)):Inv c (S.name a b) look w:=by
 obtain ⟨ρ,xs,G⟩:=I
 let ρ':Nat→Value:=fun i=>if i=b then ρ a else ρ i
 let xs':Nat→List Value:=fun i=>if i=b then xs a else xs i
 have hm:∀ i j,nm a b i=some j→ρ' j=ρ i:=fun i j h=>by
  unfold nm at h
  by_cases e:i=a
  ·rw [if_pos e] at h;simp only [Option.some.injEq] at h;subst h;subst e;show (if b=b then _ else _)=_;rw [if_pos rfl]
  ·rw [if_neg e] at h
   by_cases e2:i=b
   ·rw [if_pos e2] at h;cases h
   ·rw [if_neg e2] at h;simp only [Option.some.injEq] at h;subst h;show (if i=b then _ else _)=_;rw [if_neg e2]
 have back:∀ i r,rlk (S.name a b).st i=some r→∃ j r0,nm a b j=some i∧rlk S.st j=some r0∧r=r0.ren (nm a b)∧xs' i=xs j:=by
  intro i r hi;simp only [HS.name,qXc hab _ hb] at hi
  by_cases e:i=b
  ·subst e;rw [if_pos rfl,ha] at hi;simp only [Option.map_some,Option.some.injEq] at hi;exact ⟨a,_,by simp [nm],ha,hi.symm,by show (if i=i then _ else _)=_;rw [if_pos rfl]⟩
  ·rw [if_neg e] at hi
   by_cases e2:i=a
   ·rw [if_pos e2] at hi;cases hi
   ·rw [if_neg e2] at hi
    cases hs:rlk S.st i with
   |none=>rw [hs] at hi;cases hi
   |some r0 =>
     rw [hs] at hi;simp only [Option.map_some,Option.some.injEq] at hi;exact ⟨i,r0,by simp [nm,e,e2],hs,hi.symm,by show (if i=b then _ else _)=_;rw [if_neg e]⟩
 have hA:∀ g,c.A ρ' (S.name a b).st g→c.A ρ S.st g:=by
  rintro g (h0|⟨i,r,hi,hg⟩)
  ·exact .inl h0
  ·obtain ⟨j,r0,h1,h2,-,-⟩:=back i r hi;rw [hm j i h1] at hg;exact .inr ⟨j,r0,h2,hg⟩
 have tr:∀ v y,RepH w (c.A ρ S.st) c.n0 ρ v y→RepH w (c.A ρ' (S.name a b).st) c.n0 ρ' v (y.ren (nm a b)):=fun v y h=>(h.up (Nat.le_refl _) (fun _ _ _=>rfl) (fun b _=>hA b) (Nat.le_refl _)).ren hm
 refine ⟨ρ',xs',fun i r hi=>?_,fun i j r s g hne hi hj hgi hgj=>?_,fun k y hk=>?_,G.kept,G.a0⟩
 ·obtain ⟨j,r0,h1,h2,rfl,h4⟩:=back i r hi
  have R:=G.rows j r0 h2
  obtain ⟨f1,f2,f3,f4⟩:=Row.ren_facts (nm a b) r0;rw [h4];refine ⟨by rw [f1,f2,f3,hm j i h1];exact R.own,?_,fun g hg=>by rw [f4];rw [hm j i h1] at hg;exact R.new g hg⟩
  have rp:=R.rep
  cases r0 with
 |sl nw ty sz els =>
   refine ⟨rp.1,fun p k hp hk=>?_⟩
   obtain ⟨u,u1,u2,u3⟩:=rp.2 p k hp hk;exact ⟨u,u1,u2,u3.up (Nat.le_refl _) (fun _ _ _=>rfl) (fun b _=>hA b) (Nat.le_refl _)⟩
 |bx nw ty cells =>
   refine ⟨?_,fun k hk=>?_⟩
   ·have hji:j=i:=by
     unfold nm at h1
     by_cases e:j=a
     ·subst e;rw [ha] at h2;cases h2
     ·rw [if_neg e] at h1
      by_cases e2:j=b
      ·rw [if_pos e2] at h1;cases h1
      ·rw [if_neg e2] at h1;exact Option.some.inj h1
    rw [hm j i h1];rw [← hji];exact rp.1
   ·rw [List.length_map] at hk;obtain ⟨u,u1,u2,u3⟩:=rp.2 k hk;refine ⟨u,u1,u2,?_⟩;rw [List.getElem_map];exact tr _ _ u3
 |hl nw ty sz els =>
   refine ⟨fun y hy=>?_,fun p k hp hk=>?_⟩
   ·obtain ⟨z,hz,rfl⟩:=List.mem_map.1 hy;rw [List.length_map];exact rp.1 z hz
   ·simp only [List.length_map] at hp;simp only [List.getElem_map,List.length_map] at hk ⊢;obtain ⟨u,u1,u2,u3⟩:=rp.2 p k hp hk;exact ⟨u,u1,u2,tr _ _ u3⟩
 ·obtain ⟨i',r0,h1,h2,-,-⟩:=back i r hi;obtain ⟨j',s0,h3,h4,-,-⟩:=back j s hj;rw [hm i' i h1] at hgi;rw [hm j' j h3] at hgj;exact G.apart i' j' r0 s0 g (fun e=>hne (by subst e;rw [h1] at h3;exact Option.some.inj h3)) h2 h4 hgi hgj
 ·simp only [HS.name,qY1] at hk
  cases hx0:hlk S.env k with
 |none=>rw [hx0] at hk;cases hk
 |some x0 =>
   rw [hx0] at hk;simp only [Option.map_some,Option.some.injEq] at hk;subst hk;obtain ⟨v,h1,h2⟩:=G.env k x0 hx0;exact ⟨v,h1,tr v x0 h2⟩
theorem qAc (a b:Nat) {ty sz:Nat} {nw:Bool} {els:List (List FV)} (hab:a≠b) (hb:rlk S.st b=none) (ha:rlk S.st a=some (.sl nw ty sz els)) (hs:S.name a b=S') (h:HW P N x Q S'):HW P N x Q S:=fun c l w I=>h c l w (hs ▸ I.name hab hb ha)
def HV.trim (id n:Nat):HV→HV
|.own i=>if i=id then .junk else .own i
|.vw i sz o k=>if i=id then (if o=0∧k=n then .own id else .junk) else .vw i sz o k
|.ptr i sz j k=>if i=id then .junk else .ptr i sz j k
|.agg cs=>.agg (cs.map (trim id n))
|.tup cs=>.tup (cs.map (trim id n))
|.v x=>.v x
|.lst fr xs=>.lst fr xs
|.elt fr xs sz i k=>.elt fr xs sz i k
|.junk=>.junk
def Row.trim (id n:Nat):Row→Row
|.sl nw t s xs=>.sl nw t s xs
|.bx nw t cs=>.bx nw t (cs.map (HV.trim id n))
|.hl nw t s xs=>.hl nw t s (xs.map (List.map (HV.trim id n)))
def qKc (id n:Nat):aK→aK
|[]=>[]
|(k,h) :: r=>(k,h.trim id n) :: qKc id n r
def qEq (id n:Nat):aD→aD
|[]=>[]
|(k,r) :: t=>(if k=id then (k,match r with|.sl nw t s xs=>.sl nw t s (xs.take n)|r=>r) else (k,r.trim id n)) :: qEq id n t
def HS.trim (S:HS) (id n:Nat):HS:=⟨qKc id n S.env,qEq id n S.st⟩
theorem qTu (id n:Nat):∀ (l:aK) (k:Nat),hlk (qKc id n l) k=(hlk l k).map (HV.trim id n)
|[],k=>rfl
|(j,h) :: r,k=>by
  simp only [qKc,hlk];split
  ·rfl
  ·exact qTu id n r k
theorem qSd (id n:Nat):∀ (l:aD) (k:Nat),rlk (qEq id n l) k=if k=id then (rlk l k).map (fun r=>match r with|.sl nw t s xs=>.sl nw t s (xs.take n)|r=>r) else (rlk l k).map (Row.trim id n)
|[],k=>by simp [qEq,rlk]
|(j,r) :: t,k=>by
  have ih:=qSd id n t k
  simp only [qEq]
  by_cases e:j=id
  ·subst e;rw [if_pos rfl];simp only [rlk]
   by_cases e2:j=k
   ·subst e2;rw [if_pos rfl,if_pos rfl,if_pos rfl];rfl
   ·rw [if_neg e2,if_neg e2];exact ih
  ·rw [if_neg e];simp only [rlk]
   by_cases e2:j=k
   ·subst e2;rw [if_pos rfl,if_neg e,if_pos rfl];rfl
   ·rw [if_neg e2,if_neg e2];exact ih
end
theorem xV (e:aK) (s:aD) (a b:Nat):HS.name ⟨e,s⟩ a b=⟨qZ8 (nm a b) e,qVo a b s⟩:=rfl
theorem qMp (a b i:Nat):nm a b i=if i=a then some b else if i=b then none else some i:=rfl
theorem sX (m:Nat→Option Nat):qZ8 m []=[]:=rfl
theorem oG (m:Nat→Option Nat) (k:Nat) (h:HV) (r:aK):qZ8 m ((k,h) :: r)=(k,h.ren m) :: qZ8 m r:=rfl
theorem rC (a b:Nat):qVo a b []=[]:=rfl
theorem nW (a b k:Nat) (r:Row) (t:aD):qVo a b ((k,r) :: t)=(if k=a then b else k,r.ren (nm a b)) :: qVo a b t:=rfl
theorem zC6 (e:aK) (s:aD) (id n:Nat):HS.trim ⟨e,s⟩ id n=⟨qKc id n e,qEq id n s⟩:=rfl
theorem qU0 (id n:Nat):qKc id n []=[]:=rfl
theorem qQi (id n k:Nat) (h:HV) (r:aK):qKc id n ((k,h) :: r)=(k,h.trim id n) :: qKc id n r:=rfl
theorem qRx (id n:Nat):qEq id n []=[]:=rfl
theorem qLa (id n k:Nat) (r:Row) (t:aD):qEq id n ((k,r) :: t)=(if k=id then (k,match r with|.sl nw t s xs=>.sl nw t s (xs.take n)|r=>r) else (k,r.trim id n)) :: qEq id n t:=rfl
theorem zEz (id n:Nat) (x:Value):(HV.v x).trim id n=.v x:=by rw [HV.trim]
theorem qTh (id n:Nat) (fr:Bool) (xs:List (List FV)):(HV.lst fr xs).trim id n=.lst fr xs:=by rw [HV.trim]
theorem qTg (id n i:Nat):(HV.own i).trim id n=if i=id then .junk else .own i:=by rw [HV.trim]
theorem qYo (id n i sz o k:Nat):(HV.vw i sz o k).trim id n=if i=id then (if o=0∧k=n then .own id else .junk) else .vw i sz o k:=by rw [HV.trim]
theorem qTf (id n i sz j k:Nat):(HV.ptr i sz j k).trim id n=if i=id then .junk else .ptr i sz j k:=by rw [HV.trim]
theorem qTe (id n:Nat) (cs:List HV):(HV.tup cs).trim id n=.tup (cs.map (HV.trim id n)):=by rw [HV.trim]
theorem qTi (id n:Nat) (cs:List HV):(HV.agg cs).trim id n=.agg (cs.map (HV.trim id n)):=by rw [HV.trim]
theorem qM9 (id n:Nat):HV.junk.trim id n=.junk:=by rw [HV.trim]
theorem qW8 (id n:Nat) (nw:Bool) (t s:Nat) (xs:List (List FV)):(Row.sl nw t s xs).trim id n=.sl nw t s xs:=rfl
theorem qXa (id n:Nat) (nw:Bool) (t:Nat) (cs:List HV):(Row.bx nw t cs).trim id n=.bx nw t (cs.map (HV.trim id n)):=rfl
theorem qW9 (id n:Nat) (nw:Bool) (t s:Nat) (xs:List (List HV)):(Row.hl nw t s xs).trim id n=.hl nw t s (xs.map (List.map (HV.trim id n))):=rfl
end Go.Eng
end
