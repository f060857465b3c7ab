/-
  The engine of values: texts Rel, Hr, Hk, Hl, Hlo, He, Enc, Ste, Met, Spl, Nam, laid together.
-/
import Derived.Test.YtmgilahhnbopmaaEng
import Derived.Test.YtmgilahhnbopmaaGb
set_option linter.unusedSimpArgs false
set_option linter.unusedVariables false
section
namespace Go.Eng
open Go Go.RowKit
section
variable {P:Program} {N:Nat} {C:World→Prop} {ops:List Oper} {n:Nat} {l:Env} {R:Nat→Value→World→Prop}
def iY (l:Env) (ops:List Oper) (vs:Nat→Value):Nat→Env
|0=>l
|i + 1=>stp (aS ops i) (vs i) (iY l ops vs i)
def DLt (N:Nat) (ops:List Oper) (n:Nat):Prop:=∀ i t,i < n→aS ops i=some t→t < N
variable {vs:Nat→Value}
theorem qE6 (hl:DLt N ops n) (hk:dY N l=true):∀ i,i≤n→dY N (iY l ops vs i)=true
|0,_=>hk
|i + 1,hi=>xE (qE6 hl hk i (by omega)) (fun k e=>hl i k (by omega) e)
theorem oU (base:Array Value) (t:Nat):∀ i,(∀ j,j < i→aS ops j≠some t) →
  lk (iY l ops vs i) t=lk l t∧(kN base (iY l ops vs i))[t]?=(kN base l)[t]?
|0,_=>⟨rfl,rfl⟩
|i + 1,h=>by
  obtain ⟨h1,h2⟩:=oU base t i (fun j hj=>h j (by omega))
  have hne:=h i (by omega)
  simp only [iY]
  cases hd:aS ops i with
 |none=>exact ⟨h1,h2⟩
 |some d =>
   have:d≠t:=fun e=>hne (by rw [hd,e])
   simp only [stp,lk,kN,if_neg this];exact ⟨h1,by rw [Array.getElem?_setIfInBounds_ne this];exact h2⟩
theorem oV (hl:DLt N ops n) {base:Array Value} (hbase:base.size=N) {t j:Nat} (hj:aS ops j=some t) (huniq:∀ k,k < n→k≠j→aS ops k≠some t):∀ i,i≤n→j < i →
  lk (iY l ops vs i) t=some (vs j)∧(kN base (iY l ops vs i))[t]?=some (vs j)
|0,_,h=>absurd h (Nat.not_lt_zero _)
|i + 1,hi,h=>by
  simp only [iY]
  by_cases e:j=i
  ·subst e;rw [hj];simp only [stp,lk,kN,if_true,true_and];rw [Array.getElem?_setIfInBounds_self_of_lt (by rw [nC,hbase];exact hl j t (by omega) hj)]
  ·obtain ⟨h1,h2⟩:=oV hl hbase hj huniq i (by omega) (by omega)
   have hne:=huniq i (by omega) (Ne.symm e)
   cases hd:aS ops i with
  |none=>exact ⟨h1,h2⟩
  |some d =>
    have:d≠t:=fun e=>hne (by rw [hd,e])
    simp only [stp,lk,kN,if_neg this];exact ⟨h1,by rw [Array.getElem?_setIfInBounds_ne this];exact h2⟩
theorem zCg {keys:List Nat} (ok:RegOk keys ops n) (F:Fr N) (hk:dY N l=true) (dB:∀ t ∈ keys,∃ v,lk l t=some v) (hlt:DLt N ops n)
  {Le:Nat→World→World→Prop} (hLe:∀ i w,Le i w w) (hS:∀ j i u w w',j < n→i < n→j≠i→C w→R j u w→Le i w w'→R j u w')
  (H:∀ i o,i < n→ops[i]?=some o→∀ (vs:Nat→Value) (w:World),C w→(∀ j t,j < i→aS ops j=some t→t ∈ o.looksAt ops.toArray→R j (vs j) w) →
   ∃ b,gd (iY l ops vs i) (eH ops) o.guard (·=b)∧(b=true→Yields P (execOp (evD (iY l ops vs i)) o) w fun u w'=>R i u w'∧C w'∧Le i w w')∧(b=false→R i undef w))
  {Q:Exit→Act→World→Prop} (hT:∀ (vs:Nat→Value) (w:World),C w→(∀ j,j < n→R j (vs j) w)→wpListIn (FW F.ds.2) 0 P ops.toArray Q (ops.drop n) (mk F (iY l ops vs n)) w) :
  ∀ (fuel:Nat) (listed:Array Bool) (a:Act) (w:World) (vs:Nat→Value),unl listed=fuel→Mid N C ops n (kN F.base l) F.ds.1 vs listed a w→(∀ j,j < n→listed.getD j false=true→R j (vs j) w)→wpAnyIn (FW F.ds.2) 0 P .any ops.toArray Q fuel listed a w:=by
 have uniq:∀ i j t,i < n→j < n→aS ops i=some t→aS ops j=some t→i=j:=by
  intro i j t hi hj h1 h2
  rcases Nat.lt_trichotomy i j with h|h|h
  ·rcases ok.uniq j i hj h with e|e
   ·rw [h2] at e;cases e
   ·exact absurd (h2.trans h1.symm) e
  ·exact h
  ·rcases ok.uniq i j hi h with e|e
   ·rw [h1] at e;cases e
   ·exact absurd (h1.trans h2.symm) e
 have final:∀ (listed:Array Bool) (a:Act) (w:World) (vs:Nat→Value),Mid N C ops n (kN F.base l) F.ds.1 vs listed a w→(∀ j,j < n→listed.getD j false=true)→a=mk F (iY l ops vs n):=by
  intro listed a w vs M hall;obtain ⟨tm,df⟩:=a
  have hd:df=F.ds.1:=M.defers
  subst hd;show Act.mk _ _=Act.mk _ _
  congr 1
  apply Array.ext_getElem?
  intro t
  by_cases h:∃ j,j < n∧aS ops j=some t
  ·obtain ⟨j,hj,hd⟩:=h
   have h1:=M.new j t hj (hall j hj) hd
   have h2:=(oV (l:=l) (vs:=vs) hlt F.hN hd (fun k hk hne e=>hne (uniq k j t hk hj e hd)) n (Nat.le_refl _) hj).2
   exact h1.trans h2.symm
  ·have h':∀ j,j < n→aS ops j≠some t:=fun j hj e=>h ⟨j,hj,e⟩
   have h1:=M.old t (fun j hj _=>h' j hj)
   have h2:=(oU (l:=l) (vs:=vs) F.base t n h').2
   exact h1.trans h2.symm
 have slot:∀ (listed:Array Bool) (a:Act) (w:World) (vs:Nat→Value) (i:Nat) (o:Oper) (t:Nat),Mid N C ops n (kN F.base l) F.ds.1 vs listed a w→i < n→ops[i]?=some o→i ∈ Region.ready .any ops.toArray listed→t ∈ o.looksAt ops.toArray →
   ∃ X,a.tmps[t]?=some X∧lk (iY l ops vs i) t=some X:=by
  intro listed a w vs i o t M hi ho hr ht;obtain ⟨l1,l2⟩:=ok.looks i o t hi ho ht
  by_cases h:∃ j,j < n∧aS ops j=some t
  ·obtain ⟨j,hj,hd⟩:=h;obtain ⟨hji,he⟩:=l1 j hj hd;exact ⟨vs j,M.new j t hj (fX hr he) hd,(oV (l:=l) (vs:=vs) hlt F.hN hd (fun k hk hne e=>hne (uniq k j t hk hj e hd)) i (by omega) hji).1⟩
  ·have h':∀ j,j < n→aS ops j≠some t:=fun j hj e=>h ⟨j,hj,e⟩
   rcases l2 with ⟨j,hj,hd⟩|hkey
   ·exact absurd hd (h' j (by omega))
   ·obtain ⟨v,hv⟩:=dB t hkey;refine ⟨v,?_,?_⟩
    ·rw [M.old t (fun j hj _=>h' j hj)];exact lB F hk hv
    ·rw [(oU (l:=l) (vs:=vs) F.base t i (fun j hj=>h' j (by omega))).1];exact hv
 intro fuel
 induction fuel with
|zero =>
  intro listed a w vs hu M MR
  have hall:∀ j,j < ops.length→listed.getD j false=true:=fun j hj=>qHm hu (by rw [M.size];exact hj)
  have hn:n=ops.length:=by
   rcases Nat.lt_or_ge n ops.length with h|h
   ·have:=M.heads n (hall n h);omega
   ·have:=ok.hn;omega
  have ha:=final listed a w vs M (fun j hj=>hall j (by omega))
  subst ha;exact sC ok 0 n listed _ w (by omega) (Nat.le_refl _) M.size (fun i hi=>⟨fun _=>by omega,fun _=>hall i hi⟩) (hT vs w M.cls fun j hj=>MR j hj (hall j (by omega)))
|succ fuel ih =>
  intro listed a w vs hu M MR
  by_cases hdone:∀ j,j < n→listed.getD j false=true
  ·have ha:=final listed a w vs M hdone
   subst ha
   have hcount:∀ (m:Nat) (x:Array Bool),x.size=ops.length→(∀ i,i < ops.length→(x.getD i false=true↔i < m))→m≤ops.length→m + unl x=ops.length:=by
    intro m;generalize hd:ops.length - m=d
    induction d generalizing m with
   |zero =>
     intro x hx hl hm
     have:unl x=0:=by
      unfold unl;rw [List.length_eq_zero_iff,List.filter_eq_nil_iff];intro b hb;obtain ⟨i,hi,rfl⟩:=List.getElem_of_mem hb
      have hi':i < x.size:=by simpa using hi
      have:=(hl i (by omega)).2 (by omega)
      simp only [Array.getD,hi',dite_true] at this;simp [show x.toList[i]=true from this]
     omega
   |succ d ihd =>
     intro x hx hl hm
     have hmlt:m < ops.length:=by omega
     have h0:x.getD m true=false:=by
      have:¬ x.getD m false=true:=fun e=>by have:=(hl m hmlt).1 e;omega
      have hm':m < x.size:=by omega
      simp only [Array.getD,hm',dite_true] at this ⊢
      simpa using this
     have:=ihd (m + 1) (by omega) (x.setIfInBounds m true) (by simpa using hx) (fun i hi=>by
      by_cases e:m=i
      ·subst e
       have:m < x.size:=by omega
       simp [this]
      ·rw [getD_set_ne false e,hl i hi];omega) (by omega)
     have:=qBd h0
     omega
   have hl:∀ i,i < ops.length→(listed.getD i false=true↔i < n):=fun i hi=>⟨M.heads i,hdone i⟩
   have:=hcount n listed M.size hl ok.hn
   exact sC ok (fuel + 1) n listed _ w (by omega) (Nat.le_refl _) M.size hl (hT vs w M.cls fun j hj=>MR j hj (hdone j hj))
  ·have hex:∃ j,j < n∧listed.getD j false≠true:=by
    refine Classical.byContradiction fun hne=>hdone fun j hj=>?_
    refine Classical.byContradiction fun h=>hne ⟨j,hj,h⟩
   have hn:=ok.hn
   have hready:∃ j,j ∈ Region.ready .any ops.toArray listed:=by
    obtain ⟨j,hj,hjl⟩:=hex
    have:∀ d j,j=d→j < n→listed.getD j false≠true→∃ j,j ∈ Region.ready .any ops.toArray listed:=by
     intro d
     induction d using Nat.strongRecOn with
    |_ d ihd =>
      intro j hd hj hjl;subst hd
      have ho:ops[j]?=some (ops[j]'(by omega)):=List.getElem?_eq_getElem _
      by_cases hall:∀ e ∈ (ops[j]'(by omega)).after,Region.binds .any e=true→listed.getD e.on false=true
      ·refine ⟨j,mem_ready.2 ⟨?_,ops[j]'(by omega),by simp,hall⟩⟩
       have h2:j < listed.size:=by rw [M.size];omega
       simp only [Array.getD,h2,dite_true] at hjl ⊢
       simpa using hjl
      ·have:∃ e ∈ (ops[j]'(by omega)).after,Region.binds .any e=true∧listed.getD e.on false≠true:=by
        refine Classical.byContradiction fun hne=>hall fun e he hb=>?_
        refine Classical.byContradiction fun h=>hne ⟨e,he,hb,h⟩
       obtain ⟨e,he,hb,hl⟩:=this
       have hlt:=ok.down j _ e ho he hb
       exact ihd e.on hlt e.on rfl (by omega) hl
    exact this j j rfl hj hjl
   obtain ⟨j0,hj0⟩:=hready;refine ⟨fun h0=>absurd hj0 (by rw [h0];simp),fun i hi=>?_⟩
   obtain ⟨hun,o,ho,hall⟩:=mem_ready.1 hi
   have ho':ops[i]?=some o:=by simpa using ho
   have hilt:i < ops.length:=(List.getElem?_eq_some_iff.1 ho').1
   have hin:i < n:=by
    rcases Nat.lt_or_ge i n with h|h
    ·exact h
    ·exfalso
     apply hdone
     have key:∀ d j,i - j=d→j < i→listed.getD j false=true:=by
      intro d
      induction d using Nat.strongRecOn with
     |_ d ihd =>
       intro j hd hji;obtain ⟨k,hk1,hk2,hk3⟩:=ok.tail i j hilt h hji
       rcases Nat.lt_or_ge k i with hki|hki
       ·exact M.clos k j (ihd (i - k) (by omega) k rfl hki) hk3
       ·have:k=i:=by omega
        subst this;exact fX hi hk3
     exact fun j hj=>key _ j rfl (by omega)
   have hu':unl (listed.setIfInBounds i true)=fuel:=by have:=qBd hun;omega
   have hdi:aS ops i=o.dst:=by unfold aS;rw [ho'];rfl
   have hlt':kM N o.dst:=by
    cases hd:o.dst with
   |none=>trivial
   |some t=>exact hlt i t hin (hdi.trans hd)
   let nxt:Value→Nat→Value:=fun u j=>if j=i then u else vs j
   have nxt_i:∀ u,nxt u i=u:=fun u=>if_pos rfl
   have nxt_ne:∀ u j,j≠i→nxt u j=vs j:=fun u j h=>if_neg h
   have rest:∀ u w',R i u w'→Le i w w'→∀ j,j < n→(listed.setIfInBounds i true).getD j false=true→R j (nxt u j) w':=by
    intro u w' hu hB j hj hl
    by_cases e:j=i
    ·subst e;rw [nxt_i];exact hu
    ·rw [nxt_ne u j e];rw [getD_set_ne false (Ne.symm e)] at hl;exact hS j i _ w w' hj hin e M.cls (MR j hj hl) hB
   have step:∀ u w',C w'→Mid N C ops n (kN F.base l) F.ds.1 (nxt u) (listed.setIfInBounds i true) (a.put o.dst u) w':=by
    intro u w' hC
    have hlt:=hlt'
    have hset:∀ j,(listed.setIfInBounds i true).getD j false=true→j=i∨listed.getD j false=true:=by
     intro j h
     by_cases e:i=j
     ·exact .inl e.symm
     ·rw [getD_set_ne false e] at h;exact .inr h
    have hseti:(listed.setIfInBounds i true).getD i false=true:=by
     have:i < listed.size:=by rw [M.size];exact hilt
     simp [this]
    refine ⟨by simpa using M.size,?_,?_,?_,?_,?_,?_,hC⟩
    ·intro k j hk he
     rcases hset k hk with rfl|hk
     ·exact getD_set_true (fX hi he)
     ·exact getD_set_true (M.clos k j hk he)
    ·intro k hk
     rcases hset k hk with rfl|hk
     ·exact hin
     ·exact M.heads k hk
    ·cases hd:o.dst <;> exact M.defers
    ·cases hd:o.dst with
    |none=>exact M.tsize
    |some d=>simp only [Act.put,Array.size_setIfInBounds];exact M.tsize
    ·intro j t hj hjl hd
     rcases hset j hjl with rfl|hjl'
     ·rw [hdi] at hd;rw [hd] at hlt ⊢;simp only [Act.put];rw [Array.getElem?_setIfInBounds_self_of_lt (by rw [M.tsize];exact hlt),nxt_i]
     ·by_cases e:j=i
      ·subst e;rw [hdi] at hd;rw [hd] at hlt ⊢;simp only [Act.put];rw [Array.getElem?_setIfInBounds_self_of_lt (by rw [M.tsize];exact hlt),nxt_i]
      ·rw [nxt_ne u j e]
       have h1:=M.new j t hj hjl' hd
       cases hdo:o.dst with
      |none=>exact h1
      |some d =>
        have hne:d≠t:=fun e'=>e (uniq j i t hj hin hd (by rw [hdi,hdo,e']))
        simp only [Act.put];rw [Array.getElem?_setIfInBounds_ne hne];exact h1
    ·intro t ht
     have h1:=M.old t (fun j hj hjl=>ht j hj (getD_set_true hjl))
     have h2:=ht i hin hseti
     rw [hdi] at h2
     cases hdo:o.dst with
    |none=>exact h1
    |some d =>
      have hne:d≠t:=fun e'=>h2 (by rw [hdo,e'])
      simp only [Act.put];rw [Array.getElem?_setIfInBounds_ne hne];exact h1
   obtain ⟨b,hb,hbt,hbf⟩:=H i o hin ho' vs w M.cls fun j t hj hd ht=>by
    obtain ⟨l1,-⟩:=ok.looks i o t hin ho' ht;exact MR j (by omega) (fX hi (l1 j (by omega) hd).2)
   have hw:Region.wanted o (yielded ops.toArray a.tmps)=b:=by
    unfold gd at hb;split at hb
    ·rename_i hg;simp only [Region.wanted,hg];exact hb
    ·rename_i g want hg;split at hb
     ·rename_i d hd;split at hb
      ·rename_i bb hbb
       have hdd:aS ops g=some d:=by
        unfold aS;simp only [eH,List.getElem?_map,Option.map_eq_some_iff] at hd;obtain ⟨x,hx,hx'⟩:=hd;simp [hx,hx']
       obtain ⟨X,hX1,hX2⟩:=slot listed a w vs i o d M hin ho' hi (jX hg hdd);rw [hbb] at hX2
       cases hX2
       have:yielded ops.toArray a.tmps g=some bb:=by
        unfold yielded;unfold aS at hdd;simp only [List.getElem?_toArray,hdd,Option.bind_some,hX1]
       simp only [Region.wanted,hg,this];rw [← hb]
       cases bb <;> cases want <;> rfl
      ·rename_i bb hnb hbb
       have hdd:aS ops g=some d:=by
        unfold aS;simp only [eH,List.getElem?_map,Option.map_eq_some_iff] at hd;obtain ⟨x,hx,hx'⟩:=hd;simp [hx,hx']
       obtain ⟨X,hX1,hX2⟩:=slot listed a w vs i o d M hin ho' hi (jX hg hdd);rw [hbb] at hX2
       cases hX2
       have:yielded ops.toArray a.tmps g=none:=by
        unfold yielded;unfold aS at hdd;simp only [List.getElem?_toArray,hdd,Option.bind_some,hX1];split
        ·rename_i b' e;cases e;exact (hnb b' rfl).elim
        ·rfl
       simp only [Region.wanted,hg,this];rw [← hb];rfl
      ·exact hb.elim
     ·exact hb.elim
   unfold wpOpIn;simp only [ho,hw]
   cases b with
  |true =>
    simp only [if_true];refine (mH ?_)
    have hcong:execOp a.eval o=execOp (evD (iY l ops vs i)) o:=by
     refine execOp_congr o (ok.sel i o ho') (fun x hx=>?_)
     cases x with
    |tmp t =>
      obtain ⟨X,hX1,hX2⟩:=slot listed a w vs i o t M hin ho' hi (vB hx);simp [Act.eval,evD,ev,hX1,hX2]
    |const c=>rfl
    |global g=>rfl
    |func f=>rfl
    rw [hcong];exact (hbt rfl).mono fun u w' ⟨hu,hC,hB⟩=>ih _ _ _ _ hu' (step u w' hC) (rest u w' hu hB)
  |false =>
    simp only [Bool.false_eq_true,if_false];exact ⟨fun _ _=>trivial,ih _ _ _ _ hu' (step undef w M.cls) (rest undef w (hbf rfl) (hLe i w))⟩
end
section
variable {P:Program} {N:Nat} {Q:qB5} {l:Env} {w:World}
theorem qW0 {id:Nat} {ops:List Oper} (keys:List Nat) (n:Nat) (hm:P.follows .mixedOrders=true) (dB:vD l=keys) (hok:qCf keys ops n=true) (hlt:DLt N ops n)
  {C:World→Prop} {R:Nat→Value→World→Prop} (hC:C w.drew) {Le:Nat→World→World→Prop} (hLe:∀ i w,Le i w w) (hS:∀ j i u w w',j < n→i < n→j≠i→C w→R j u w→Le i w w'→R j u w')
  (H:∀ i o,i < n→ops[i]?=some o→∀ (vs:Nat→Value) (w:World),C w→(∀ j t,j < i→aS ops j=some t→t ∈ o.looksAt ops.toArray→R j (vs j) w) →
   ∃ b,gd (iY l ops vs i) (eH ops) o.guard (·=b)∧(b=true→Yields P (execOp (evD (iY l ops vs i)) o) w fun u w'=>R i u w'∧C w'∧Le i w w')∧(b=false→R i undef w))
  (hT:∀ (vs:Nat→Value) (w:World),C w→(∀ j,j < n→R j (vs j) w)→VC P N (eH ops) (fun l' w'=>Q .normal l' w') (ops.drop n) (iY l ops vs n) w):W P N (.region id ops.toArray true) Q l w:=fun hk F=>by
 have ok:=wV hok
 refine wpIn_region_any hm ?_
 have:=zCg ok F hk (fun t ht=>qBp (by rw [dB];exact ht)) hlt hLe hS H (Q:=zG2 N F.ds Q)
  (fun vs w' hw' hR=>wN F (K:=fun l w=>Q .normal l w) (fun l' w' hk' hK=>⟨F,l',rfl,rfl,hk',hK⟩) _ _ _ (qE6 hlt hk n (Nat.le_refl _)) (hT vs w' hw' hR))
  ops.length (Array.replicate ops.length false) (mk F l) w.drew (fun _=>undef) (tU _)
  ⟨by simp,(fun i j hi=>by rw [getD_replicate_false] at hi;cases hi),(fun i hi=>by rw [getD_replicate_false] at hi;cases hi),rfl,by simp [mk,nC,F.hN],(fun j t _ hl=>by rw [getD_replicate_false] at hl;cases hl),fun t _=>rfl,hC⟩
  (fun j _ hl=>by rw [getD_replicate_false] at hl;cases hl)
 simpa using this
theorem zGa {id:Nat} {ops:List Oper} (keys:List Nat) (n:Nat) (hm:P.follows .mixedOrders=true) (dB:vD l=keys) (hok:qCf keys ops n=true) (hlt:DLt N ops n)
  {C:World→Prop} {R:Nat→Value→World→Prop} (hC:C w.drew) (hS:∀ i u w w',C w→R i u w→Below w.heap.size w w'→R i u w')
  (H:∀ i o,i < n→ops[i]?=some o→∀ (vs:Nat→Value) (w:World),C w→(∀ j t,j < i→aS ops j=some t→t ∈ o.looksAt ops.toArray→R j (vs j) w) →
   ∃ b,gd (iY l ops vs i) (eH ops) o.guard (·=b)∧(b=true→Yields P (execOp (evD (iY l ops vs i)) o) w fun u w'=>R i u w'∧C w'∧Below w.heap.size w w')∧(b=false→R i undef w))
  (hT:∀ (vs:Nat→Value) (w:World),C w→(∀ j,j < n→R j (vs j) w)→VC P N (eH ops) (fun l' w'=>Q .normal l' w') (ops.drop n) (iY l ops vs n) w):W P N (.region id ops.toArray true) Q l w :=
 qW0 keys n hm dB hok hlt hC (Le:=fun _ w w'=>Below w.heap.size w w') (fun _ w=>Below.refl _ _) (fun j _ u w w' _ _ _ hc hr hb=>hS j u w w' hc hr hb) H hT
end
end Go.Eng
end

section
namespace Go.Eng
open Go Go.RowKit

def cT:Operand→List Nat
|.tmp t=>[t]
|_=>[]
def wT:List Operand→List Nat
|[]=>[]
|x :: r=>cT x ++ wT r
def oZ:List (Nat × Operand)→List Nat
|[]=>[]
|(_,x) :: r=>cT x ++ oZ r
def qFq:Option Operand→List Nat
|some x=>cT x
|none=>[]
def qHy:Callee→List Nat
|.value x=>cT x
|_=>[]
def cE:Op→List Nat
|.move x=>cT x
|.assign x=>cT x
|.nilCheck x=>cT x
|.pick c a b=>cT c ++ (cT a ++ cT b)
|.extract x _=>cT x
|.field _ x _=>cT x
|.fieldAddr _ x _=>cT x
|.load _ x=>cT x
|.unOp _ _ x=>cT x
|.convert _ _ x=>cT x
|.indexAddr _ x i=>cT x ++ cT i
|.index _ x i=>cT x ++ cT i
|.slice _ x l h none=>cT x ++ (qFq l ++ qFq h)
|.binOp _ _ x y _=>cT x ++ cT y
|.build _ ps=>oZ ps.toList
|.buildSlice _ _ ps=>oZ ps.toList
|.makeSlice _ x y=>cT x ++ cT y
|.call ⟨k,args,_⟩=>qHy k ++ wT args.toList
|_=>[]
theorem jH {x:Operand} {t:Nat} (h:t ∈ cT x):x=.tmp t:=by
 cases x <;> simp [cT] at h
 subst h;rfl
theorem qHx:∀ {l:List Operand} {t:Nat},t ∈ wT l→Operand.tmp t ∈ l
|[],t,h=>by simp [wT] at h
|x :: r,t,h=>by
  simp only [wT,List.mem_append] at h
  rcases h with h|h
  ·rw [jH h];exact List.mem_cons_self ..
  ·exact List.mem_cons_of_mem _ (qHx h)
theorem qCm:∀ {l:List (Nat × Operand)} {t:Nat},t ∈ oZ l→Operand.tmp t ∈ l.map (·.2)
|[],t,h=>by simp [oZ] at h
|(k,x) :: r,t,h=>by
  simp only [oZ,List.mem_append] at h
  rcases h with h|h
  ·rw [List.map_cons,jH h];exact List.mem_cons_self ..
  ·rw [List.map_cons];exact List.mem_cons_of_mem _ (qCm h)
theorem qN0 {x:Option Operand} {t:Nat} (h:t ∈ qFq x):x=some (.tmp t):=by
 cases x with
|none=>simp [qFq] at h
|some x=>rw [jH h]
theorem qTp {o:Op} {t:Nat} (h:t ∈ cE o):Operand.tmp t ∈ o.operands:=by
 unfold cE at h;split at h
 all_goals try simp only [List.mem_append] at h
 case h_13=>
  simp only [Op.operands]
  rcases h with h|h|h
  ·rw [jH h];simp
  ·rw [qN0 h];simp
  ·rw [qN0 h];simp
 case h_15=>simpa [Op.operands] using qCm h
 case h_16=>simpa [Op.operands] using qCm h
 case h_18 =>
  simp only [Op.operands,Call.operands,Array.mem_append]
  rcases h with h|h
  ·refine .inl ?_;unfold qHy at h;split at h
   ·rw [jH h];simp
   ·simp at h
  ·exact .inr (by simpa using qHx h)
 case h_19=>simp at h
 all_goals
  simp only [Op.operands]
  first
 |(rw [jH h];simp;done)
 |(rcases h with h|h <;> (rw [jH h];simp))
 |(rcases h with h|h|h <;> (rw [jH h];simp))
def jL (ds:List (Option Nat)):Option (Nat × Bool)→List Nat
|none=>[]
|some (g,_)=>match ds[g]? with
 |some (some d)=>[d]
 |_=>[]
def kV (e:aN):List Nat→aN
|[]=>[]
|t :: r=>match hlk e t with
 |some h=>(t,h) :: kV e r
 |none=>kV e r
theorem uS {e:aN}:∀ {l:List Nat} {t:Nat} {h:HV},hlk (kV e l) t=some h→t ∈ l∧hlk e t=some h
|[],t,h,hh=>by simp [kV,hlk] at hh
|k :: r,t,h,hh=>by
  simp only [kV] at hh;split at hh
  ·rename_i x hx;simp only [hlk] at hh
   by_cases ek:k=t
   ·subst ek;rw [if_pos rfl] at hh;exact ⟨List.mem_cons_self ..,by rw [hx];exact hh⟩
   ·rw [if_neg ek] at hh;obtain ⟨a,b⟩:=uS hh;exact ⟨List.mem_cons_of_mem _ a,b⟩
  ·obtain ⟨a,b⟩:=uS hh;exact ⟨List.mem_cons_of_mem _ a,b⟩
def zHj (P:Program) (f:FuncId) (args:List HV) (T:HS) (K:HV→Prop):Prop :=
 aM P f=true∧∃ h,K h∧∀ (c:Ctx) (look:Nat→Option Value) (w:World) (ρ:Nat→Value) (xs:Nat→List Value) (vs:List Value),Good c T look w ρ xs→sP w (c.A ρ T.st) c.n0 ρ vs args →
  Calls P f vs.toArray w (Ret fun u w'=>RepH w' (c.A ρ T.st) c.n0 ρ u h∧Below w.heap.size w w')
def nJ:aN→Bool
|[]=>true
|(_,.v _) :: r=>nJ r
|(_,.lst _ _) :: r=>nJ r
|(_,.agg _) :: r=>nJ r
|_=>false
def zA5 (d:Option Nat) (S:HS) (K:HS→Prop):HOut→Prop
|.go c (.own i) S'=>match rlk S'.st i with
 |some (.sl _ _ _ els)=>c∧K (S.set d (.lst true els))
 |_=>False
|_=>False
def zG1:Op→Bool
|.buildSlice ..=>true
|.makeSlice ..=>true
|_=>false
def qB2 (P:Program) (o:Oper) (S T:HS) (K:HS→Prop):HOut→Prop
|.go c h _=>match fN o.op with
 |true=>c∧K (S.set o.dst h)
 |false=>match zG1 o.op && nJ T.env with
  |true=>zA5 o.dst S K (hop P ⟨T.env,[]⟩ (rS o.dst) o.op)
  |false=>False
|.call f args=>zHj P f args T (fun x=>mW K (S.set o.dst x))
|.eqn t x y neg=>∃ r,EqR P t x.toArray y.toArray r∧mW K (S.set o.dst (.v (.bool (neg ^^ r))))
|.bytes _ _=>False
|.bad=>False
def qYt (P:Program) (N:Nat) (o:Oper) (S T:HS) (K:HS→Prop):Prop:=match gZ N o.dst with
|true=>qB2 P o S T K (hop P T (rS o.dst) o.op)
|false=>False
def jC (P:Program) (N:Nat) (o:Oper) (S T:HS) (K:HS→Prop):GOut→Prop
|.yes=>qYt P N o S T K
|.no=>mX N o.dst S K
|.ask d b want=>match b == want with
 |true=>qYt P N o (S.rep d (.v (.bool want))) (T.rep d (.v (.bool want))) K
 |false=>mX N o.dst (S.rep d (.v (.bool (!want)))) K
|.bad=>False
def HVr (P:Program) (N:Nat) (ds:List (Option Nat)) (K:HS→Prop):List Oper→HS→Prop
|[],S=>K S
|o :: rest,S=>jC P N o S ⟨kV S.env (jL ds o.guard ++ cE o.op),S.st⟩ (HVr P N ds K rest) (hG (kV S.env (jL ds o.guard ++ cE o.op)) ds o.guard)
end Go.Eng
end

section
namespace Go.Eng
open Go Go.RowKit
section
variable {P:Program} {N:Nat} {c:Ctx} {S T:HS} {Q:gQ} {l:Env} {look:Nat→Option Value} {w w':World} {ρ:Nat→Value} {xs:Nat→List Value} {K:HS→Prop}
theorem RepH.above {A:Nat→Prop} {n0:Nat} {v:Value} {x:HV} (h:RepH w A n0 ρ v x) (B:Below w.heap.size w w'):RepH w' A n0 ρ v x:=h.up B.size (fun b hlt _=>B.block b hlt) (fun b _ h=>h) (Nat.le_refl _)
theorem nP {d:Nat} {h:HV}:∀ {E:aN},hlk E d=some h→∀ k,hlk (xL d h E) k=hlk E k
|[],e,k=>by simp [hlk] at e
|(j,x) :: r,e,k=>by
  simp only [hlk] at e;simp only [xL]
  by_cases ej:j=d
  ·rw [if_pos ej] at e ⊢;simp only [Option.some.injEq] at e;subst e;rfl
  ·rw [if_neg ej] at e ⊢;simp only [hlk,nP e k]
theorem Good.sameEnv {E:aN} {st:aB} (G:Good c ⟨E,st⟩ look w ρ xs) {E':aN} (h:∀ k,hlk E' k=hlk E k):Good c ⟨E',st⟩ look w ρ xs:=⟨G.rows,G.apart,fun k x hk=>G.env k x (by rw [← h k];exact hk),G.kept,G.a0⟩
theorem qXp (G:Good c T (lk l) w ρ xs) {id i:Nat} {o:Op} {ty:TypeId} {cnd:Prop} {S':HS} (hp:nJ T.env=true) (h:hop P ⟨T.env,[]⟩ id o=.go cnd (.own i) S') {nw:Bool} {t sz:Nat} {els:List (List FV)} (hr:rlk S'.st i=some (.sl nw t sz els)) (hc:cnd) :
  bR P l o ty w (fun u w'=>RepH w' (c.A ρ T.st) c.n0 ρ u (.lst true els)∧Below w.heap.size w w') (fun u w'=>RepH w' (c.A ρ T.st) c.n0 ρ u (.lst true els)∧Below w.heap.size w w'):=by
 have hA:∀ b,c.A ρ T.st b→b < w.heap.size:=by
  rintro b (h0|⟨i,r,hi,hb⟩)
  ·have:=(G.a0 b h0).1;have:=G.kept.size;omega
  ·exact G.lt hi hb
 have G2:Good ⟨w,fun _=>False,c.A ρ T.st,c.n0,Nat.le_trans c.hn G.kept.size,fun _ _=>False⟩ ⟨T.env,[]⟩ (lk l) w ρ xs:=by
  refine ⟨fun id r hr=>by simp [rlk] at hr,fun i j r s b hne hi=>by simp [rlk] at hi,fun k x hk=>?_,Kept.refl _ _,fun b hb=>⟨hA b hb,fun h=>h⟩⟩
  obtain ⟨u,h1,h2⟩:=G.env k _ hk;refine ⟨u,h1,h2.up (Nat.le_refl _) (fun _ _ _=>rfl) (fun b _ hb=>?_) (Nat.le_refl _)⟩
  rcases hb with hb|⟨i,r,hi,-⟩
  ·exact hb
  ·simp [rlk] at hi
 refine bW (qNx G2 (cD _ _) h hc) fun u w' ⟨ρ2,xs2,G3,r⟩=>?_
 have B:Below w.heap.size w w':=G3.kept.below (fun _ _ h=>h)
 refine ⟨?_,B⟩
 cases r
 obtain ⟨o1,o2,o3⟩:=eK G3 hr
 have R0:=G3.rows i _ hr
 refine .lst (sU o1 o2 (fun p k hp hk=>?_) (fun b hb=>?_))
 ·obtain ⟨u,a,b,d⟩:=o3 p k hp hk;exact ⟨u,a,b,d.up (Nat.le_refl _) (fun _ _ _=>rfl) (fun b _ h=>.inl h) (Nat.le_refl _)⟩
 ·rcases (R0.new b hb).1 with h|h
  ·have h:w.heap.size≤b:=h
   exact ⟨fun hA'=>by have:=hA b hA';omega,fun _=>by have:=c.hn;have:=G.kept.size;omega⟩
  ·exact h.elim
theorem qB1 {o:Oper} (h:qYt P N o S T K):kM N o.dst∧∃ x,K (S.set o.dst x)∧∀ (c:Ctx) (l:Env) (w:World) (ρ:Nat→Value) (xs:Nat→List Value),Good c T (lk l) w ρ xs →
  bR P l o.op o.type w (fun u w'=>RepH w' (c.A ρ T.st) c.n0 ρ u x∧Below w.heap.size w w') (fun u w'=>RepH w' (c.A ρ T.st) c.n0 ρ u x∧Below w.heap.size w w'):=by
 unfold qYt at h;split at h
 ·rename_i hd;refine ⟨fE hd,?_⟩
  cases ho:hop P T (rS o.dst) o.op with
 |go c' hv S' =>
   rw [ho] at h;unfold qB2 at h;dsimp only at h;split at h
   ·rename_i hq;obtain ⟨h0,h1⟩:=h;refine ⟨hv,h1,fun c l w ρ xs G=>?_⟩
    obtain ⟨v,hK,hv'⟩:=qXd (ty:=o.type) (wS (ty:=0) G (cD _ _) ho hq h0);exact bW (hv' w (Below.refl _ _)) fun u w' ⟨e,B⟩=>by subst e;exact ⟨hK.2.2.above B,B⟩
   ·split at h
    ·rename_i hm;simp only [Bool.and_eq_true] at hm;unfold zA5 at h;split at h
     ·rename_i c2 i S2 hm2;split at h
      ·rename_i nw t sz els hr;exact ⟨_,h.2,fun c l w ρ xs G=>qXp G hm.2 hm2 hr h.1⟩
      ·exact h.elim
     ·exact h.elim
    ·exact h.elim
 |call f args =>
   rw [ho] at h;obtain ⟨hf,x,hK,hc⟩:=h;refine ⟨x,hK,fun c l w ρ xs G=>?_⟩
   obtain ⟨y,ay,ats,e,hfn,has⟩:=qDy ho;rw [e];obtain ⟨vs,e1,e2,e3⟩:=G.evs (cD _ _) has;unfold bR;simp only [aG,cU,e1,G.fn (cD _ _) hfn];exact ⟨hf,hc c (lk l) w ρ xs vs G ⟨e2,e3⟩⟩
 |eqn t x y neg =>
   rw [ho] at h;obtain ⟨r,h1,h2⟩:=h;refine ⟨_,h2,fun c l w ρ xs G=>?_⟩
   exact bW (qHt G (cD _ l) ho h1) fun v w' ⟨e,_,r⟩=>by subst e;exact ⟨r,Below.refl _ _⟩
 |bytes ok s=>rw [ho] at h;exact h.elim
 |bad=>rw [ho] at h;exact h.elim
 ·exact h.elim
def FrOk (ops:List Oper) (E0:aN) (hs:Nat→HV) (i:Nat) (E:aN):Prop:=∀ t h,hlk E t=some h→(∃ j,j < i∧aS ops j=some t∧hs j=h)∨((∀ j,j < i→aS ops j≠some t)∧hlk E0 t=some h)
theorem FrOk.congr {ops:List Oper} {E0 E:aN} {hs hs':Nat→HV} {i:Nat} (h:FrOk ops E0 hs i E) (he:∀ j,j < i→hs' j=hs j):FrOk ops E0 hs' i E:=fun t x hx=>by
 rcases h t x hx with ⟨j,a,b,d⟩|r
 ·exact .inl ⟨j,a,b,by rw [he j a];exact d⟩
 ·exact .inr r
theorem FrOk.env {ops:List Oper} {E0 E E':aN} {hs:Nat→HV} {i:Nat} (h:FrOk ops E0 hs i E) (he:∀ t x,hlk E' t=some x→hlk E t=some x):FrOk ops E0 hs i E':=fun t x hx=>h t x (he t x hx)
theorem FrOk.set {ops:List Oper} {E0:aN} {hs:Nat→HV} {i:Nat} {S:HS} (h:FrOk ops E0 hs i S.env) {o:Oper} (ho:ops[i]?=some o):FrOk ops E0 hs (i + 1) (S.set o.dst (hs i)).env:=by
 have hd:aS ops i=o.dst:=by unfold aS;rw [ho];rfl
 intro t x hx
 cases e:o.dst with
|none =>
  rw [e] at hx hd
  rcases h t x hx with ⟨j,a,b,d⟩|⟨a,b⟩
  ·exact .inl ⟨j,by omega,b,d⟩
  ·refine .inr ⟨fun j hj=>?_,b⟩
   by_cases ej:j=i
   ·subst ej;rw [hd];simp
   ·exact a j (by omega)
|some d =>
  rw [e] at hx hd;simp only [HS.set,hlk] at hx
  by_cases et:d=t
  ·rw [if_pos et] at hx;simp only [Option.some.injEq] at hx;exact .inl ⟨i,by omega,by rw [hd,et],hx⟩
  ·rw [if_neg et] at hx
   rcases h t x hx with ⟨j,a,b,d'⟩|⟨a,b⟩
   ·exact .inl ⟨j,by omega,b,d'⟩
   ·refine .inr ⟨fun j hj=>?_,b⟩
    by_cases ej:j=i
    ·subst ej;rw [hd];simpa using et
    ·exact a j (by omega)
structure HeadOk (P:Program) (N:Nat) (ops:List Oper) (E0:aN) (st:aB) (hs:Nat→HV) (i:Nat) (o:Oper):Prop where
 lt:kM N o.dst
 head:∃ T:aN,FrOk ops E0 hs i T∧(∀ t h,hlk T t=some h→t ∈ jL (eH ops) o.guard ++ cE o.op)∧∀ (c:Ctx) (l:Env) (w:World) (ρ:Nat→Value) (xs:Nat→List Value),Good c ⟨T,st⟩ (lk l) w ρ xs →
  ∃ b,gd l (eH ops) o.guard (·=b)∧(b=true→bR P l o.op o.type w (fun u w'=>RepH w' (c.A ρ st) c.n0 ρ u (hs i)∧Below w.heap.size w w') (fun u w'=>RepH w' (c.A ρ st) c.n0 ρ u (hs i)∧Below w.heap.size w w'))∧(b=false→hs i=.v undef)
theorem xT {d:Option Nat} (h:mX N d S K):kM N d∧K (S.set d (.v undef)):=by
 unfold mX at h;split at h
 ·rename_i hd;exact ⟨fE hd,h⟩
 ·exact h.elim
theorem qRn {ops:List Oper} {E0:aN} {st:aB}:∀ (rest:List Oper) (i:Nat) (S:HS) (hs0:Nat→HV),(∀ k o,rest[k]?=some o→ops[i + k]?=some o)→S.st=st→FrOk ops E0 hs0 i S.env→HVr P N (eH ops) K rest S →
  ∃ hs,(∀ j,j < i→hs j=hs0 j)∧(∀ k o,rest[k]?=some o→HeadOk P N ops E0 st hs (i + k) o)∧∃ S',S'.st=st∧FrOk ops E0 hs (i + rest.length) S'.env∧K S'
|[],i,S,hs0,hops,hst,F,h=>⟨hs0,fun _ _=>rfl,fun k o hk=>by simp at hk,S,hst,F,h⟩
|o :: rest,i,S,hs0,hops,hst,F,h=>by
  have hoi:ops[i]?=some o:=hops 0 o (by simp)
  rw [HVr] at h;generalize hT:kV S.env (jL (eH ops) o.guard ++ cE o.op)=T at h
  have TF:∀ t x,hlk T t=some x→t ∈ jL (eH ops) o.guard ++ cE o.op∧hlk S.env t=some x:=fun t x hx=>by subst hT;exact uS hx
  have key:∀ (S1:HS) (x:HV),S1.st=st→FrOk ops E0 hs0 i S1.env→HVr P N (eH ops) K rest (S1.set o.dst x)→kM N o.dst →
    (∀ (c:Ctx) (l:Env) (w:World) (ρ:Nat→Value) (xs:Nat→List Value),Good c ⟨T,st⟩ (lk l) w ρ xs →
     ∃ b,gd l (eH ops) o.guard (·=b)∧(b=true→bR P l o.op o.type w (fun u w'=>RepH w' (c.A ρ st) c.n0 ρ u x∧Below w.heap.size w w') (fun u w'=>RepH w' (c.A ρ st) c.n0 ρ u x∧Below w.heap.size w w'))∧(b=false→x=.v undef)) →
    ∃ hs,(∀ j,j < i→hs j=hs0 j)∧(∀ k o',(o :: rest)[k]?=some o'→HeadOk P N ops E0 st hs (i + k) o')∧∃ S',S'.st=st∧FrOk ops E0 hs (i + (o :: rest).length) S'.env∧K S':=by
   intro S1 x hst1 F1 hK hlt hrun
   let hs1:Nat→HV:=fun j=>if j=i then x else hs0 j
   have e1:hs1 i=x:=if_pos rfl
   have e2:∀ j,j < i→hs1 j=hs0 j:=fun j hj=>if_neg (by omega)
   have F2:FrOk ops E0 hs1 (i + 1) (S1.set o.dst x).env:=by
    have:=(F1.congr e2).set hoi
    rw [e1] at this;exact this
   obtain ⟨hs,a,b,S',d,e,f⟩:=qRn rest (i + 1) (S1.set o.dst x) hs1 (fun k o' hk=>by
    have:=hops (k + 1) o' (by simpa using hk)
    rw [show i + 1 + k=i + (k + 1) by omega];exact this) (by cases o.dst <;> exact hst1) F2 hK
   have ei:hs i=x:=by rw [a i (by omega),e1]
   have ej:∀ j,j < i→hs j=hs0 j:=fun j hj=>by rw [a j (by omega),e2 j hj]
   refine ⟨hs,ej,fun k o' hk=>?_,S',d,?_,f⟩
   ·cases k with
   |zero =>
     simp only [List.getElem?_cons_zero,Option.some.injEq] at hk;subst hk;exact ⟨hlt,T,(F.congr ej).env (fun t x hx=>(TF t x hx).2),fun t x hx=>(TF t x hx).1,by rw [Nat.add_zero,ei];exact hrun⟩
   |succ k =>
     have:=b k o' (by simpa using hk)
     rw [show i + 1 + k=i + (k + 1) by omega] at this;exact this
   ·rw [List.length_cons,show i + (rest.length + 1)=i + 1 + rest.length by omega];exact e
  cases hg:hG T (eH ops) o.guard with
 |yes =>
   rw [hg] at h;obtain ⟨hlt,x,hK,hv⟩:=qB1 h;refine key S x hst F hK hlt fun c l w ρ xs G=>⟨true,qMf (S:=⟨T,st⟩) hg rfl,fun _=>?_,fun e=>by cases e⟩
   have:=hv c l w ρ xs (by rw [hst];exact G)
   rw [hst] at this;exact this
 |no =>
   rw [hg] at h;obtain ⟨hlt,hK⟩:=xT h;exact key S _ hst F hK hlt fun c l w ρ xs G=>⟨false,zAg (S:=⟨T,st⟩) ⟨ρ,xs,G⟩ hg rfl,fun e=>(by cases e),fun _=>rfl⟩
 |ask d b want =>
   rw [hg] at h;obtain ⟨j,hj,hd,hb⟩:=qYb (S:=⟨T,st⟩) hg
   have hbS:=(TF d _ hb).2
   simp only [jC] at h;split at h
   ·rename_i e
    have e':b=want:=by simpa using e
    subst e';obtain ⟨hlt,x,hK,hv⟩:=qB1 h;refine key (S.rep d (.v (.bool b))) x hst (F.env fun t x hx=>by rw [← nP hbS t];exact hx) hK hlt fun c l w ρ xs G=>⟨true,(xN (S:=⟨T,st⟩) ⟨ρ,xs,G⟩ hg (k:=(·=true)) e).1,fun _=>?_,fun e=>by cases e⟩
    have:=hv c l w ρ xs (by rw [hst];exact G.sameEnv (nP hb))
    simp only [HS.rep] at this;rw [hst] at this;exact this
   ·rename_i e
    have e':b=!want:=by cases b <;> cases want <;> simp_all
    subst e';obtain ⟨hlt,hK⟩:=xT h;exact key (S.rep d (.v (.bool (!want)))) _ hst (F.env fun t x hx=>by rw [← nP hbS t];exact hx) hK hlt fun c l w ρ xs G=>⟨false,(xN (S:=⟨T,st⟩) ⟨ρ,xs,G⟩ hg (k:=(·=false)) e).1,fun e=>(by cases e),fun _=>rfl⟩
 |bad=>rw [hg] at h;exact h.elim
end
end Go.Eng
end

section
namespace Go.Eng
open Go Go.RowKit
section
variable {P:Program} {N:Nat} {c:Ctx} {S T:HS} {Q:gQ} {l:Env} {look:Nat→Option Value} {w w':World} {ρ:Nat→Value} {xs:Nat→List Value} {K:HS→Prop}
theorem sY {ops:List Oper} {o:Oper} {t:Nat} (h:t ∈ jL (eH ops) o.guard ++ cE o.op):t ∈ o.looksAt ops.toArray:=by
 rcases List.mem_append.1 h with h|h
 ·cases hg:o.guard with
 |none=>rw [hg] at h;simp [jL] at h
 |some p =>
   obtain ⟨g,b⟩:=p;rw [hg] at h;simp only [jL] at h;split at h
   ·rename_i d hd;simp only [List.mem_singleton] at h;subst h;refine jX hg ?_;unfold aS;simp only [eH,List.getElem?_map,Option.map_eq_some_iff] at hd;obtain ⟨x,hx,hx'⟩:=hd;simp [hx,hx']
   ·simp at h
 ·exact vB (qTp h)
theorem vQ {x:HV} {k:Nat}:∀ {e:aN},hlk e k=some x→k ∈ dB e
|[],h=>by simp [hlk] at h
|(j,y) :: r,h=>by
  simp only [hlk] at h
  by_cases ej:j=k
  ·simp [dB,ej]
  ·rw [if_neg ej] at h
   have:=vQ h
   simp only [dB,List.map_cons,List.mem_cons];exact .inr this
theorem zHe {id:Nat} {ops:List Oper} (n:Nat) (hm:P.follows .mixedOrders=true) (hok:qCf (dB S.env) ops n=true)
  (h:∀ K:HS→Prop,(∀ S',Q .normal S'→K S')→HVr P N (eH ops) (fun S'=>mW (HV2 P N (eH ops) K (ops.drop n)) S') (ops.take n) S):HW P N (.region id ops.toArray true) Q S:=fun c l w I=>by
 have hks:∀ k ∈ dB S.env,∃ v,lk l k=some v:=fun k hk=>by
  obtain ⟨x,hx⟩:=vR hk;obtain ⟨ρ,xs,G⟩:=I;obtain ⟨v,h1,-⟩:=G.env k x hx;exact ⟨v,h1⟩
 refine qFd (dB S.env) ?_
 have I':Inv c S (lk (keep (dB S.env) l)) w:=I.agree fun k x hk=>tB (vQ hk)
 have hkk:vD (keep (dB S.env) l)=dB S.env:=xF hks
 generalize keep (dB S.env) l=l' at I' hkk;obtain ⟨ρ,xs,G⟩:=I'
 have ok:=wV hok
 have hlen:(ops.take n).length=n:=by rw [List.length_take];have:=ok.hn;omega
 have get_take:∀ {i:Nat} {o:Oper},(ops.take n)[i]?=some o→i < n∧ops[i]?=some o:=fun {i o} h=>by
  have hi:=(List.getElem?_eq_some_iff.1 h).1
  rw [hlen] at hi;rw [List.getElem?_take_of_lt hi] at h;exact ⟨hi,h⟩
 obtain ⟨hs,-,heads,S1,e1,F1,h1⟩:=qRn (E0:=S.env) (st:=S.st) (ops.take n) 0 S (fun _=>.junk) (fun k o hk=>by rw [Nat.zero_add];exact (get_take hk).2) rfl (fun t x hx=>.inr ⟨fun j hj=>absurd hj (Nat.not_lt_zero _),hx⟩) (h (Q .normal) fun _ h=>h)
 rw [hlen,Nat.zero_add] at F1
 have head:∀ i o,i < n→ops[i]?=some o→HeadOk P N ops S.env S.st hs i o:=fun i o hi ho=>by
  have:=heads i o (by rw [List.getElem?_take_of_lt hi];exact ho)
  rw [Nat.zero_add] at this;exact this
 have uniq:∀ i j t,i < n→j < n→aS ops i=some t→aS ops j=some t→i=j:=by
  intro i j t hi hj h1 h2
  rcases Nat.lt_trichotomy i j with h|h|h
  ·rcases ok.uniq j i hj h with e|e
   ·rw [h2] at e;cases e
   ·exact absurd (h2.trans h1.symm) e
  ·exact h
  ·rcases ok.uniq i j hi h with e|e
   ·rw [h1] at e;cases e
   ·exact absurd (h1.trans h2.symm) e
 have hlt:DLt N ops n:=fun i t hi hd=>by
  obtain ⟨o,ho,hod⟩:=xP hd
  have:=(head i o hi ho).lt
  rw [hod] at this;exact this
 -- what a frame of the heads' names reads
 have frame:∀ (vs:Nat→Value) (w':World) (i:Nat) (E:aN),i≤n→Below w.heap.size w w'→FrOk ops S.env hs i E →
   (∀ j t x,j < i→aS ops j=some t→hlk E t=some x→RepH w' (c.A ρ S.st) c.n0 ρ (vs j) (hs j))→Good c ⟨E,S.st⟩ (lk (iY l' ops vs i)) w' ρ xs:=fun vs w' i E hi hB F hv=>by
  have GB:=G.below hB
  refine ⟨GB.rows,GB.apart,fun k x hk=>?_,GB.kept,GB.a0⟩
  rcases F k x hk with ⟨j,a,b,d⟩|⟨a,b⟩
  ·refine ⟨vs j,(oV (l:=l') (vs:=vs) hlt (base:=Array.replicate N undef) (by simp) b (fun q hq hne e=>hne (uniq q j k hq (by omega) e b)) i hi a).1,?_⟩
   rw [← d];exact hv j k x a b hk
  ·obtain ⟨v,v1,v2⟩:=GB.env k x b;exact ⟨v,by rw [(oU (l:=l') (vs:=vs) #[] k i a).1];exact v1,v2⟩
 refine zGa (dB S.env) n hm hkk hok hlt (C:=fun w'=>Below w.heap.size w w') (R:=fun j u w'=>RepH w' (c.A ρ S.st) c.n0 ρ u (hs j)) (Below.refl _ _).drew (fun i u w1 w2 _ hr hB=>hr.above hB) ?_ ?_
 ·intro i o hi ho vs w1 hC hR;obtain ⟨T,TF,TS,run⟩:=(head i o hi ho).head
  have GT:Good c ⟨T,S.st⟩ (lk (iY l' ops vs i)) w1 ρ xs:=frame vs w1 i T (by omega) hC TF fun j t x hj hd hx=>hR j t hj hd (sY (TS t x hx))
  obtain ⟨b,b1,b2,b3⟩:=run c _ w1 ρ xs GT;refine ⟨b,b1,fun hb=>?_,fun hb=>?_⟩
  ·exact (wQ (fun x X hx=>by simp [evD,hx]) (b2 hb)).mono fun u w2 ⟨hu,hB⟩=>⟨hu,hC.trans (hB.mono hC.size),hB⟩
  ·rw [b3 hb];exact .v _
 ·intro vs w1 hC hR;obtain ⟨E1,st1⟩:=S1
  have e1:st1=S.st:=e1
  subst e1
  have G1:=frame vs w1 n E1 (Nat.le_refl _) hC F1 fun j t x hj _ _=>hR j hj
  exact HW_drw.V2.mono' (xS _ _ _ _ h1 ⟨ρ,xs,G1⟩) fun l2 w2 h2=>h2
theorem qVm {f:FuncId} {args args':List HV} {x:Value} {K:HV→Prop} (hc:aM P f=true) (H:HFun P f args' (fun h st=>h=.v x)) (hl:Lends T.st args args') (hK:K (.v x)):zHj P f args T K :=
 ⟨hc,.v x,hK,fun c look w ρ xs vs G R=>Ret.mono (H w vs (nL G R hl)) fun v w' ⟨B,h,st,h8,q,ρ',xs',G',hr⟩=>⟨by subst q;have:=cW hr;subst this;exact .v _,B⟩⟩
end
end Go.Eng
end

section
namespace Go.Eng
open Go Go.RowKit
section
variable {P:Program} {T:HS}
theorem qVn {f:FuncId} {args args':List HV} {ty sz:Nat} {els:List (List FV)} {K:HV→Prop} (hc:aM P f=true) (H:HFun P f args' (fun h st=>h=.own 0∧st=[(0,.sl true ty sz els)])) (hl:Lends T.st args args') (hK:K (.lst true els)):zHj P f args T K :=
 ⟨hc,_,hK,fun c look w ρ xs vs G R=>Ret.mono (H w vs (nL G R hl)) fun v w' ⟨B,h,st,h8,⟨e1,e2⟩,ρ',xs',G',hr⟩=>⟨by
  subst e1;subst e2
  have hw:c.n0≤w.heap.size:=Nat.le_trans c.hn G.kept.size
  have hA:∀ b,c.A ρ T.st b→b < w.heap.size:=by
   rintro b (h0|⟨i,r,hi,hb⟩)
   ·have:=(G.a0 b h0).1;have:=G.kept.size;omega
   ·exact G.lt hi hb
  have e0:rlk (HS.st ⟨[],[(0,Row.sl true ty sz els)]⟩) 0=some (.sl true ty sz els):=rfl
  cases hr
  obtain ⟨o1,o2,o3⟩:=eK G' e0
  have R0:=G'.rows 0 _ e0
  refine .lst (sU o1 o2 (fun p k hp hk=>?_) (fun b hb=>?_))
  ·obtain ⟨u,a,b,d⟩:=o3 p k hp hk;exact ⟨u,a,b,d.up (Nat.le_refl _) (fun _ _ _=>rfl) (fun b _ h=>.inl (hA b h)) hw⟩
  ·rcases (R0.new b hb).1 with h|h
   ·have h:w.heap.size≤b:=h
    exact ⟨fun hA'=>by have:=hA b hA';omega,fun _=>by omega⟩
   ·exact h.elim,B⟩⟩
end
end Go.Eng
end

section
namespace Go.Eng
open Go Go.RowKit
theorem zS (t:Nat):hlk [] t=none:=nr rfl
theorem zM (k:Nat) (v:HV) (r:aN) (t:Nat):hlk ((k,v) :: r) t=if k=t then some v else hlk r t:=nr rfl
theorem zX (t:Nat):rlk [] t=none:=nr rfl
theorem zU (k:Nat) (v:Row) (r:aB) (t:Nat):rlk ((k,v) :: r) t=if k=t then some v else rlk r t:=nr rfl
theorem qZ6 (l:aN) (t:Nat):hev l (.tmp t)=hlk l t:=nr rfl
theorem qQj (l:aN) (v:Value):hev l (.const v)=some (.v v):=nr rfl
theorem qKw (l:aN) (g:Nat):hev l (.global g)=some (.v (.pointer (some ⟨g,0,none⟩))):=nr rfl
theorem qVf (l:aN) (f:FuncId):hev l (.func f)=some (.v (.func (.func f) #[] #[])):=nr rfl
theorem qVe (l:aN):jR l []=some []:=nr rfl
theorem qQi (l:aN) (x:Operand) (r:List Operand):jR l (x :: r)=match hev l x with|some v=>(match jR l r with|some vs=>some (v :: vs)|none=>none)|none=>none:=nr rfl
theorem zEg (x:Value):leaf (some (.v x))=some x:=nr rfl
theorem qPu  : leaf none=none:=nr rfl
theorem qUm (fr:Bool) (xs:List (List FV)):leaf (some (.lst fr xs))=none:=nr rfl
theorem qUl (i:Nat):leaf (some (.own i))=none:=nr rfl
theorem qUk (i s j k:Nat):leaf (some (.ptr i s j k))=none:=nr rfl
theorem qUn (fr:Bool) (xs:List (List FV)) (s j k:Nat):leaf (some (.elt fr xs s j k))=none:=nr rfl
theorem qUo (cs:List HV):leaf (some (.agg cs))=none:=nr rfl
theorem qUj (cs:List HV):leaf (some (.tup cs))=none:=nr rfl
theorem qZj (i s o n:Nat):leaf (some (.vw i s o n))=none:=nr rfl
theorem qPv  : leaf (some .junk)=none:=nr rfl
theorem qLn (S:HS) (id:Nat) (P:Program) (o:Op) (c:Prop) (v:Value):oR S id P o (some (c,v))=.go c (.v v) S:=nr rfl
theorem qLo (S:HS) (id:Nat) (P:Program) (o:Op):oR S id P o none=iS P S id o:=nr rfl
theorem zEu (P:Program) (S:HS) (id:Nat) (o:Op):hop P S id o=oR S id P o (aG P (lo S.env) o):=nr rfl
theorem qQm (P:Program) (S:HS) (id:Nat) (x:Operand):iS P S id (.move x)=vT S (hev S.env x):=nr rfl
theorem qGe (P:Program) (S:HS) (id:Nat) (x:Operand):iS P S id (.assign x)=vT S (hev S.env x):=nr rfl
theorem qQk (P:Program) (S:HS) (id:Nat) (c a b:Operand):iS P S id (.pick c a b)=qD5 S (hev S.env c) (hev S.env a) (hev S.env b):=nr rfl
theorem qD3 (P:Program) (S:HS) (id:Nat) (x:Operand) (i:Nat):iS P S id (.extract x i)=mS S i (hev S.env x):=nr rfl
theorem qK2 (P:Program) (S:HS) (id:Nat) (t:TypeId) (x:Operand) (f:Nat):iS P S id (.field t x f)=uC S (qG1 P t f) (hev S.env x):=nr rfl
theorem qK3 (P:Program) (S:HS) (id:Nat) (t:TypeId) (x:Operand) (f:Nat):iS P S id (.fieldAddr t x f)=uD S (nT P t f) (hev S.env x):=nr rfl
theorem qQl (P:Program) (S:HS) (id:Nat) (x:Operand):iS P S id (.nilCheck x)=qNo S (hev S.env x):=nr rfl
theorem qK1 (P:Program) (S:HS) (id:Nat) (t:TypeId) (x i:Operand):iS P S id (.indexAddr t x i)=nQ S (cN P t) (qRu P t) (hev S.env x) (hev S.env i):=nr rfl
theorem qKy (P:Program) (S:HS) (id:Nat) (t:TypeId) (x:Operand) (l h:Option Operand):iS P S id (.slice t x l h none)=rU S (cN P t) l h (hev S.env x):=nr rfl
theorem qQn (P:Program) (S:HS) (id:Nat) (t:TypeId) (x:Operand):iS P S id (.load t x)=tH S (dG P t) (hev S.env x):=nr rfl
theorem qKx (P:Program) (S:HS) (id:Nat) (t:TypeId) (x y:Operand):iS P S id (.store t x y)=uA S (dG P t) (hev S.env x) (hev S.env y):=nr rfl
theorem qK7 (P:Program) (S:HS) (id:Nat) (t:TypeId):iS P S id (.alloc t)=pA S id t (kH P t):=nr rfl
theorem qVj (P:Program) (S:HS) (id:Nat) (t:TypeId) (x:Operand):iS P S id (.box t x)=qV1 S id t (hev S.env x):=nr rfl
theorem qK6 (P:Program) (S:HS) (id:Nat) (t:TypeId) (ps:Array (Nat × Operand)):iS P S id (.build t ps)=xM S (gW P t) (iQ P t) (kH P t) (jW S.env ps.toList):=nr rfl
theorem qGd (P:Program) (S:HS) (id:Nat) (t n:TypeId) (ps:Array (Nat × Operand)):iS P S id (.buildSlice t n ps)=lG S id n (mF P t) (jW S.env ps.toList):=nr rfl
theorem qKz (P:Program) (S:HS) (id:Nat) (t:TypeId) (x y:Operand):iS P S id (.makeSlice t x y)=qGn S id (mF P t) (hev S.env x) (hev S.env y):=nr rfl
theorem qVh (P:Program) (S:HS) (id:Nat) (args:Array Operand) (ats:Array TypeId):iS P S id (.call ⟨.builtin .len,args,ats⟩)=match jR S.env args.toList with|some [h]=>qLu S (cM ((cN P (fF ats)).isSome=true∧ats.size=1)) (some h)|_=>.bad:=nr rfl
theorem qVk (P:Program) (S:HS) (id:Nat) (args:Array Operand) (ats:Array TypeId):iS P S id (.call ⟨.builtin .append,args,ats⟩)=kF S id (ats == #[fF ats,fF ats]) (qXl P ats) (mF P (fF ats)) (jR S.env args.toList):=nr rfl
theorem qK5 (P:Program) (S:HS) (id:Nat) (f:FuncId) (args:Array Operand) (ats:Array TypeId):iS P S id (.call ⟨.value (.func f),args,ats⟩)=qGs f (jR S.env args.toList):=nr rfl
theorem qVi (P:Program) (S:HS) (id:Nat) (t:TypeId) (x y:Operand) (u:TypeId):iS P S id (.binOp .eql t x y u)=hEq S (qG7 P t) t false (hev S.env x) (hev S.env y):=nr rfl
theorem qVg (P:Program) (S:HS) (id:Nat) (t:TypeId) (x y:Operand) (u:TypeId):iS P S id (.binOp .neq t x y u)=hEq S (qG7 P t) t true (hev S.env x) (hev S.env y):=nr rfl
theorem qQp (P:Program) (S:HS) (id:Nat) (s d:TypeId) (x:Operand):iS P S id (.convert s d x)=tN S (qCu P s d) (qMt P s d) (hev S.env x):=nr rfl
theorem qVr (S:HS) (h:HV):vT S (some h)=.go True h S:=nr rfl
theorem qVo (S:HS) (t:Bool) (a b:HV):qD5 S (some (.v (.bool t))) (some a) (some b)=.go True (bif t then a else b) S:=nr rfl
theorem qGp (S:HS) (i:Nat) (hs:List HV):mS S i (some (.tup hs))=match hs[i]? with|some h=>.go True h S|none=>.bad:=nr rfl
theorem qK0 (P:Program) (S:HS) (id:Nat) (t:TypeId) (x i:Operand):iS P S id (.index t x i)=nX S (qM8 P t) (hev S.env x) (hev S.env i):=nr rfl
theorem qD7 (S:HS) (m q:Nat) (hs:List HV) (k:IntKind) (n:Int):nX S (some (m,some q)) (some (.agg hs)) (some (.v (.int k n)))=.go (cM (0≤n∧n < m)) (.agg ((hs.drop (n.toNat * q)).take q)) S:=nr rfl
theorem qGo (S:HS) (m:Nat) (hs:List HV) (k:IntKind) (n:Int):nX S (some (m,none)) (some (.agg hs)) (some (.v (.int k n)))=match hs[n.toNat]? with|some h=>.go (cM (0≤n∧n < m)) h S|none=>.bad:=nr rfl
theorem qL6 (S:HS) (off:Nat) (hs:List HV):uC S (some (off,none)) (some (.agg hs))=match hs[off]? with|some h=>.go True h S|none=>.bad:=nr rfl
theorem qL5 (S:HS) (off n:Nat) (hs:List HV):uC S (some (off,some n)) (some (.agg hs))=.go (cM (off + n≤hs.length)) (.agg ((hs.drop off).take n)) S:=nr rfl
theorem qL7 (S:HS) (off id sz i k:Nat):uD S (some off) (some (.ptr id sz i k))=.go True (.ptr id sz i (k + off)) S:=nr rfl
theorem qL8 (S:HS) (off:Nat) (fr:Bool) (xs:List (List FV)) (sz i k:Nat):uD S (some off) (some (.elt fr xs sz i k))=.go True (.elt fr xs sz i (k + off)) S:=nr rfl
theorem qVp (S:HS) (id sz i k:Nat):qNo S (some (.ptr id sz i k))=.go True (.ptr id sz i k) S:=nr rfl
theorem qVq (S:HS) (fr:Bool) (xs:List (List FV)) (sz i k:Nat):qNo S (some (.elt fr xs sz i k))=.go True (.elt fr xs sz i k) S:=nr rfl
theorem qLw (S:HS) (id:Nat) (us ua:Option (Nat × Nat)) (kk:IntKind) (n:Int):nQ S us ua (some (.own id)) (some (.v (.int kk n)))=pK S id n us (rlk S.st id):=nr rfl
theorem qLx (S:HS) (fr:Bool) (xs:List (List FV)) (us ua:Option (Nat × Nat)) (kk:IntKind) (n:Int):nQ S us ua (some (.lst fr xs)) (some (.v (.int kk n)))=tL S fr xs n us:=nr rfl
theorem qLv (S:HS) (id sz i k:Nat) (us ua:Option (Nat × Nat)) (kk:IntKind) (n:Int):nQ S us ua (some (.ptr id sz i k)) (some (.v (.int kk n)))=tK S id sz i k n ua:=nr rfl
theorem qLy (S:HS) (fr:Bool) (xs:List (List FV)) (sz i k:Nat) (us ua:Option (Nat × Nat)) (kk:IntKind) (n:Int):nQ S us ua (some (.elt fr xs sz i k)) (some (.v (.int kk n)))=tM S fr xs sz i k n ua:=nr rfl
theorem qL1 (S:HS) (id:Nat) (n:Int) (e sz:Nat) (nw:Bool) (ty s:Nat) (els:List (List FV)):pK S id n (some (e,sz)) (some (.sl nw ty s els))=.go (cM (sz=s∧0≤n∧n < els.length)) (.ptr id s n.toNat 0) S:=nr rfl
theorem qL3 (S:HS) (fr:Bool) (xs:List (List FV)) (n:Int) (e sz:Nat):tL S fr xs n (some (e,sz))=.go (cM (0≤n∧n < xs.length)∧Wid sz xs) (.elt fr xs sz n.toNat 0) S:=nr rfl
theorem qL2 (S:HS) (id sz i k:Nat) (n:Int) (len size:Nat):tK S id sz i k n (some (len,size))=.go (cM (0≤n∧n < len)) (.ptr id sz i (k + n.toNat * size)) S:=nr rfl
theorem qL4 (S:HS) (fr:Bool) (xs:List (List FV)) (sz i k:Nat) (n:Int) (len size:Nat):tM S fr xs sz i k n (some (len,size))=.go (cM (0≤n∧n < len)) (.elt fr xs sz i (k + n.toNat * size)) S:=nr rfl
theorem qZ7 (S:HS) (c:Prop) (i s o n:Nat):qLu S c (some (.vw i s o n))=.go c (.v (.int .i64 n)) S:=nr rfl
theorem qLj (S:HS) (us:Option (Nat × Nat)) (l h:Option Operand) (id:Nat):rU S us l h (some (.own id))=tF S id (lN (lo S.env) l 0) (lN (lo S.env) h (zGv (rlk S.st id))) us (rlk S.st id):=nr rfl
theorem qQs (S:HS) (us:Option (Nat × Nat)) (l h:Option Operand) (id sz off n:Nat):rU S us l h (some (.vw id sz off n))=tE S id sz off (lN (lo S.env) l 0) (lN (lo S.env) h n) us (rlk S.st id):=nr rfl
theorem qLl (S:HS) (id:Nat) (a b:Int) (e sz:Nat) (nw:Bool) (ty s:Nat) (els:List (List FV)):tF S id (some a) (some b) (some (e,sz)) (some (.sl nw ty s els))=.go (cM (sz=s∧0≤a∧a≤b∧b≤els.length)) (.vw id s a.toNat (b.toNat - a.toNat)) S:=nr rfl
theorem qLk (S:HS) (id sz off:Nat) (a b:Int) (e sz':Nat) (nw:Bool) (ty s:Nat) (els:List (List FV)):tE S id sz off (some a) (some b) (some (e,sz')) (some (.sl nw ty s els))=.go (cM (sz'=sz∧s=sz∧0≤a∧a≤b∧off + b≤els.length)) (.vw id sz (off + a.toNat) (b.toNat - a.toNat)) S:=nr rfl
theorem qY7 (nw:Bool) (ty s:Nat) (els:List (List FV)):zGv (some (.sl nw ty s els))=els.length:=nr rfl
theorem qQz (S:HS) (id s off m:Nat) (us ua:Option (Nat × Nat)) (kk:IntKind) (n:Int):nQ S us ua (some (.vw id s off m)) (some (.v (.int kk n)))=tJ S id s off m n us (rlk S.st id):=nr rfl
theorem qLz (S:HS) (id s off m:Nat) (n:Int) (e sz:Nat) (nw:Bool) (ty s':Nat) (els:List (List FV)):tJ S id s off m n (some (e,sz)) (some (.sl nw ty s' els))=.go (cM (sz=s∧s'=s∧0≤n∧n < m)) (.ptr id s (off + n.toNat) 0) S:=nr rfl
theorem qPm (st:aB) (sz id s off n:Nat):lP st sz (.vw id s off n)=match rlk st id with|some (.sl _ _ s' els)=>some (cM (s=sz∧s'=sz),(els.drop off).take n)|_=>none:=nr rfl
theorem qQq (i s o n:Nat):fB (.vw i s o n)=some [.vw i s o n]:=nr rfl
theorem qZy (i s o n:Nat):(HV.vw i s o n).one=true:=nr rfl
theorem oQ (p:Nat→Bool) (i s o n:Nat):HV.kill p (.vw i s o n)=bif p i then .junk else .vw i s o n:=by rw [HV.kill]
theorem fQ (m:Nat→Option Nat) (i s o n:Nat):HV.ren m (.vw i s o n)=match m i with|some j=>.vw j s o n|none=>.junk:=by rw [HV.ren];cases m i <;> rfl
theorem bK (id:Nat) (x0:HV) (i s o n:Nat):HV.sub id x0 (.vw i s o n)=if i=id then zCz x0 s o n else .vw i s o n:=by rw [HV.sub]
theorem qPe (i s o n:Nat):xB (.vw i s o n)=[]:=nr rfl
theorem qJv (i s o n:Nat):qBk (.vw i s o n)=[]:=nr rfl
theorem qVt (S:HS) (c:Prop) (id:Nat):qLu S c (some (.own id))=qD6 S c (rlk S.st id):=nr rfl
theorem qVu (S:HS) (c:Prop) (fr:Bool) (xs:List (List FV)):qLu S c (some (.lst fr xs))=.go c (.v (.int .i64 xs.length)) S:=nr rfl
theorem qVv (S:HS) (c:Prop) (nw:Bool) (ty s:Nat) (els:List (List HV)):qD6 S c (some (.hl nw ty s els))=.go c (.v (.int .i64 els.length)) S:=nr rfl
theorem qL0 (S:HS) (id:Nat) (n:Int) (e sz:Nat) (nw:Bool) (ty s:Nat) (els:List (List HV)):pK S id n (some (e,sz)) (some (.hl nw ty s els))=.go (cM (sz=s∧0≤n∧n < els.length)) (.ptr id s n.toNat 0) S:=nr rfl
theorem qVw (S:HS) (c:Prop) (nw:Bool) (ty s:Nat) (els:List (List FV)):qD6 S c (some (.sl nw ty s els))=.go c (.v (.int .i64 els.length)) S:=nr rfl
theorem qQt (S:HS) (us:Option (Nat × Nat)) (l h:Option Operand) (fr:Bool) (xs:List (List FV)):rU S us l h (some (.lst fr xs))=tG S fr xs (lN (lo S.env) l 0) (lN (lo S.env) h xs.length) us:=nr rfl
theorem qLm (S:HS) (fr:Bool) (xs:List (List FV)) (a b:Int) (e sz:Nat):tG S fr xs (some a) (some b) (some (e,sz))=.go (cM (0≤a∧a≤b∧b≤xs.length)∧Wid sz xs) (.lst fr ((xs.take b.toNat).drop a.toNat)) S:=nr rfl
theorem qQu (S:HS) (kt:Option (Option Nat)) (id sz i k:Nat):tH S kt (some (.ptr id sz i k))=mR S sz i k kt (rlk S.st id):=nr rfl
theorem qQv (S:HS) (kt:Option (Option Nat)) (fr:Bool) (xs:List (List FV)) (sz i k:Nat):tH S kt (some (.elt fr xs sz i k))=uB S xs i k kt:=nr rfl
theorem qQw (S:HS) (sz i k:Nat) (nw:Bool) (ty s:Nat) (els:List (List FV)):mR S sz i k (some none) (some (.sl nw ty s els))=.go (cM (sz=s∧i < els.length∧k < (els.getD i []).length)) ((els.getD i []).getD k default).h S:=nr rfl
theorem qLp (S:HS) (sz i k n:Nat) (nw:Bool) (ty s:Nat) (els:List (List FV)):mR S sz i k (some (some n)) (some (.sl nw ty s els))=.go (cM (sz=s∧i < els.length∧k + n≤(els.getD i []).length)) (.agg ((((els.getD i []).drop k).take n).map FV.h)) S:=nr rfl
theorem qQy (S:HS) (sz i k:Nat) (nw:Bool) (ty:Nat) (cells:List HV):mR S sz i k (some none) (some (.bx nw ty cells))=.go (cM (i=0∧k < cells.length)) (cells.getD k .junk) S:=nr rfl
theorem qLr (S:HS) (sz i k n:Nat) (nw:Bool) (ty:Nat) (cells:List HV):mR S sz i k (some (some n)) (some (.bx nw ty cells))=.go (cM (i=0∧k + n≤cells.length)) (.agg ((cells.drop k).take n)) S:=nr rfl
theorem qQx (S:HS) (sz i k:Nat) (nw:Bool) (ty s:Nat) (els:List (List HV)):mR S sz i k (some none) (some (.hl nw ty s els))=.go (cM (sz=s∧i < els.length∧k < (els.getD i []).length)) ((els.getD i []).getD k .junk) S:=nr rfl
theorem qLq (S:HS) (sz i k n:Nat) (nw:Bool) (ty s:Nat) (els:List (List HV)):mR S sz i k (some (some n)) (some (.hl nw ty s els))=.go (cM (sz=s∧i < els.length∧k + n≤(els.getD i []).length)) (.agg (((els.getD i []).drop k).take n)) S:=nr rfl
theorem qLh (S:HS) (id sz i k:Nat) (kt:Option (Option Nat)) (h:HV) (nw:Bool) (ty s:Nat) (els:List (List HV)):nW S id sz i k kt h (some (.hl nw ty s els))=pH S id sz i k nw ty s els kt h:=nr rfl
theorem qGj (S:HS) (id sz i k:Nat) (nw:Bool) (ty s:Nat) (els:List (List HV)) (h:HV):pH S id sz i k nw ty s els (some none) h=.go (cM (sz=s∧i < els.length∧k < (els.getD i []).length∧h.one=true)) (.v undef) ⟨S.env,iX id (.hl nw ty s (els.set i ((els.getD i []).set k h))) S.st⟩:=nr (by cases h <;> rfl)
theorem qGk (S:HS) (id sz i k n:Nat) (nw:Bool) (ty s:Nat) (els:List (List HV)) (hs:List HV):pH S id sz i k nw ty s els (some (some n)) (.agg hs)=.go (cM (sz=s∧i < els.length∧hs.length=n∧k + n≤(els.getD i []).length)) (.v undef) ⟨S.env,iX id (.hl nw ty s (els.set i (splice (els.getD i []) k hs))) S.st⟩:=nr rfl
theorem qLs (S:HS) (xs:List (List FV)) (i k:Nat):uB S xs i k (some none)=.go (cM (i < xs.length∧k < (xs.getD i []).length)) ((xs.getD i []).getD k default).h S:=nr rfl
theorem qLt (S:HS) (xs:List (List FV)) (i k n:Nat):uB S xs i k (some (some n))=.go (cM (i < xs.length∧k + n≤(xs.getD i []).length)) (.agg ((((xs.getD i []).drop k).take n).map FV.h)) S:=nr rfl
theorem qQr (S:HS) (kt:Option (Option Nat)) (id sz i k:Nat) (h:HV):uA S kt (some (.ptr id sz i k)) (some h)=nW S id sz i k kt h (rlk S.st id):=nr rfl
theorem qLg (S:HS) (id sz i k:Nat) (kt:Option (Option Nat)) (h:HV) (nw:Bool) (ty s:Nat) (els:List (List FV)):nW S id sz i k kt h (some (.sl nw ty s els))=pG S id sz i k nw ty s els kt h:=nr rfl
theorem qLi (S:HS) (id sz i k:Nat) (kt:Option (Option Nat)) (h:HV) (nw:Bool) (ty:Nat) (cells:List HV):nW S id sz i k kt h (some (.bx nw ty cells))=pJ S id i k nw ty cells kt h:=nr rfl
theorem qGh (S:HS) (id sz i k:Nat) (nw:Bool) (ty s:Nat) (els:List (List FV)) (h:HV):pG S id sz i k nw ty s els (some none) h=match h.f with|some f=>.go (cM (sz=s∧i < els.length∧k < (els.getD i []).length∧f.one=true)) (.v undef) ⟨S.env,iX id (.sl nw ty s (els.set i ((els.getD i []).set k f))) S.st⟩|none=>.bad:=nr rfl
theorem qGi (S:HS) (id sz i k n:Nat) (nw:Bool) (ty s:Nat) (els:List (List FV)) (hs:List HV):pG S id sz i k nw ty s els (some (some n)) (.agg hs)=match HV.fs hs with|some fs=>.go (cM (sz=s∧i < els.length∧fs.length=n∧k + n≤(els.getD i []).length)) (.v undef) ⟨S.env,iX id (.sl nw ty s (els.set i (splice (els.getD i []) k fs))) S.st⟩|none=>.bad:=nr rfl
theorem qGl (S:HS) (id i k:Nat) (nw:Bool) (ty:Nat) (cells:List HV) (h:HV):pJ S id i k nw ty cells (some none) h=.go (cM (i=0∧k < cells.length∧h.one=true)) (.v undef) ⟨S.env,iX id (.bx nw ty (cells.set k h)) S.st⟩:=nr (by cases h <;> rfl)
theorem qGm (S:HS) (id i k n:Nat) (nw:Bool) (ty:Nat) (cells:List HV) (hs:List HV):pJ S id i k nw ty cells (some (some n)) (.agg hs)=.go (cM (i=0∧hs.length=n∧k + n≤cells.length)) (.v undef) ⟨S.env,iX id (.bx nw ty (splice cells k hs)) S.st⟩:=nr rfl
theorem qQ8 (S:HS) (id:Nat) (t:TypeId) (z:Array Value):pA S id t (some z)=.go (cM (tY z=true)) (.ptr id z.size 0 0) ((S.kill (only id)).row id (.bx true t (z.toList.map .v))):=nr rfl
theorem zAe (S:HS) (id:Nat) (t:TypeId) (h:HV):qV1 S id t (some h)=qMe S id t (fB h):=nr rfl
theorem qV0 (S:HS) (id:Nat) (t:TypeId) (cs:List HV):qMe S id t (some cs)=.go True (.ptr id cs.length 0 0) ((S.kill (only id)).row id (.bx true t (cs.map (HV.kill (only id))))):=nr rfl
theorem qJq (l:aN):jW l []=some []:=nr rfl
theorem qF3 (l:aN) (i:Nat) (x:Operand) (r:List (Nat × Operand)):jW l ((i,x) :: r)=match hev l x with|some v=>(match jW l r with|some vs=>some ((i,v) :: vs)|none=>none)|none=>none:=nr rfl
theorem qQh (eE:Nat→Option (Nat × Nat)) (cells:List HV):qD2 eE cells []=some (True,cells):=nr rfl
theorem qKv (eE:Nat→Option (Nat × Nat)) (cells:List HV) (i:Nat) (h:HV) (r:List (Nat × HV)):qD2 eE cells ((i,h) :: r)=match eE i with|some (off,n)=>(match fB h with|some cs=>(match qD2 eE (splice cells off cs) r with|some (c,out)=>some (cM (cs.length=n∧off + n≤cells.length)∧c,out)|none=>none)|none=>none)|none=>none:=nr rfl
theorem qQ7 (S:HS) (ok:Bool) (eE:Nat→Option (Nat × Nat)) (z:Array Value) (ps:List (Nat × HV)):xM S ok eE (some z) (some ps)=tP S (ok && tY z) (qD2 eE (z.toList.map .v) ps):=nr rfl
theorem qMd (S:HS) (ok:Bool) (c:Prop) (cs:List HV):tP S ok (some (c,cs))=.go (cM (ok=true)∧c) (.agg cs) S:=nr rfl
theorem qU9 (sz:Nat) (els:List (List FV)):qSo sz els []=some (True,els):=nr rfl
theorem qQc (sz:Nat) (els:List (List FV)) (i:Nat) (h:HV) (r:List (Nat × HV)):qSo sz els ((i,h) :: r)=match fB h with|some cs=>(match HV.fs cs with|some fs=>(match qSo sz (els.set i fs) r with|some (c,out)=>some (cM (fs.length=sz∧i < els.length)∧c,out)|none=>none)|none=>none)|none=>none:=nr rfl
theorem qMa (S:HS) (id n e sz by':Nat) (z:Array Value) (ps:List (Nat × HV)):lG S id n (some (e,sz,by',z)) (some ps)=match tY z && z.size == sz with|true=>lA S id e sz n z ps (qWz ps)|false=>.bad:=nr rfl
theorem qWy  : qWz []=true:=nr rfl
theorem qRl (i:Nat) (h:HV) (r:List (Nat × HV)):qWz ((i,h) :: r)=match fB h with|some cs=>((HV.fs cs).isSome && qWz r)|none=>qWz r:=nr rfl
theorem qQd (sz:Nat) (els:List (List HV)):qD0 sz els []=some (True,els):=nr rfl
theorem qKu (sz:Nat) (els:List (List HV)) (i:Nat) (h:HV) (r:List (Nat × HV)):qD0 sz els ((i,h) :: r)=match fB h with|some cs=>(match qD0 sz (els.set i cs) r with|some (c,out)=>some (cM (cs.length=sz∧i < els.length)∧c,out)|none=>none)|none=>none:=nr rfl
theorem zEw (id:Nat) (els:List (List HV)):hkl id els=els.map (List.map (HV.kill (only id))):=nr rfl
theorem qMb (S:HS) (id e sz n:Nat) (z:Array Value) (ps:List (Nat × HV)):lA S id e sz n z ps true=mU S id e sz n (qSo sz (List.replicate n (z.toList.map .v)) ps):=nr rfl
theorem qMc (S:HS) (id e sz n:Nat) (z:Array Value) (ps:List (Nat × HV)):lA S id e sz n z ps false=mT S id e sz n (qD0 sz (List.replicate n (z.toList.map .v)) ps):=nr rfl
theorem qGt (S:HS) (id e sz n:Nat) (c:Prop) (els:List (List HV)):mT S id e sz n (some (c,els))=.go (cM (n * sz≤16777216∧n≤16777216)∧c) (.own id) ((S.kill (only id)).row id (.hl true e sz (hkl id els))):=nr rfl
theorem qGu (S:HS) (id e sz n:Nat) (c:Prop) (els:List (List FV)):mU S id e sz n (some (c,els))=.go (cM (n * sz≤16777216∧n≤16777216)∧c) (.own id) ((S.kill (only id)).row id (.sl true e sz els)):=nr rfl
theorem qVs (S:HS) (id e sz by':Nat) (z:Array Value) (n m:Int):qGn S id (some (e,sz,by',z)) (some (.v (.int .i64 n))) (some (.v (.int .i64 m)))=match tY z && z.size == sz with|true=>.go (cM (n=m∧0≤n∧by' * n.toNat≤281474976710656∧n.toNat≤maxLen)) (.own id) ((S.kill (only id)).row id (.sl true e sz (List.replicate n.toNat (z.toList.map .v))))|false=>.bad:=nr rfl
theorem qJx (st:aB) (sz id:Nat):lP st sz (.own id)=match rlk st id with|some (.sl _ _ s els)=>some (cM (s=sz),els)|_=>none:=nr rfl
theorem qJz (st:aB) (sz:Nat) (fr:Bool) (xs:List (List FV)):lP st sz (.lst fr xs)=some (Wid sz xs,xs):=nr rfl
theorem qJy (st:aB) (sz:Nat):lP st sz (.v (.slice none 0 0))=some (True,[]):=nr rfl
theorem qK4 (P:Program) (S:HS) (id:Nat) (t:Nat) (args:Array Operand) (ats:Array TypeId):iS P S id (.call ⟨.value (.tmp t),args,ats⟩)=qCr (fnH (hlk S.env t)) (jR S.env args.toList):=nr rfl
theorem zHt (f:FuncId):fnH (some (.v (.func (.func f) #[] #[])))=some f:=nr rfl
theorem qGr (f:FuncId) (a:Option (List HV)):qCr (some f) a=qGs f a:=nr rfl
theorem qQo (P:Program) (S:HS) (id:Nat) (args:Array Operand) (ats:Array TypeId):iS P S id (.call ⟨.builtin .copy,args,ats⟩)=vU S (ats == #[fF ats,fF ats]) (cN P (fF ats)) (jR S.env args.toList):=nr rfl
theorem qQ0 (S:HS) (us:Option (Nat × Nat)) (id:Nat) (x:HV):vU S true us (some [.own id,x])=rV S id 0 none none x us (rlk S.st id):=nr rfl
theorem qVy (S:HS) (us:Option (Nat × Nat)) (id s off n:Nat) (x:HV):vU S true us (some [.vw id s off n,x])=rV S id off (some s) (some n) x us (rlk S.st id):=nr rfl
theorem qL9 (S:HS) (id off:Nat) (x:HV) (e sz:Nat) (nw:Bool) (ty s:Nat) (els:List (List FV)):rV S id off none none x (some (e,sz)) (some (.sl nw ty s els))=match decide (sz=s) with|true=>qAv S id s off els.length (s=s) nw ty els (lP S.st s x)|false=>.bad:=nr rfl
theorem qQ1 (S:HS) (id off s0 n:Nat) (x:HV) (e sz:Nat) (nw:Bool) (ty s:Nat) (els:List (List FV)):rV S id off (some s0) (some n) x (some (e,sz)) (some (.sl nw ty s els))=match decide (sz=s) with|true=>qAv S id s off n (s0=s) nw ty els (lP S.st s x)|false=>.bad:=nr rfl
def cpy (els:List (List FV)) (off:Nat) (news:List (List FV)) (n:Nat):List (List FV):=splice els off (news.take n)
def cpn (news:List (List FV)) (n:Nat):Nat:=min news.length n
theorem qGq (S:HS) (id sz off n:Nat) (ok:Prop) (nw:Bool) (ty:Nat) (els:List (List FV)) (c:Prop) (news:List (List FV)):qAv S id sz off n ok nw ty els (some (c,news))=.go (c∧cM (off + n≤els.length∧0 < sz∧ok)) (.v (.int .i64 (cpn news n:Nat))) ⟨S.env,iX id (.sl nw ty sz (cpy els off news n)) S.st⟩:=nr rfl
theorem qGv (S:HS) (nid:Nat) (same str:Bool) (e sz by':Nat) (z:Array Value) (id:Nat) (x:HV):kF S nid same str (some (e,sz,by',z)) (some [.own id,x])=match (same || str) && z.size == sz with|true=>qD8 S id e sz by' same x (qPq same str S.st sz x) (rlk S.st id)|false=>.bad:=nr rfl
theorem qPn (st:aB) (sz id:Nat):qJ0 st sz (.own id)=match rlk st id with|some (.sl _ _ s els)=>some (cM (s=sz),els.map (List.map FV.h))|some (.hl _ _ s els)=>some (cM (s=sz),els)|_=>none:=nr rfl
theorem qPp (st:aB) (sz:Nat) (fr:Bool) (xs:List (List FV)):qJ0 st sz (.lst fr xs)=some (Wid sz xs,xs.map (List.map FV.h)):=nr rfl
theorem qPo (st:aB) (sz:Nat):qJ0 st sz (.v (.slice none 0 0))=some (True,[]):=nr rfl
theorem zAy (a b c d:Nat):(#[a,b] == #[c,d])=(a == c && b == d):=by rw [Bool.eq_iff_iff];simp
theorem qZf (str:Bool) (st:aB) (sz:Nat) (x:HV):qPq true str st sz x=lP st sz x:=nr rfl
theorem qZg (st:aB) (sz:Nat) (x:HV):qPq false true st sz x=qUe x:=nr rfl
theorem qPl (s:ByteArray):qUe (.v (.string s))=some (True,iH s):=nr rfl
theorem qGw (S:HS) (nid:Nat) (same str:Bool) (e sz by':Nat) (z:Array Value) (x:HV):kF S nid same str (some (e,sz,by',z)) (some [.v (.slice none 0 0),x])=match same && z.size == sz with|true=>qAw S nid e sz by' true [] (lP S.st sz x)|false=>.bad:=nr rfl
theorem qV2 (S:HS) (id e sz by':Nat) (same:Bool) (x:HV) (news:Option (Prop × List (List FV))) (nw:Bool) (ty s:Nat) (els:List (List HV)):qD8 S id e sz by' same x news (some (.hl nw ty s els))=match same && (decide (ty=e) && decide (s=sz)) with|true=>qGx S id e sz by' nw els (qJ0 S.st sz x)|false=>.bad:=nr rfl
theorem qV5 (S:HS) (id e sz by':Nat) (nw:Bool) (els news:List (List HV)) (c:Prop):qGx S id e sz by' nw els (some (c,news))=.go (c∧cM ((els.length + news.length) * by'≤140737488355328∧0 < by'∧0 < sz)) (.own id) ((S.kill (only id)).row id (.hl nw e sz (hkl id (els ++ news)))):=nr rfl
theorem qV3 (S:HS) (id e sz by':Nat) (same:Bool) (x:HV) (news:Option (Prop × List (List FV))) (nw:Bool) (ty s:Nat) (els:List (List FV)):qD8 S id e sz by' same x news (some (.sl nw ty s els))=match decide (ty=e) && decide (s=sz) with|true=>qAw S id e sz by' nw els news|false=>.bad:=nr rfl
theorem qV4 (S:HS) (id e sz by':Nat) (nw:Bool) (els:List (List FV)) (c:Prop) (news:List (List FV)):qAw S id e sz by' nw els (some (c,news))=.go (c∧cM ((els.length + news.length) * by'≤140737488355328∧0 < by'∧0 < sz)) (.own id) ((S.kill (only id)).row id (.sl nw e sz (els ++ news))):=nr rfl
theorem qPt  : vC []=some []:=nr rfl
theorem qJ6 (x:Value) (r:List HV):vC (.v x :: r)=match vC r with|some vs=>some (x :: vs)|none=>none:=nr rfl
theorem zE3 (S:HS) (up:Bool) (t:TypeId) (neg:Bool) (xs ys:List HV):hEq S up t neg (some (.agg xs)) (some (.agg ys))=qSp t neg (vC xs) (vC ys):=nr rfl
theorem zAb (S:HS) (up:Bool) (t:TypeId) (neg:Bool) (a b c d:Nat):hEq S up t neg (some (.ptr a b c d)) (some (.v (.pointer none)))=.go (cM (up=true)) (.v (.bool neg)) S:=nr rfl
theorem zAc (S:HS) (up:Bool) (t:TypeId) (neg fr:Bool) (xs:List (List FV)) (a b c:Nat):hEq S up t neg (some (.elt fr xs a b c)) (some (.v (.pointer none)))=.go (cM (up=true)) (.v (.bool neg)) S:=nr rfl
theorem qQ2 (S:HS) (ok okB:Bool) (s:ByteArray):tN S ok okB (some (.v (.string s)))=.bytes okB s:=nr rfl
theorem qQ3 (S:HS) (ok okB:Bool) (id:Nat):tN S ok okB (some (.own id))=qCq S ok (rlk S.st id):=nr rfl
theorem qQ4 (S:HS) (ok okB fr:Bool) (xs:List (List FV)):tN S ok okB (some (.lst fr xs))=rW S ok (sG xs):=nr rfl
theorem qQ5 (S:HS) (ok nw:Bool) (t s:Nat) (els:List (List FV)):qCq S ok (some (.sl nw t s els))=rW S ok (sG els):=nr rfl
theorem qQ6 (S:HS) (ok:Bool) (ns:List Int):rW S ok (some ns)=.go (cM (ok=true)) (.v (.string (strOfNums ns))) S:=nr rfl
theorem qM1  : sG []=some []:=nr rfl
theorem qG3 (n:Int) (r:List (List FV)):sG ([.v (.int .u8 n)] :: r)=match sG r with|some ns=>some (n :: ns)|none=>none:=nr rfl
theorem zAd (t:TypeId) (neg:Bool) (xs ys:List Value):qSp t neg (some xs) (some ys)=.eqn t xs ys neg:=nr rfl
theorem qVz (f:FuncId) (hs:List HV):qGs f (some hs)=.call f hs:=nr rfl
theorem zAx (ats:Array TypeId):fF ats=ats.getD 0 0:=nr rfl
theorem qPh (z:Array Value):tY z=z.toList.all (fun v=>v.oneCell'):=nr rfl
theorem zKx (x:Value):(HV.v x).f=some (.v x):=nr rfl
theorem zE1 (i:Nat):(HV.own i).f=none:=nr rfl
theorem zHs (i s o n:Nat):(HV.vw i s o n).f=none:=nr rfl
theorem zE0 (i s j k:Nat):(HV.ptr i s j k).f=none:=nr rfl
theorem zE2 (fr:Bool) (xs:List (List FV)):(HV.lst fr xs).f=some (.lst fr xs):=nr rfl
theorem qZ5  : HV.fs []=some []:=nr rfl
theorem qVd (h:HV) (r:List HV):HV.fs (h :: r)=match h.f,HV.fs r with|some f,some fs=>some (f :: fs)|_,_=>none:=nr rfl
theorem zE5 (x:Value):(FV.v x).one=x.oneCell':=nr rfl
theorem qV9 (fr:Bool) (xs:List (List FV)):(FV.lst fr xs).one=true:=nr rfl
theorem zEv (x:Value):(HV.v x).one=x.oneCell':=nr rfl
theorem qU6 (fr:Bool) (xs:List (List FV)):(HV.lst fr xs).one=true:=nr rfl
theorem qU5 (i:Nat):(HV.own i).one=true:=nr rfl
theorem qU4 (i s j k:Nat):(HV.ptr i s j k).one=true:=nr rfl
theorem zFr (x:Value):(FV.v x).h=.v x:=nr rfl
theorem qMj (fr:Bool) (xs:List (List FV)):(FV.lst fr xs).h=.lst fr xs:=nr rfl
theorem qZd (k:IntKind) (n:Int):Value.oneCell' (.int k n)=true:=nr rfl
theorem qLb (k:IntKind) (n:Int):fB (.v (.int k n))=some [.v (.int k n)]:=nr rfl
theorem qUc (b:Bool):Value.oneCell' (.bool b)=true:=nr rfl
theorem qGf (b:Bool):fB (.v (.bool b))=some [.v (.bool b)]:=nr rfl
theorem qZb (s:ByteArray):Value.oneCell' (.string s)=true:=nr rfl
theorem qK9 (s:ByteArray):fB (.v (.string s))=some [.v (.string s)]:=nr rfl
theorem qPg (a:Option Addr) (n c:Nat):Value.oneCell' (.slice a n c)=true:=nr rfl
theorem qD4 (a:Option Addr) (n c:Nat):fB (.v (.slice a n c))=some [.v (.slice a n c)]:=nr rfl
theorem qZc (a:Option Addr):Value.oneCell' (.pointer a)=true:=nr rfl
theorem qLa (a:Option Addr):fB (.v (.pointer a))=some [.v (.pointer a)]:=nr rfl
theorem qLf (cs:List HV):fB (.agg cs)=some cs:=nr rfl
theorem qLe (fr:Bool) (xs:List (List FV)):fB (.lst fr xs)=some [.lst fr xs]:=nr rfl
theorem qLd (i:Nat):fB (.own i)=some [.own i]:=nr rfl
theorem qLc (i s j k:Nat):fB (.ptr i s j k)=some [.ptr i s j k]:=nr rfl
theorem qNu {α:Type} (l:List α) (k:Nat) (cs:List α):splice l k cs=l.take k ++ cs ++ l.drop (k + cs.length):=nr rfl
theorem sZ (e:aN) (s:aB) (p:Nat→Bool):HS.kill ⟨e,s⟩ p=⟨kL p e,fM p s⟩:=nr rfl
theorem yZ (e:aN) (s:aB) (id:Nat) (r:Row):HS.row ⟨e,s⟩ id r=⟨e,(id,r) :: s⟩:=nr rfl
theorem qTq (e:aN) (s:aB) (k:Nat) (h:HV):HS.set ⟨e,s⟩ (some k) h=⟨(k,h) :: e,s⟩:=nr rfl
theorem qTr (S:HS) (h:HV):HS.set S none h=S:=nr rfl
theorem qAb (e:aN) (s:aB) (d:Nat) (h:HV):HS.rep ⟨e,s⟩ d h=⟨xL d h e,s⟩:=nr rfl
theorem oN (d:Nat) (h:HV):xL d h []=[]:=nr rfl
theorem lX (d:Nat) (h:HV) (k:Nat) (x:HV) (r:aN):xL d h ((k,x) :: r)=if k=d then (k,h) :: r else (k,x) :: xL d h r:=nr rfl
theorem mE (p:Nat→Bool):kL p []=[]:=nr rfl
theorem jZ (p:Nat→Bool) (k:Nat) (h:HV) (r:aN):kL p ((k,h) :: r)=(k,h.kill p) :: kL p r:=nr rfl
theorem gK (p:Nat→Bool):fM p []=[]:=nr rfl
theorem fL (p:Nat→Bool) (k:Nat) (h:Row) (r:aB):fM p ((k,h) :: r)=bif p k then fM p r else (k,h.kill p) :: fM p r:=nr rfl
theorem iC (p:Nat→Bool) (nw:Bool) (t s:Nat) (xs:List (List FV)):(Row.sl nw t s xs).kill p=.sl nw t s xs:=nr rfl
theorem iD (p:Nat→Bool) (nw:Bool) (t s:Nat) (xs:List (List HV)):(Row.hl nw t s xs).kill p=.hl nw t s (xs.map (List.map (HV.kill p))):=nr rfl
theorem iE (p:Nat→Bool) (nw:Bool) (t:Nat) (cs:List HV):(Row.bx nw t cs).kill p=.bx nw t (cs.map (HV.kill p)):=nr rfl
theorem jN (p:Nat→Bool) (x:Value):HV.kill p (.v x)=.v x:=by rw [HV.kill]
theorem gS (m:Nat→Option Nat) (x:Value):HV.ren m (.v x)=.v x:=by rw [HV.ren]
theorem cC (id:Nat) (x0:HV) (x:Value):HV.sub id x0 (.v x)=.v x:=by rw [HV.sub]
theorem gP (p:Nat→Bool) (fr:Bool) (xs:List (List FV)):HV.kill p (.lst fr xs)=.lst fr xs:=by rw [HV.kill]
theorem eC (m:Nat→Option Nat) (fr:Bool) (xs:List (List FV)):HV.ren m (.lst fr xs)=.lst fr xs:=by rw [HV.ren]
theorem aX (id:Nat) (x0:HV) (fr:Bool) (xs:List (List FV)):HV.sub id x0 (.lst fr xs)=.lst fr xs:=by rw [HV.sub]
theorem mA (p:Nat→Bool) (fr:Bool) (xs:List (List FV)) (s j k:Nat):HV.kill p (.elt fr xs s j k)=.elt fr xs s j k:=by rw [HV.kill]
theorem qU1 (m:Nat→Option Nat) (fr:Bool) (xs:List (List FV)) (s j k:Nat):HV.ren m (.elt fr xs s j k)=.elt fr xs s j k:=by rw [HV.ren]
theorem aY (id:Nat) (x0:HV) (fr:Bool) (xs:List (List FV)) (s j k:Nat):HV.sub id x0 (.elt fr xs s j k)=.elt fr xs s j k:=by rw [HV.sub]
theorem fR (p:Nat→Bool):HV.kill p .junk=.junk:=by rw [HV.kill]
theorem dD (m:Nat→Option Nat):HV.ren m .junk=.junk:=by rw [HV.ren]
theorem aK (id:Nat) (x0:HV):HV.sub id x0 .junk=.junk:=by rw [HV.sub]
theorem gN (p:Nat→Bool) (i:Nat):HV.kill p (.own i)=bif p i then .junk else .own i:=by rw [HV.kill]
theorem gM (p:Nat→Bool) (i s j k:Nat):HV.kill p (.ptr i s j k)=bif p i then .junk else .ptr i s j k:=by rw [HV.kill]
theorem mB (p:Nat→Bool) (cs:List HV):HV.kill p (.agg cs)=.agg (cs.map (HV.kill p)):=by rw [HV.kill]
theorem lZ (p:Nat→Bool) (cs:List HV):HV.kill p (.tup cs)=.tup (cs.map (HV.kill p)):=by rw [HV.kill]
theorem eB (m:Nat→Option Nat) (i:Nat):HV.ren m (.own i)=match m i with|some j=>.own j|none=>.junk:=by rw [HV.ren];cases m i <;> rfl
theorem eF (m:Nat→Option Nat) (i s j k:Nat):HV.ren m (.ptr i s j k)=match m i with|some i'=>.ptr i' s j k|none=>.junk:=by rw [HV.ren];cases m i <;> rfl
theorem eD (m:Nat→Option Nat) (cs:List HV):HV.ren m (.agg cs)=.agg (cs.map (HV.ren m)):=by rw [HV.ren]
theorem dZ (m:Nat→Option Nat) (cs:List HV):HV.ren m (.tup cs)=.tup (cs.map (HV.ren m)):=by rw [HV.ren]
theorem aW (id:Nat) (x0:HV) (i:Nat):HV.sub id x0 (.own i)=if i=id then x0 else .own i:=by rw [HV.sub]
theorem aV (id:Nat) (x0:HV) (i s j k:Nat):HV.sub id x0 (.ptr i s j k)=if i=id then .junk else .ptr i s j k:=by rw [HV.sub]
theorem aZ (id:Nat) (x0:HV) (cs:List HV):HV.sub id x0 (.agg cs)=.agg (cs.map (HV.sub id x0)):=by rw [HV.sub]
theorem aU (id:Nat) (x0:HV) (cs:List HV):HV.sub id x0 (.tup cs)=.tup (cs.map (HV.sub id x0)):=by rw [HV.sub]
theorem fG (m:Nat→Option Nat) (nw:Bool) (t s:Nat) (xs:List (List FV)):(Row.sl nw t s xs).ren m=.sl nw t s xs:=nr rfl
theorem fH (m:Nat→Option Nat) (nw:Bool) (t s:Nat) (xs:List (List HV)):(Row.hl nw t s xs).ren m=.hl nw t s (xs.map (List.map (HV.ren m))):=nr rfl
theorem fJ (m:Nat→Option Nat) (nw:Bool) (t:Nat) (cs:List HV):(Row.bx nw t cs).ren m=.bx nw t (cs.map (HV.ren m)):=nr rfl
theorem bF (id:Nat) (x0:HV) (nw:Bool) (t s:Nat) (xs:List (List FV)):(Row.sl nw t s xs).sub id x0=.sl nw t s xs:=nr rfl
theorem bG (id:Nat) (x0:HV) (nw:Bool) (t s:Nat) (xs:List (List HV)):(Row.hl nw t s xs).sub id x0=.hl nw t s (xs.map (List.map (HV.sub id x0))):=nr rfl
theorem bH (id:Nat) (x0:HV) (nw:Bool) (t:Nat) (cs:List HV):(Row.bx nw t cs).sub id x0=.bx nw t (cs.map (HV.sub id x0)):=nr rfl
theorem jM (id i:Nat):only id i=(i == id):=nr rfl
theorem qWh (n i:Nat):eG n i=(decide (n≤i) && decide (i < n + 8)):=by rw [Bool.eq_iff_iff];simp [eG]
theorem zHn (n i:Nat):sh n i=bif decide (i < 8) then some (n + i) else none:=by unfold sh;congr 1;rw [Bool.eq_iff_iff];simp
theorem zAz (e:aN) (s:aB) (n:Nat) (st:aB):HS.adds ⟨e,s⟩ n st=⟨kL (eG n) e,qDf n st (fM (eG n) s)⟩:=nr rfl
theorem qN6 (n:Nat) (b:aB):qDf n [] b=b:=nr rfl
theorem qJb (n k:Nat) (r:Row) (t b:aB):qDf n ((k,r) :: t) b=(n + k,r.ren (sh n)) :: qDf n t b:=nr rfl
theorem bJ (e:aN) (s:aB) (id:Nat) (x:HV):HS.rest ⟨e,s⟩ id x=⟨qWf id x e,qHr id x s⟩:=nr rfl
theorem bC (id:Nat) (x:HV):qWf id x []=[]:=nr rfl
theorem aL (id:Nat) (x:HV) (k:Nat) (h:HV) (r:aN):qWf id x ((k,h) :: r)=(k,HV.sub id x h) :: qWf id x r:=nr rfl
theorem aT (id:Nat) (x:HV):qHr id x []=[]:=nr rfl
theorem aJ (id:Nat) (x:HV) (k:Nat) (h:Row) (r:aB):qHr id x ((k,h) :: r)=if k=id then qHr id x r else (k,h.sub id x) :: qHr id x r:=nr rfl
theorem mK (id:Nat) (r:Row):iX id r []=[]:=nr rfl
theorem kC (id:Nat) (r:Row) (k:Nat) (s:Row) (t:aB):iX id r ((k,s) :: t)=if k=id then (k,r) :: t else (k,s) :: iX id r t:=nr rfl
theorem zAa (l:aN) (ds:List (Option Nat)):hG l ds none=.yes:=nr rfl
theorem qZ9 (l:aN) (ds:List (Option Nat)) (j:Nat) (want:Bool):hG l ds (some (j,want))=match ds[j]? with|some (some d)=>hGv d want (hlk l d)|_=>.bad:=nr rfl
theorem qVx (d:Nat) (want b:Bool):hGv d want (some (.v (.bool b)))=.ask d b want:=nr rfl
theorem qZ8 (d:Nat) (want:Bool) (vs:Array Value):hGv d want (some (.v (.tuple vs)))=.no:=nr rfl
theorem zEx (P:Program) (d:Option Nat) (S:HS) (K:HS→Prop) (c:Prop) (h:HV) (S':HS):qFf P d S K (.go c h S')=(c∧K (S'.set d h)):=nr rfl
theorem qVc (P:Program) (d:Option Nat) (S:HS) (K:HS→Prop) (f:FuncId) (args:List HV):qFf P d S K (.call f args)=HAt P f args S (fun h S'=>mW K (S'.set d h)):=nr rfl
theorem qZ3 (P:Program) (d:Option Nat) (S:HS) (K:HS→Prop) (t:TypeId) (x y:List Value) (neg:Bool):qFf P d S K (.eqn t x y neg)=∃ r,EqR P t x.toArray y.toArray r∧mW K (S.set d (.v (.bool (neg ^^ r)))):=nr rfl
theorem qQg (P:Program) (d:Option Nat) (S:HS) (K:HS→Prop) (ok:Bool) (s:ByteArray):qFf P d S K (.bytes ok s)=(cM (ok=true∧s.size≤9223372036854775807)∧K (S.set d (.lst true (iH s)))):=nr rfl
theorem zEy (P:Program) (N:Nat) (o:Oper) (S:HS) (K:HS→Prop):HGo P N o S K=zHi P N o (oP S o.op) K:=nr rfl
theorem qZ4 (P:Program) (N:Nat) (o:Oper) (S:HS) (K:HS→Prop):zHi P N o S K=match gZ N o.dst with|true=>qFf P o.dst S K (hop P S (rS o.dst) o.op)|false=>False:=nr rfl
theorem qP7 (S:HS) (x:Operand):oP S (.move x)=S:=nr rfl
theorem qGb (S:HS) (x:Operand):oP S (.assign x)=S:=nr rfl
theorem qP5 (S:HS) (c a b:Operand):oP S (.pick c a b)=S:=nr rfl
theorem qDx (S:HS) (x:Operand) (i:Nat):oP S (.extract x i)=S:=nr rfl
theorem qKo (S:HS) (t:TypeId) (x:Operand) (f:Nat):oP S (.field t x f)=S:=nr rfl
theorem qKp (S:HS) (t:TypeId) (x:Operand) (f:Nat):oP S (.fieldAddr t x f)=S:=nr rfl
theorem qP6 (S:HS) (x:Operand):oP S (.nilCheck x)=S:=nr rfl
theorem qKn (S:HS) (t:TypeId) (x i:Operand):oP S (.indexAddr t x i)=S:=nr rfl
theorem qKl (S:HS) (t:TypeId) (x:Operand) (l h m:Option Operand):oP S (.slice t x l h m)=S:=nr rfl
theorem qP9 (S:HS) (t:TypeId) (x:Operand):oP S (.load t x)=S:=nr rfl
theorem qKq (S:HS) (t:TypeId) (ps:Array (Nat × Operand)):oP S (.build t ps)=S:=nr rfl
theorem qU3 (S:HS) (b:BinOp) (t:TypeId) (x y:Operand) (u:TypeId):oP S (.binOp b t x y u)=S:=nr rfl
theorem qZw (S:HS) (u:UnOp) (t:TypeId) (x:Operand):oP S (.unOp u t x)=S:=nr rfl
theorem qQa (S:HS) (s d:TypeId) (x:Operand):oP S (.convert s d x)=S:=nr rfl
theorem qKm (S:HS) (t:TypeId) (x i:Operand):oP S (.index t x i)=S:=nr rfl
theorem qQb (S:HS) (c:Call):oP S (.call c)=S:=nr rfl
theorem qKr (S:HS) (t:TypeId):oP S (.alloc t)=S:=nr rfl
theorem qU2 (S:HS) (t:TypeId) (x:Operand):oP S (.box t x)=S:=nr rfl
theorem qP8 (S:HS) (t:TypeId) (x y:Operand):oP S (.makeSlice t x y)=S:=nr rfl
theorem qKk (S:HS) (t:TypeId) (x y:Operand):oP S (.store t x y)=restAll S (zD2 S (hev S.env x) (hev S.env y)):=nr rfl
theorem qGa (S:HS) (t n:TypeId) (ps:Array (Nat × Operand)):oP S (.buildSlice t n ps)=restAll S (zD3 (jW S.env ps.toList)):=nr rfl
theorem qT3 (S:HS) (id sz i k:Nat) (h:HV):zD2 S (some (.ptr id sz i k)) (some h)=qT7 S h (rlk S.st id):=nr rfl
theorem qT4 (S:HS) (h:HV) (nw:Bool) (ty s:Nat) (els:List (List FV)):qT7 S h (some (.sl nw ty s els))=xB h:=nr rfl
theorem qT6 (S:HS) (h:HV) (nw:Bool) (ty:Nat) (cs:List HV):qT7 S h (some (.bx nw ty cs))=[]:=nr rfl
theorem qT8 (ps:List (Nat × HV)):zD3 (some ps)=ps.flatMap fun p=>xB p.2:=nr rfl
theorem qJs (i:Nat):xB (.own i)=[i]:=nr rfl
theorem qUa (x:Value):xB (.v x)=[]:=nr rfl
theorem qJt (fr:Bool) (xs:List (List FV)):xB (.lst fr xs)=[]:=nr rfl
theorem qJu (cs:List HV):xB (.agg cs)=cs.flatMap qBk:=nr rfl
theorem qF4 (i:Nat):qBk (.own i)=[i]:=nr rfl
theorem qPf (x:Value):qBk (.v x)=[]:=nr rfl
theorem qF5 (fr:Bool) (xs:List (List FV)):qBk (.lst fr xs)=[]:=nr rfl
theorem qFt (S:HS):restAll S []=S:=nr rfl
theorem qDd (S:HS) (i:Nat) (r:List Nat):restAll S (i :: r)=restAll (qDc S i) r:=nr rfl
theorem qH9 (e:aN) (s:aB) (i:Nat):qDc ⟨e,s⟩ i=match decide (i < 1000000) with|true=>(match rlk s i with|some (.sl nw _ _ els)=>HS.rest ⟨e,s⟩ i (.lst nw els)|_=>⟨e,s⟩)|false=>⟨e,s⟩:=by unfold qDc;rw [show Nat.blt i held=decide (i < 1000000) by rw [Bool.eq_iff_iff];simp [Nat.blt_eq,held]];rfl
theorem qT5 (S:HS) (h:HV) (nw:Bool) (ty s:Nat) (els:List (List HV)):qT7 S h (some (.hl nw ty s els))=[]:=nr rfl
theorem qUy (N:Nat) (d:Option Nat) (S:HS) (K:HS→Prop):mX N d S K=match gZ N d with|true=>K (S.set d (.v undef))|false=>False:=nr rfl
theorem qP3 (P:Program) (N:Nat) (o:Oper) (S:HS) (K:HS→Prop):qRq P N o S K .yes=HGo P N o S K:=nr rfl
theorem qUx (P:Program) (N:Nat) (o:Oper) (S:HS) (K:HS→Prop):qRq P N o S K .no=mX N o.dst S K:=nr rfl
theorem qP4 (P:Program) (N:Nat) (o:Oper) (S:HS) (K:HS→Prop) (d:Nat) (b want:Bool):qRq P N o S K (.ask d b want)=match b == want with|true=>HGo P N o (S.rep d (.v (.bool want))) K|false=>mX N o.dst (S.rep d (.v (.bool (!want)))) K:=nr rfl
theorem qZv (P:Program) (N:Nat) (ds:List (Option Nat)) (K:HS→Prop) (S:HS):HV2 P N ds K [] S=K S:=nr rfl
theorem qUw (P:Program) (N:Nat) (ds:List (Option Nat)) (K:HS→Prop) (o:Oper) (rest:List Oper) (S:HS):HV2 P N ds K (o :: rest) S=qRq P N o S (HV2 P N ds K rest) (hG S.env ds o.guard):=nr rfl
theorem qZ1 (P:Program) (o:Oper) (S:HS) (K:HS→Prop) (c:Prop) (h:HV) (S':HS):qEo P o S K (.go c h S')=(fN o.op=true∧c∧K (S.set o.dst h)):=nr rfl
theorem qQf (P:Program) (o:Oper) (S:HS) (K:HS→Prop) (f:FuncId) (args:List HV):qEo P o S K (.call f args)=zLh P f args S (fun x=>mW K (S.set o.dst (.v x))):=nr rfl
theorem qVb (P:Program) (o:Oper) (S:HS) (K:HS→Prop) (t:TypeId) (x y:List Value) (neg:Bool):qEo P o S K (.eqn t x y neg)=∃ r,EqR P t x.toArray y.toArray r∧mW K (S.set o.dst (.v (.bool (neg ^^ r)))):=nr rfl
theorem qZ2 (P:Program) (N:Nat) (o:Oper) (S:HS) (K:HS→Prop):qW9 P N o S K=match gZ N o.dst with|true=>qEo P o S K (hop P S (rS o.dst) o.op)|false=>False:=nr rfl
theorem qKi (P:Program) (N:Nat) (o:Oper) (S:HS) (K:HS→Prop):qFe P N o S K .yes=qW9 P N o S K:=nr rfl
theorem qP2 (P:Program) (N:Nat) (o:Oper) (S:HS) (K:HS→Prop):qFe P N o S K .no=mX N o.dst S K:=nr rfl
theorem qKj (P:Program) (N:Nat) (o:Oper) (S:HS) (K:HS→Prop) (d:Nat) (b want:Bool):qFe P N o S K (.ask d b want)=match b == want with|true=>qW9 P N o (S.rep d (.v (.bool want))) K|false=>mX N o.dst (S.rep d (.v (.bool (!want)))) K:=nr rfl
theorem qZu (P:Program) (N:Nat) (ds:List (Option Nat)) (K:HS→Prop) (S:HS):HVq P N ds K [] S=K S:=nr rfl
theorem qUv (P:Program) (N:Nat) (ds:List (Option Nat)) (K:HS→Prop) (o:Oper) (rest:List Oper) (S:HS):HVq P N ds K (o :: rest) S=qFe P N o S (HVq P N ds K rest) (hG S.env ds o.guard):=nr rfl
theorem qNz (t:Nat):cT (.tmp t)=[t]:=nr rfl
theorem qFp (v:Value):cT (.const v)=[]:=nr rfl
theorem qDb (g:Nat):cT (.global g)=[]:=nr rfl
theorem qHz (f:FuncId):cT (.func f)=[]:=nr rfl
theorem qHw  : wT []=[]:=nr rfl
theorem qFo (x:Operand) (r:List Operand):wT (x :: r)=cT x ++ wT r:=nr rfl
theorem qHu  : oZ []=[]:=nr rfl
theorem qFm (k:Nat) (x:Operand) (r:List (Nat × Operand)):oZ ((k,x) :: r)=cT x ++ oZ r:=nr rfl
theorem qH0 (x:Operand):qFq (some x)=cT x:=nr rfl
theorem qH1  : qFq none=[]:=nr rfl
theorem qC6 (x:Operand):cE (.move x)=cT x:=nr rfl
theorem yX (x:Operand):cE (.assign x)=cT x:=nr rfl
theorem qC5 (x:Operand):cE (.nilCheck x)=cT x:=nr rfl
theorem qC4 (c a b:Operand):cE (.pick c a b)=cT c ++ (cT a ++ cT b):=nr rfl
theorem xV (x:Operand) (i:Nat):cE (.extract x i)=cT x:=nr rfl
theorem qCc (t:TypeId) (x:Operand) (f:Nat):cE (.field t x f)=cT x:=nr rfl
theorem qCd (t:TypeId) (x:Operand) (f:Nat):cE (.fieldAddr t x f)=cT x:=nr rfl
theorem qC7 (t:TypeId) (x:Operand):cE (.load t x)=cT x:=nr rfl
theorem qHv (u:UnOp) (t:TypeId) (x:Operand):cE (.unOp u t x)=cT x:=nr rfl
theorem qC8 (s d:TypeId) (x:Operand):cE (.convert s d x)=cT x:=nr rfl
theorem qCb (t:TypeId) (x i:Operand):cE (.indexAddr t x i)=cT x ++ cT i:=nr rfl
theorem qCa (t:TypeId) (x i:Operand):cE (.index t x i)=cT x ++ cT i:=nr rfl
theorem qB8 (t:TypeId) (x:Operand) (l h:Option Operand):cE (.slice t x l h none)=cT x ++ (qFq l ++ qFq h):=nr rfl
theorem qFn (b:BinOp) (t:TypeId) (x y:Operand) (u:TypeId):cE (.binOp b t x y u)=cT x ++ cT y:=nr rfl
theorem qCe (t:TypeId) (ps:Array (Nat × Operand)):cE (.build t ps)=oZ ps.toList:=nr rfl
theorem qM (t:TypeId) (n:Nat) (ps:Array (Nat × Operand)):cE (.buildSlice t n ps)=oZ ps.toList:=nr rfl
theorem qB9 (t:TypeId) (x y:Operand):cE (.makeSlice t x y)=cT x ++ cT y:=nr rfl
theorem qC9 (k:Callee) (args:Array Operand) (ats:Array TypeId):cE (.call ⟨k,args,ats⟩)=qHy k ++ wT args.toList:=nr rfl
theorem qDa (x:Operand):qHy (.value x)=cT x:=nr rfl
theorem yY (b:Builtin):qHy (.builtin b)=[]:=nr rfl
theorem qH3 (ds:List (Option Nat)):jL ds none=[]:=nr rfl
theorem qH2 (ds:List (Option Nat)) (g:Nat) (b:Bool):jL ds (some (g,b))=match ds[g]? with|some (some d)=>[d]|_=>[]:=nr rfl
theorem qPb (e:aN):kV e []=[]:=nr rfl
theorem qJp (e:aN) (t:Nat) (r:List Nat):kV e (t :: r)=match hlk e t with|some h=>(t,h) :: kV e r|none=>kV e r:=nr rfl
theorem qJm  : nJ []=true:=nr rfl
theorem qT2 (k:Nat) (v:Value) (r:aN):nJ ((k,.v v) :: r)=nJ r:=nr rfl
theorem qJn (k:Nat) (b:Bool) (xs:List (List FV)) (r:aN):nJ ((k,.lst b xs) :: r)=nJ r:=nr rfl
theorem qJo (k:Nat) (hs:List HV) (r:aN):nJ ((k,.agg hs) :: r)=nJ r:=nr rfl
theorem qU7 (d:Option Nat) (S:HS) (K:HS→Prop) (c:Prop) (i:Nat) (S':HS):zA5 d S K (.go c (.own i) S')=match rlk S'.st i with|some (.sl _ _ _ els)=>c∧K (S.set d (.lst true els))|_=>False:=nr rfl
theorem qF7 (t:TypeId) (n:Nat) (ps:Array (Nat × Operand)):zG1 (.buildSlice t n ps)=true:=nr rfl
theorem qJ3 (t:TypeId) (x y:Operand):zG1 (.makeSlice t x y)=true:=nr rfl
theorem qDg (t:TypeId) (n:Nat) (ps:Array (Nat × Operand)):fN (.buildSlice t n ps)=false:=nr rfl
theorem qFw (t:TypeId) (x y:Operand):fN (.makeSlice t x y)=false:=nr rfl
theorem qZz (P:Program) (o:Oper) (S T:HS) (K:HS→Prop) (c:Prop) (h:HV) (S':HS):qB2 P o S T K (.go c h S')=match fN o.op with|true=>c∧K (S.set o.dst h)|false=>(match zG1 o.op && nJ T.env with|true=>zA5 o.dst S K (hop P ⟨T.env,[]⟩ (rS o.dst) o.op)|false=>False):=nr rfl
theorem qQe (P:Program) (o:Oper) (S T:HS) (K:HS→Prop) (f:FuncId) (args:List HV):qB2 P o S T K (.call f args)=zHj P f args T (fun x=>mW K (S.set o.dst x)):=nr rfl
theorem qVa (P:Program) (o:Oper) (S T:HS) (K:HS→Prop) (t:TypeId) (x y:List Value) (neg:Bool):qB2 P o S T K (.eqn t x y neg)=∃ r,EqR P t x.toArray y.toArray r∧mW K (S.set o.dst (.v (.bool (neg ^^ r)))):=nr rfl
theorem qZ0 (P:Program) (N:Nat) (o:Oper) (S T:HS) (K:HS→Prop):qYt P N o S T K=match gZ N o.dst with|true=>qB2 P o S T K (hop P T (rS o.dst) o.op)|false=>False:=nr rfl
theorem qKg (P:Program) (N:Nat) (o:Oper) (S T:HS) (K:HS→Prop):jC P N o S T K .yes=qYt P N o S T K:=nr rfl
theorem qP1 (P:Program) (N:Nat) (o:Oper) (S T:HS) (K:HS→Prop):jC P N o S T K .no=mX N o.dst S K:=nr rfl
theorem qKh (P:Program) (N:Nat) (o:Oper) (S T:HS) (K:HS→Prop) (d:Nat) (b want:Bool):jC P N o S T K (.ask d b want)=match b == want with|true=>qYt P N o (S.rep d (.v (.bool want))) (T.rep d (.v (.bool want))) K|false=>mX N o.dst (S.rep d (.v (.bool (!want)))) K:=nr rfl
theorem qZt (P:Program) (N:Nat) (ds:List (Option Nat)) (K:HS→Prop) (S:HS):HVr P N ds K [] S=K S:=nr rfl
theorem qUu (P:Program) (N:Nat) (ds:List (Option Nat)) (K:HS→Prop) (o:Oper) (rest:List Oper) (S:HS):HVr P N ds K (o :: rest) S=jC P N o S ⟨kV S.env (jL ds o.guard ++ cE o.op),S.st⟩ (HVr P N ds K rest) (hG (kV S.env (jL ds o.guard ++ cE o.op)) ds o.guard):=nr rfl
theorem qPz (k:Nat):rS (some k)=8 * k:=nr rfl
theorem qP0  : rS none=0:=nr rfl
theorem qJe (x:Operand):fN (.move x)=true:=nr rfl
theorem qDh (x:Operand):fN (.assign x)=true:=nr rfl
theorem qJc (c a b:Operand):fN (.pick c a b)=true:=nr rfl
theorem qCg (x:Operand) (i:Nat):fN (.extract x i)=true:=nr rfl
theorem qFz (t:TypeId) (x:Operand) (f:Nat):fN (.field t x f)=true:=nr rfl
theorem qF0 (t:TypeId) (x:Operand) (f:Nat):fN (.fieldAddr t x f)=true:=nr rfl
theorem qJd (x:Operand):fN (.nilCheck x)=true:=nr rfl
theorem qFy (t:TypeId) (x i:Operand):fN (.indexAddr t x i)=true:=nr rfl
theorem qFv (t:TypeId) (x:Operand) (l h m:Option Operand):fN (.slice t x l h m)=true:=nr rfl
theorem qJf (t:TypeId) (x:Operand):fN (.load t x)=true:=nr rfl
theorem qF1 (t:TypeId) (ps:Array (Nat × Operand)):fN (.build t ps)=true:=nr rfl
theorem qN9 (b:BinOp) (t:TypeId) (x y:Operand) (u:TypeId):fN (.binOp b t x y u)=true:=nr rfl
theorem qT0 (u:UnOp) (t:TypeId) (x:Operand):fN (.unOp u t x)=true:=nr rfl
theorem qJg (s d:TypeId) (x:Operand):fN (.convert s d x)=true:=nr rfl
theorem qFx (t:TypeId) (x i:Operand):fN (.index t x i)=true:=nr rfl
theorem qN8 (args:Array Operand) (ats:Array TypeId):fN (.call ⟨.builtin .len,args,ats⟩)=true:=nr rfl
theorem qN7 (args:Array Operand) (ats:Array TypeId):fN (.call ⟨.builtin .min,args,ats⟩)=true:=nr rfl
theorem qRj (k:Nat):sH k []=[]:=nr rfl
theorem qM4 (k:Nat) (v:HV) (r:List HV):sH k (v :: r)=(k,v) :: sH (k + 1) r:=nr rfl
theorem zZ (e:aN) (s:aB) (ks ids:List Nat):HS.keep ⟨e,s⟩ ks ids=⟨pC ks e,uJ ids s⟩:=nr rfl
theorem zR (l:aN):pC [] l=[]:=nr rfl
theorem zP (k:Nat) (r:List Nat) (l:aN):pC (k :: r) l=match hlk l k with|some v=>(k,v) :: pC r l|none=>pC r l:=nr rfl
theorem zQ (l:aB):uJ [] l=[]:=nr rfl
theorem zN (k:Nat) (r:List Nat) (l:aB):uJ (k :: r) l=match rlk l k with|some v=>(k,v) :: uJ r l|none=>uJ r l:=nr rfl
theorem yA (P:Program) (rs:List ResultVar) (Q:HV→aB→Prop) (S:HS):zEz P rs Q .normal S=nZ P S rs fun hs=>qNe S (vP hs) Q:=nr rfl
theorem yM (P:Program) (rs:List ResultVar) (Q:HV→aB→Prop) (S:HS):zEz P rs Q .ret S=nZ P S rs fun hs=>qNe S (vP hs) Q:=nr rfl
theorem yH (P:Program) (S:HS) (K:List HV→Prop):nZ P S [] K=K []:=nr rfl
theorem aR (P:Program) (S:HS) (p ty:Nat) (r:List ResultVar) (K:List HV→Prop):nZ P S (.cell p ty :: r) K=zH2 (tH S (dG P ty) (hlk S.env p)) fun h=>nZ P S r fun hs=>K (h :: hs):=nr rfl
theorem bT (c:Prop) (h:HV) (S:HS) (K:HV→Prop):zH2 (.go c h S) K=(c∧K h):=nr rfl
theorem yE (P:Program) (S:HS) (t:Nat) (r:List ResultVar) (K:List HV→Prop):nZ P S (.tmp t :: r) K=match hlk S.env t with|some h=>nZ P S r fun hs=>K (h :: hs)|none=>False:=nr rfl
theorem yK (h:HV):vP [h]=h:=nr rfl
theorem yJ (a b:HV) (r:List HV):vP (a :: b :: r)=.tup (a :: b :: r):=nr rfl
theorem zGw (i:Nat):pos [] i=none:=nr rfl
theorem yF (k:Nat) (r:List Nat) (i:Nat):pos (k :: r) i=if k=i then some 0 else (pos r i).map (· + 1):=nr rfl
theorem zBt (m:Nat→Option Nat) (st:aB) (k:Nat):jV m st k []=[]:=nr rfl
theorem yG (m:Nat→Option Nat) (st:aB) (k id:Nat) (r:List Nat):jV m st k (id :: r)=match rlk st id with|some row=>(k,row.ren m) :: jV m st (k + 1) r|none=>jV m st (k + 1) r:=nr rfl
theorem zJe (x:Value):(FV.v x).old=.v x:=by rw [FV.old]
theorem zE6 (fr:Bool) (xs:List (List FV)):(FV.lst fr xs).old=.lst false (pE xs):=by rw [FV.old];rfl
theorem qMu {p:Prop} (h:p):cM p=True:=eq_true h
theorem qRe:cM True=True:=rfl
theorem ltT {a b:Int} (h:a < b):decide (a < b)=true:=decide_eq_true h
theorem ltF {a b:Int} (h:b≤a):decide (a < b)=false:=decide_eq_false (by omega)
theorem leT {a b:Int} (h:a≤b):decide (a≤b)=true:=decide_eq_true h
theorem leF {a b:Int} (h:b < a):decide (a≤b)=false:=decide_eq_false (by omega)
theorem eqT {a b:Int} (h:a=b):decide (a=b)=true:=decide_eq_true h
theorem eqF {a b:Int} (h:a < b∨b < a):decide (a=b)=false:=decide_eq_false (by omega)
theorem zG4 {α:Type} {l:List α} {i:Nat} {d:α} (h:i < l.length):l.getD i d=l[i]:=gG h
theorem iG {α β:Type} {f:α→β} {l:List α} {i:Nat} {d:β} (h:i < l.length):(l.map f).getD i d=f (l[i]):=by rw [zG4 (by simpa using h),List.getElem_map]
theorem qMh:(default:FV)=.v (.bool false):=rfl
theorem qNf {x:Int} (h1:-9223372036854775808≤x) (h2:x≤9223372036854775807):IntKind.i64.wrap x=x:=zHl ⟨by unfold zH5;exact h1,by unfold zJa;exact h2⟩
theorem zGc {P:Program} {N:Nat} {x:Code} {Q:gQ} {S:HS} (k:Nat) {fr:Bool} {xs:List (List FV)} (hk:hlk S.env k=some (.lst fr xs)) (h:xs.length≤9223372036854775807→HW P N x Q S):HW P N x Q S:=fun c l w I=>by
 refine h ?_ c l w I;obtain ⟨ρ,ys,G⟩:=I;obtain ⟨v,-,h2⟩:=G.env k _ hk
 have h3:=qTx h2
 cases h3 with
|lst sz vals hn hc hm hnil hsz ha h1 hr=>simp only [maxLen] at hm;omega
theorem qHp (n:Nat):((n:Int) + 1).toNat=n + 1:=by omega
theorem qNs (n m:Nat):((n:Int) + (m:Int)).toNat=n + m:=by omega
theorem wP {α:Type} {f:α→List FV} {sz:Nat} (l:List α) (h:∀ a,(f a).length=sz):Wid sz (l.map f):=fun x hx=>by
 obtain ⟨a,-,rfl⟩:=List.mem_map.1 hx;exact h a
end Go.Eng
end

section
namespace Go.Eng
open Go Go.RowKit
def tW (s:ByteArray):List FV:=[.v (.string s)]
def aD (a:List ByteArray):List (List FV):=a.map tW
def qSn (n:Int):List FV:=[.v (.int .i64 n)]
def gR (a:List Int):List (List FV):=a.map qSn
def zEs (r:Int × Int):List FV:=[.v (.int .i64 r.1),.v (.int .i64 r.2)]
def lW (a:List (Int × Int)):List (List FV):=a.map zEs
theorem aA (a:List ByteArray):(aD a).length=a.length:=by simp [aD]
theorem dJ (a:List Int):(gR a).length=a.length:=by simp [gR]
theorem nN (a:List (Int × Int)):(lW a).length=a.length:=by simp [lW]
theorem bE (a:List ByteArray):Wid 1 (aD a)=True:=eq_true (wP a fun _=>rfl)
theorem eU (a:List Int):Wid 1 (gR a)=True:=eq_true (wP a fun _=>rfl)
theorem pV (a:List (Int × Int)):Wid 2 (lW a)=True:=eq_true (wP a fun _=>rfl)
theorem fT {a:List ByteArray} {i:Nat} {d:List FV} (h:i < a.length):(aD a).getD i d=[.v (.string a[i])]:=by unfold aD;rw [iG h];rfl
theorem fP {a:List Int} {i:Nat} {d:List FV} (h:i < a.length):(gR a).getD i d=[.v (.int .i64 a[i])]:=by unfold gR;rw [iG h];rfl
theorem qE1 {a:List (Int × Int)} {i:Nat} {d:List FV} (h:i < a.length):(lW a).getD i d=[.v (.int .i64 a[i].1),.v (.int .i64 a[i].2)]:=by unfold lW;rw [iG h];rfl
theorem aQ (a:List ByteArray):pE (aD a)=aD a:=by
 unfold pE aD;rw [List.map_map];apply List.map_congr_left;intro s _;simp [tW,FV.old]
theorem zEr (a:List Int):pE (gR a)=gR a:=by
 unfold pE gR;rw [List.map_map];apply List.map_congr_left;intro s _;simp [qSn,FV.old]
theorem jS (a:List ByteArray):∀ x ∈ aD a,∀ f ∈ x,FreshF f:=fun x hx f hf=>by
 obtain ⟨s,-,rfl⟩:=List.mem_map.1 hx;simp [tW] at hf;subst hf;exact .v _
theorem xH (a:List Int):∀ x ∈ gR a,∀ f ∈ x,FreshF f:=fun x hx f hf=>by
 obtain ⟨s,-,rfl⟩:=List.mem_map.1 hx;simp [qSn] at hf;subst hf;exact .v _
theorem qF9 (a:List (Int × Int)):∀ x ∈ lW a,∀ f ∈ x,FreshF f:=fun x hx f hf=>by
 obtain ⟨s,-,rfl⟩:=List.mem_map.1 hx;simp [zEs] at hf;rcases hf with rfl|rfl <;> exact .v _
theorem mZ (a:List ByteArray) (s:ByteArray):aD a ++ [[.v (.string s)]]=aD (a ++ [s]):=by simp [aD,tW]
theorem vF (a:List Int) (s:Int):gR a ++ [[.v (.int .i64 s)]]=gR (a ++ [s]):=by simp [gR,qSn]
theorem qKe (a:List (Int × Int)) (x y:Int):lW a ++ [[.v (.int .i64 x),.v (.int .i64 y)]]=lW (a ++ [(x,y)]):=by simp [lW,zEs]
theorem zC7 (a b:List ByteArray):aD a ++ aD b=aD (a ++ b):=by simp [aD]
theorem fU (a:List ByteArray) (n:Nat):(aD a).take n=aD (a.take n):=by simp [aD,List.map_take]
theorem fV (a:List ByteArray) (n:Nat):(aD a).drop n=aD (a.drop n):=by simp [aD,List.map_drop]
theorem zJj {P:Program} {N:Nat} {x:Code} {Q:gQ} {S:HS} (k id ty sz:Nat) (hk:hlk S.env k=some (.v (.slice none 0 0))) (h:HW P N x Q (((S.kill (only id)).row id (.sl true ty sz [])).rep k (.own id))):HW P N x Q S:=fun c l w I=>by
 refine h c l w ?_;obtain ⟨ρ,xs,G⟩:=I
 have G2:=G.new id (.sl true ty sz []) [] (.slice none 0 0) (w':=w) (Below.refl _ _) (fun b hb=>by cases hb) (fun _ _ =>
  ⟨by rw [aF];exact World.ownsRow_nil w 0 ty sz,⟨by simp,fun i k hi=>absurd hi (by simp)⟩,fun b hb=>by rw [aF] at hb;cases hb⟩)
 refine ⟨_,_,G2.rows,G2.apart,fun j y hj=>?_,G2.kept,G2.a0⟩
 simp only [HS.rep,qKs] at hj
 by_cases e:j=k
 ·subst e;rw [if_pos rfl] at hj
  have h1:hlk ((S.kill (only id)).row id (.sl true ty sz [])).env j=some (.v (.slice none 0 0)):=by
   show hlk (kL (only id) S.env) j=_
   rw [lY,hk];simp [HV.kill]
  rw [h1] at hj;simp only [Option.map_some,Option.some.injEq] at hj;subst hj;obtain ⟨v,a,b⟩:=G2.env j _ h1
  have:=cW b
  subst this;refine ⟨_,a,?_⟩
  have:=RepH.own (w:=w) (A:=c.A (iB ρ id (.slice none 0 0)) (((S.kill (only id)).row id (.sl true ty sz [])).rep j (.own id)).st) (n0:=c.n0) (ρ:=iB ρ id (.slice none 0 0)) id (by rw [aF];rfl)
  rw [aF] at this;exact this
 ·rw [if_neg e] at hj;exact G2.env j y hj
theorem qD1 {P:Program} {f:FuncId} {args:List HV} {x:Value} (h:∀ (w:World) (vs:List Value),sP w (fun _=>False) w.heap.size (fun _=>undef) vs args→Calls P f vs.toArray w (Ret fun r w'=>r=x∧Below w.heap.size w w')):HFun P f args (fun h st=>h=.v x∧st=[]):=fun w vs R =>
 Ret.mono (h w vs R) fun v w' ⟨hv,B⟩=>⟨B,.v x,[],fun i r hi=>by simp [rlk] at hi,⟨rfl,rfl⟩,fun _=>undef,fun _=>[],⟨fun id r hr=>by simp [rlk] at hr,fun i j r s b hne hi=>by simp [rlk] at hi,fun k x hk=>by simp [hlk] at hk,⟨B.os,B.tape,B.output,B.size,fun b hlt _=>B.block b hlt⟩,fun b hb=>⟨hb,fun h=>h⟩⟩,by rw [hv];exact .v x⟩
theorem dF {st:aB} {fr:Bool} {xs ys:List (List FV)} (h:pE xs=ys):Lend st (.lst fr xs) (.lst false ys):=h ▸ .lst fr xs
theorem zEf {st:aB} {id ty sz:Nat} {nw:Bool} {els ys:List (List FV)} (h:pE els=ys) (hr:rlk st id=some (.sl nw ty sz els)):Lend st (.own id) (.lst false ys):=h ▸ .own hr
section
variable {S:HS} {Q:HV→aB→Prop}
theorem jK {a:Value} (q:Q (.v a) []):qNe S (.v a) Q:=⟨[],by simp,rfl,.v _,fun id h=>by simp at h,by rw [HV.ren];exact q⟩
theorem tD {a b:Value} (q:Q (.tup [.v a,.v b]) []):qNe S (.tup [.v a,.v b]) Q :=
 ⟨[],by simp,rfl,.tup fun x hx=>by simp at hx;rcases hx with rfl|rfl <;> exact .v _,fun id h=>by simp at h,by rw [HV.ren];simp only [List.map_cons,List.map_nil,HV.ren];exact q⟩
theorem qU0 {a b c:Value} (q:Q (.tup [.v a,.v b,.v c]) []):qNe S (.tup [.v a,.v b,.v c]) Q :=
 ⟨[],by simp,rfl,.tup fun x hx=>by simp at hx;rcases hx with rfl|rfl|rfl <;> exact .v _,fun id h=>by simp at h,by rw [HV.ren];simp only [List.map_cons,List.map_nil,HV.ren];exact q⟩
theorem xK {id ty sz:Nat} {els:List (List FV)} (hr:rlk S.st id=some (.sl true ty sz els)) (hf:∀ x ∈ els,∀ f ∈ x,FreshF f) (q:Q (.own 0) [(0,.sl true ty sz els)]):qNe S (.own id) Q :=
 ⟨[id],by simp,by simp [dup],.own _,fun i h r hr'=>by
  simp at h;subst h;rw [hr] at hr';simp only [Option.some.injEq] at hr';subst hr';exact ⟨rfl,hf⟩,by
  rw [HV.ren];simp only [pos,if_true,jV,hr,Row.ren];exact q⟩
theorem xJ {id ty sz:Nat} {els:List (List FV)} {b:Value} (hr:rlk S.st id=some (.sl true ty sz els)) (hf:∀ x ∈ els,∀ f ∈ x,FreshF f) (q:Q (.tup [.own 0,.v b]) [(0,.sl true ty sz els)]):qNe S (.tup [.own id,.v b]) Q :=
 ⟨[id],by simp,by simp [dup],.tup fun x hx=>by simp at hx;rcases hx with rfl|rfl <;> first|exact .v _|exact .own _,fun i h r hr'=>by
  simp at h;subst h;rw [hr] at hr';simp only [Option.some.injEq] at hr';subst hr';exact ⟨rfl,hf⟩,by
  rw [HV.ren];simp only [List.map_cons,List.map_nil,HV.ren,pos,if_true,jV,hr,Row.ren];exact q⟩
end
theorem qY9 {P:Program} {w w':World} {ty sz:Nat} {els:List (List FV)} {v:Value} {l:List Value} (B:Below w.heap.size w w') (h:Own w' w.heap.size ty sz v els.length l) (hw:∀ x ∈ els,x.length=sz)
  (hl:∀ i k (hi:i < els.length) (hk:k < els[i].length),∃ u,l[i * sz + k]?=some u∧u.oneCell'=true∧els[i][k]=.v u) :
  ∃ ρ xs,Good (cx w (fun _=>False) (fun b=>b < w.heap.size)) ⟨[],[(0,.sl true ty sz els)]⟩ (fun _=>none) w' ρ xs∧ρ 0=v:=by
 refine ⟨fun _=>v,fun _=>l,⟨fun id r hr=>?_,fun i j r s b hne hi hj=>?_,fun k x hk=>by simp [hlk] at hk,⟨B.os,B.tape,B.output,B.size,fun b hlt _=>B.block b hlt⟩,fun b hb=>⟨hb,fun h=>h⟩⟩,rfl⟩
 ·simp only [rlk] at hr;split at hr
  ·simp only [Option.some.injEq] at hr;subst hr;refine ⟨⟨h.1,h.2.imp _root_.id fun ⟨g,cap,cur,a,b,d⟩=>⟨g,cap,cur,a,Nat.zero_le _,d⟩⟩,⟨hw,fun i k hi hk=>?_⟩,fun b hb=>⟨.inl (h.lt b hb).1,fun _=>(h.lt b hb).1⟩⟩
   obtain ⟨u,a,b,e⟩:=hl i k hi hk;exact ⟨u,a,b,by rw [e];exact .v u⟩
  ·cases hr
 ·simp only [rlk] at hi hj;split at hi
  ·split at hj
   ·omega
   ·cases hj
  ·cases hi
end Go.Eng
end

section
namespace Go.Eng
open Go Go.RowKit
theorem qUd (j:Nat):qEx [] j=none:=nr rfl
theorem qPj (k:Nat) (r:List Nat) (j:Nat):qEx (k :: r) j=if j=0 then some k else qEx r (j - 1):=by cases j <;> simp [qEx]
theorem zDa (ids:List Nat) (n j:Nat):sh2 ids n j=match qEx ids j with|some i=>some i|none=>bif decide (j < 8) then some (n + j) else none:=by
 unfold sh2;split <;> rename_i h <;> rw [h];congr 1;rw [Bool.eq_iff_iff];simp [Nat.blt_eq]
theorem qZr (i:Nat):inL [] i=false:=nr rfl
theorem qUt (k:Nat) (r:List Nat) (i:Nat):inL (k :: r) i=(k == i || inL r i):=nr rfl
theorem qPx:qX8 none=true:=nr rfl
theorem qZm (nw:Bool) (t s:Nat) (xs:List (List FV)):qX8 (some (.sl nw t s xs))=true:=nr rfl
theorem qZo (nw:Bool) (t:Nat) (cs:List HV):qX8 (some (.bx nw t cs))=false:=nr rfl
theorem qZn (nw:Bool) (t s:Nat) (xs:List (List HV)):qX8 (some (.hl nw t s xs))=true:=nr rfl
theorem qZq (nw:Bool) (t s:Nat) (xs:List (List HV)):xG (some (.hl nw t s xs))=False:=nr rfl
theorem qPy:xG none=False:=nr rfl
theorem qZp (nw:Bool) (t s:Nat) (xs:List (List FV)):xG (some (.sl nw t s xs))=False:=nr rfl
theorem zEp (t:Nat) (cs:List HV):xG (some (.bx true t cs))=False:=nr rfl
theorem zEq (t:Nat) (cs:List HV):xG (some (.bx false t cs))=True:=nr rfl
theorem qNr (ids:List Nat) (st:aB) (n i:Nat):qA ids st n i=(eG n i || (inL ids i && qX8 (rlk st i))):=nr rfl
theorem zAf (ids:List Nat) (n i:Nat):qD9 ids n i=(eG n i || inL ids i):=nr rfl
theorem qPi (ids:List Nat) (st:aB) (j:Nat):kQ ids st j=match qEx ids j with|some i=>rlk st i|none=>none:=nr rfl
theorem zAn (nw:Bool) (t s:Nat) (xs:List (List FV)):(Row.sl nw t s xs).dark=.sl nw t s xs:=nr rfl
theorem zAp (nw:Bool) (t:Nat) (cs:List HV):(Row.bx nw t cs).dark=.bx false t cs:=nr rfl
theorem zAo (nw:Bool) (t s:Nat) (xs:List (List HV)):(Row.hl nw t s xs).dark=.hl nw t s xs:=nr rfl
theorem zAi (o:Option Row) (nw:Bool) (t s:Nat) (xs:List (List HV)):(Row.hl nw t s xs).flag o=.hl nw t s xs:=by
 cases o with
|none=>rfl
|some o=>cases o <;> rfl
theorem qWb (r:Row) (nw:Bool) (t s:Nat) (xs:List (List HV)):r.flag (some (.hl nw t s xs))=r:=by cases r <;> rfl
theorem qRb (r:Row):r.flag none=r:=nr rfl
theorem zAh (o:Option Row) (nw:Bool) (t s:Nat) (xs:List (List FV)):(Row.sl nw t s xs).flag o=.sl nw t s xs:=by
 cases o with
|none=>rfl
|some o=>cases o <;> rfl
theorem zAj (nw n2:Bool) (t t2:Nat) (cs c2:List HV):(Row.bx n2 t2 c2).flag (some (.bx nw t cs))=.bx nw t2 c2:=nr rfl
theorem qWa (r:Row) (nw:Bool) (t s:Nat) (xs:List (List FV)):r.flag (some (.sl nw t s xs))=r:=by cases r <;> rfl
theorem qRd (m:Nat→Option Nat) (st:aB) (k:Nat):sD m st k []=[]:=nr rfl
theorem qMr (m:Nat→Option Nat) (st:aB) (k id:Nat) (r:List Nat):sD m st k (id :: r)=match rlk st id with|some row=>(k,(row.ren m).dark) :: sD m st (k + 1) r|none=>sD m st (k + 1) r:=nr rfl
theorem qYz (S0:aB) (ids:List Nat) (n:Nat) (b:aB):swp S0 ids n [] b=b:=nr rfl
theorem qTg (S0:aB) (ids:List Nat) (n j:Nat) (r:Row) (t b:aB):swp S0 ids n ((j,r) :: t) b=((sh2 ids n j).getD 0,(r.ren (sh2 ids n)).flag (kQ ids S0 j)) :: swp S0 ids n t b:=nr rfl
theorem qY0 (e:aN) (s:aB) (ids:List Nat) (n:Nat) (st:aB):HS.swap ⟨e,s⟩ ids n st=⟨kL (qA ids s n) e,swp s ids n st (qN (qD9 ids n) (qA ids s n) s)⟩:=nr rfl
theorem qH4 (g p:Nat→Bool):qN g p []=[]:=nr rfl
theorem qFr (g p:Nat→Bool) (k:Nat) (h:Row) (r:aB):qN g p ((k,h) :: r)=bif g k then qN g p r else (k,h.kill p) :: qN g p r:=nr rfl
theorem zCs (st:aB) (k:Nat):qM3 st k []=True:=nr rfl
theorem yL (st:aB) (k id:Nat) (r:List Nat):qM3 st k (id :: r)=((xG (rlk st id)→k=id)∧qM3 st (k + 1) r):=nr rfl
theorem zB6 (ids:List Nat) (st:aB):tC ids st []=True:=nr rfl
theorem zEl (ids:List Nat) (st:aB) (j:Nat) (nw:Bool) (t s:Nat) (xs:List (List FV)) (r:aB):tC ids st ((j,.sl nw t s xs) :: r)=tC ids st r:=nr rfl
theorem zEm (ids:List Nat) (st:aB) (j:Nat) (nw:Bool) (t s:Nat) (xs:List (List HV)) (r:aB):tC ids st ((j,.hl nw t s xs) :: r)=tC ids st r:=nr rfl
theorem zEn (ids:List Nat) (st:aB) (j:Nat) (t:Nat) (cs:List HV) (r:aB):tC ids st ((j,.bx true t cs) :: r)=tC ids st r:=nr rfl
theorem zEo (ids:List Nat) (st:aB) (j:Nat) (t:Nat) (cs:List HV) (r:aB):tC ids st ((j,.bx false t cs) :: r)=((qEx ids j=some j∧xG (rlk st j))∧tC ids st r):=by
 rw [pF];rfl
theorem bL (P:Program) (rs:List ResultVar) (st0:aB) (Q:HV→aB→Prop) (S:HS):qYa P rs st0 Q .normal S=nZ P S rs fun hs=>qNd st0 S (vP hs) Q:=rfl
theorem cS (P:Program) (rs:List ResultVar) (st0:aB) (Q:HV→aB→Prop) (S:HS):qYa P rs st0 Q .ret S=nZ P S rs fun hs=>qNd st0 S (vP hs) Q:=rfl
theorem kK (ids:List Nat) {st0:aB} {S:HS} {h:HV} {Q:HV→aB→Prop} (h1:ids.length≤8) (h2:dup ids=false) (h3:qM3 S.st 0 ids) (h4:tC ids S.st st0) {h':HV} {st':aB} (h5:h.ren (pos ids)=h') (h6:jV (pos ids) S.st 0 ids=st') (q:Q h' st'):qNd st0 S h Q :=
 ⟨ids,h1,h2,h3,h4,by rw [h5,h6];exact q⟩
theorem eJ:vP []=.tup []:=nr rfl
section
variable {P:Program} {N:Nat} {x:Code} {Q:gQ} {S S':HS}
theorem zA3 (id k nid ty sz:Nat) {nw:Bool} {bt:Nat} {cells:List HV} (hne:id≠nid) (hr:rlk S.st id=some (.bx nw bt cells)) (hk:cells[k]?=some (.v (.slice none 0 0)))
  (hs:(⟨kL (only nid) S.env,(nid,.sl true ty sz []) :: iX id (.bx nw bt ((cells.map (HV.kill (only nid))).set k (.own nid))) (fM (only nid) S.st)⟩:HS)=S') (h:HW P N x Q S'):HW P N x Q S:=fun c l w I=>by
 subst hs;refine h c l w ?_;obtain ⟨ρ,xs,G⟩:=I
 have G2:=G.new nid (.sl true ty sz []) [] (.slice none 0 0) (w':=w) (Below.refl _ _) (fun b hb=>by cases hb) (fun _ _ =>
  ⟨by rw [aF];exact World.ownsRow_nil w 0 ty sz,⟨by simp,fun i k hi=>absurd hi (by simp)⟩,fun b hb=>by rw [aF] at hb;cases hb⟩)
 have hr2:rlk (fM (only nid) S.st) id=some (.bx nw bt (cells.map (HV.kill (only nid)))):=by rw [gV,xC hne,cond_false,hr];rfl
 have hl:∀ i,rlk ((nid,Row.sl true ty sz []) :: iX id (.bx nw bt ((cells.map (HV.kill (only nid))).set k (.own nid))) (fM (only nid) S.st)) i =
   if i=id then some (.bx nw bt ((cells.map (HV.kill (only nid))).set k (.own nid))) else rlk ((nid,Row.sl true ty sz []) :: fM (only nid) S.st) i:=fun i=>by
  simp only [rlk]
  by_cases e:nid=i
  ·rw [if_pos e,if_neg (by omega),if_pos e]
  ·rw [if_neg e,jD id _ _ _ hr2]
   by_cases e2:i=id
   ·rw [if_pos e2,if_pos e2]
   ·rw [if_neg e2,if_neg e2,if_neg e]
 have hid:rlk ((nid,Row.sl true ty sz []) :: fM (only nid) S.st) id=some (.bx nw bt (cells.map (HV.kill (only nid)))):=by simp only [rlk];rw [if_neg (by omega)];exact hr2
 have hA:∀ b,c.A (iB ρ nid (.slice none 0 0)) ((nid,Row.sl true ty sz []) :: iX id (.bx nw bt ((cells.map (HV.kill (only nid))).set k (.own nid))) (fM (only nid) S.st)) b→c.A (iB ρ nid (.slice none 0 0)) ((nid,Row.sl true ty sz []) :: fM (only nid) S.st) b:=by
  rintro b (h0|⟨i,s,hi,hb⟩)
  ·exact .inl h0
  ·right
   rw [hl] at hi
   by_cases e:i=id
   ·subst e;exact ⟨_,_,hid,hb⟩
   ·rw [if_neg e] at hi;exact ⟨i,s,hi,hb⟩
 refine ⟨iB ρ nid (.slice none 0 0),fun i=>if i=nid then [] else xs i,⟨fun i r hi=>?_,fun i j r s b hne hi hj hbi hbj=>?_,fun j y hj=>?_,G2.kept,G2.a0⟩⟩
 ·rw [hl] at hi
  by_cases e:i=id
  ·subst e;rw [if_pos rfl] at hi;simp only [Option.some.injEq] at hi;subst hi
   have R:=G2.rows i _ hid
   refine ⟨by simpa [Row.ty,Row.sz,Row.len] using R.own,⟨R.rep.1,fun q hq=>?_⟩,R.new⟩
   have hq':q < (cells.map (HV.kill (only nid))).length:=by simpa using hq
   obtain ⟨u,u1,u2,u3⟩:=R.rep.2 q hq'
   by_cases eq:k=q
   ·subst eq;refine ⟨u,u1,u2,?_⟩;rw [List.getElem_set_self]
    have hc:cells[k]'(by simpa using hq')=.v (.slice none 0 0):=by
     have:=List.getElem?_eq_some_iff.1 hk
     exact this.2
    rw [List.getElem_map,hc,HV.kill] at u3
    have:=cW u3
    subst this
    have:=RepH.own (w:=w) (A:=c.A (iB ρ nid (.slice none 0 0)) ((nid,Row.sl true ty sz []) :: iX i (.bx nw bt ((cells.map (HV.kill (only nid))).set k (.own nid))) (fM (only nid) S.st))) (n0:=c.n0) (ρ:=iB ρ nid (.slice none 0 0)) nid (by rw [aF];rfl)
    rw [aF] at this;exact this
   ·refine ⟨u,u1,u2,?_⟩;rw [List.getElem_set_ne eq];exact u3.up (Nat.le_refl _) (fun _ _ _=>rfl) (fun b _=>hA b) (Nat.le_refl _)
  ·rw [if_neg e] at hi;exact (G2.rows i r hi).up (Nat.le_refl _) (fun _ _ _=>rfl) (fun b _=>hA b) (fun _ _=>rfl)
 ·have back:∀ i s,rlk ((nid,Row.sl true ty sz []) :: iX id (.bx nw bt ((cells.map (HV.kill (only nid))).set k (.own nid))) (fM (only nid) S.st)) i=some s→∃ s0,rlk ((nid,Row.sl true ty sz []) :: fM (only nid) S.st) i=some s0:=by
   intro i s hi;rw [hl] at hi
   by_cases e:i=id
   ·subst e;exact ⟨_,hid⟩
   ·rw [if_neg e] at hi;exact ⟨s,hi⟩
  obtain ⟨r0,h1⟩:=back i r hi;obtain ⟨s0,h2⟩:=back j s hj;exact G2.apart i j r0 s0 b hne h1 h2 hbi hbj
 ·obtain ⟨v,h1,h2⟩:=G2.env j y hj;exact ⟨v,h1,h2.up (Nat.le_refl _) (fun _ _ _=>rfl) (fun b _=>hA b) (Nat.le_refl _)⟩
end
section
variable {P:Program} {N:Nat} {x:Code} {Q:gQ} {S:HS} {id:Nat} {R:HS→Prop}
end
end Go.Eng
end

section
namespace Go.Eng
open Go Go.RowKit
section
variable {P:Program} {N:Nat} {x:Code} {Q:gQ} {S:HS} {R:HS→Prop}
end
theorem qB0 {P:Program} {N:Nat} {x:Code} {Q:gQ} {S S':HS} (k id ty sz:Nat) (hk:hlk S.env k=some (.v (.slice none 0 0))) (hs:((S.kill (only id)).row id (.sl true ty sz [])).rep k (.own id)=S') (h:HW P N x Q S'):HW P N x Q S:=zJj k id ty sz hk (hs ▸ h)
end Go.Eng
end

section
namespace Go.Eng
open Go Go.RowKit
theorem qBz {P:Program} {N:Nat} {ds:List (Option Nat)} {K:Env→World→Prop}:∀ {ops more:List Oper} {l:Env} {w:World},VC P N ds (fun l w=>VC P N ds K more l w) ops l w→VC P N ds K (ops ++ more) l w
|[],more,l,w,h=>by rw [VC] at h;exact h
|o :: rest,more,l,w,h=>by
  rw [List.cons_append];rw [VC] at h ⊢;obtain ⟨b,hb,hd,h⟩:=qMg h
  have conv:∀ {k:Bool→Prop},k b→gd l ds o.guard k:=by
   intro k hkb;unfold gd at hb ⊢;split
   ·rename_i hg;rw [hg] at hb;dsimp only at hb;rw [hb];exact hkb
   ·rename_i j want hg;rw [hg] at hb;dsimp only at hb;split
    ·rename_i d hd';rw [hd'] at hb;dsimp only at hb;split
     ·rename_i b' hb';rw [hb'] at hb;dsimp only at hb;rw [hb];exact hkb
     ·rename_i v hv hb';rw [hb'] at hb
      cases v <;> dsimp only at hb <;> first|(exact (hv _ rfl).elim)|(rw [hb];exact hkb)
     ·rename_i hb';rw [hb'] at hb;exact hb.elim
    ·rename_i hn;split at hb
     ·rename_i d hd';exact (hn d hd').elim
     ·exact hb.elim
  refine conv ⟨hd,?_⟩
  cases b with
 |true=>exact bW h fun v w' hv=>qBz hv
 |false=>exact qBz h
section
variable {P:Program} {N:Nat} {ds:List (Option Nat)} {K:HS→Prop} {S:HS} {Q:gQ}
def qYr (P:Program) (N:Nat) (ds:List (Option Nat)) (K:HS→Prop) (ops:List Oper) (S:HS):Prop :=
 ∀ (c:Ctx) (l:Env) (w:World),Inv c S (lk l) w→VC P N ds (fun l w=>∃ S',Inv c S' (lk l) w∧K S') ops l w
theorem qW5 {ops:List Oper} (h:HV2 P N ds K ops S):qYr P N ds K ops S:=fun c l w I=>xS (c:=c) ops S l w h I
theorem qW6 {ops:List Oper} (n:Nat) (ks ids:List Nat) (h:HV2 P N ds (fun S'=>mW (qYr P N ds K (ops.drop n)) (S'.keep ks ids)) (ops.take n) S):qYr P N ds K ops S:=fun c l w I=>by
 have:=xS (c:=c) (ops.take n) S l w h I
 rw [← List.take_append_drop n ops];exact qBz (zJ.V.mono this fun l' w' ⟨S',I',q⟩=>(show qYr P N ds K (ops.drop n) (S'.keep ks ids) from q) c l' w' (I'.keep ks ids))
theorem zA2 {id:Nat} {ops:List Oper} (h:∀ K:HS→Prop,(∀ S',Q .normal S'→K S')→qYr P N (eH ops) K ops S):HW P N (.region id ops.toArray false) Q S:=fun c l w I =>
 qM9 fun K hK=>by
  have:=h (Q .normal) (fun _ h=>h) c l w I
  exact (zJ.V.mono this fun l' w' h=>hK l' w' h)
end
end Go.Eng
end

section
namespace Go.Eng
open Go Go.RowKit
def nm (a b:Nat):Nat→Option Nat:=fun i=>if i=a then some b else if i=b then none else some i
def qWg (m:Nat→Option Nat):aN→aN
|[]=>[]
|(k,h) :: r=>(k,h.ren m) :: qWg m r
def qR1 (a b:Nat):aB→aB
|[]=>[]
|(k,r) :: t=>(if k=a then b else k,r.ren (nm a b)) :: qR1 a b t
def HS.name (S:HS) (a b:Nat):HS:=⟨qWg (nm a b) S.env,qR1 a b S.st⟩
theorem qU8 (m:Nat→Option Nat):∀ (l:aN) (k:Nat),hlk (qWg m l) k=(hlk l k).map (HV.ren m)
|[],k=>rfl
|(j,h) :: r,k=>by
  simp only [qWg,hlk];split
  ·rfl
  ·exact qU8 m r k
theorem qTv {a b:Nat} (hab:a≠b):∀ (l:aB) (_:rlk l b=none) (k:Nat),rlk (qR1 a b l) k=if k=b then (rlk l a).map (Row.ren (nm a b)) else if k=a then none else (rlk l k).map (Row.ren (nm a b))
|[],_,k=>by simp [qR1,rlk]
|(j,r) :: t,h,k=>by
  simp only [rlk] at h
  by_cases hj:j=b
  ·rw [if_pos hj] at h;cases h
  ·rw [if_neg hj] at h
   have ih:=qTv hab t h k
   simp only [qR1,rlk]
   by_cases e:j=a
   ·subst e;rw [if_pos rfl,if_pos rfl]
    by_cases e2:k=b
    ·subst e2;rw [if_pos rfl,if_pos rfl];rfl
    ·rw [if_neg (by omega),ih,if_neg e2,if_neg e2]
     by_cases e3:k=j
     ·rw [if_pos e3,if_pos e3]
     ·rw [if_neg e3,if_neg e3,if_neg (by omega)]
   ·rw [if_neg e,if_neg e]
    by_cases e2:j=k
    ·subst e2;rw [if_pos rfl,if_neg hj,if_neg e,if_pos rfl];rfl
    ·rw [if_neg e2,ih,if_neg e2]
section
variable {P:Program} {N:Nat} {x:Code} {Q:gQ} {c:Ctx} {S S':HS} {look:Nat→Option Value} {w:World}
theorem Inv.name (I:Inv c S look w) {a b ty sz:Nat} {nw:Bool} {els:List (List FV)} (hab:a≠b) (hb:rlk S.st b=none) (ha:rlk S.st a=some (.sl nw ty sz els)):Inv c (S.name a b) look w:=by
 obtain ⟨ρ,xs,G⟩:=I
 let ρ':Nat→Value:=fun i=>if i=b then ρ a else ρ i
 let xs':Nat→List Value:=fun i=>if i=b then xs a else xs i
 have hm:∀ i j,nm a b i=some j→ρ' j=ρ i:=fun i j h=>by
  unfold nm at h
  by_cases e:i=a
  ·rw [if_pos e] at h;simp only [Option.some.injEq] at h;subst h;subst e;show (if b=b then _ else _)=_;rw [if_pos rfl]
  ·rw [if_neg e] at h
   by_cases e2:i=b
   ·rw [if_pos e2] at h;cases h
   ·rw [if_neg e2] at h;simp only [Option.some.injEq] at h;subst h;show (if i=b then _ else _)=_;rw [if_neg e2]
 have back:∀ i r,rlk (S.name a b).st i=some r→∃ j r0,nm a b j=some i∧rlk S.st j=some r0∧r=r0.ren (nm a b)∧xs' i=xs j:=by
  intro i r hi;simp only [HS.name,qTv hab _ hb] at hi
  by_cases e:i=b
  ·subst e;rw [if_pos rfl,ha] at hi;simp only [Option.map_some,Option.some.injEq] at hi;exact ⟨a,_,by simp [nm],ha,hi.symm,by show (if i=i then _ else _)=_;rw [if_pos rfl]⟩
  ·rw [if_neg e] at hi
   by_cases e2:i=a
   ·rw [if_pos e2] at hi;cases hi
   ·rw [if_neg e2] at hi
    cases hs:rlk S.st i with
   |none=>rw [hs] at hi;cases hi
   |some r0 =>
     rw [hs] at hi;simp only [Option.map_some,Option.some.injEq] at hi;exact ⟨i,r0,by simp [nm,e,e2],hs,hi.symm,by show (if i=b then _ else _)=_;rw [if_neg e]⟩
 have hA:∀ g,c.A ρ' (S.name a b).st g→c.A ρ S.st g:=by
  rintro g (h0|⟨i,r,hi,hg⟩)
  ·exact .inl h0
  ·obtain ⟨j,r0,h1,h2,-,-⟩:=back i r hi;rw [hm j i h1] at hg;exact .inr ⟨j,r0,h2,hg⟩
 have tr:∀ v y,RepH w (c.A ρ S.st) c.n0 ρ v y→RepH w (c.A ρ' (S.name a b).st) c.n0 ρ' v (y.ren (nm a b)):=fun v y h=>(h.up (Nat.le_refl _) (fun _ _ _=>rfl) (fun b _=>hA b) (Nat.le_refl _)).ren hm
 refine ⟨ρ',xs',fun i r hi=>?_,fun i j r s g hne hi hj hgi hgj=>?_,fun k y hk=>?_,G.kept,G.a0⟩
 ·obtain ⟨j,r0,h1,h2,rfl,h4⟩:=back i r hi
  have R:=G.rows j r0 h2
  obtain ⟨f1,f2,f3,f4⟩:=Row.ren_facts (nm a b) r0;rw [h4];refine ⟨by rw [f1,f2,f3,hm j i h1];exact R.own,?_,fun g hg=>by rw [f4];rw [hm j i h1] at hg;exact R.new g hg⟩
  have rp:=R.rep
  cases r0 with
 |sl nw ty sz els =>
   refine ⟨rp.1,fun p k hp hk=>?_⟩
   obtain ⟨u,u1,u2,u3⟩:=rp.2 p k hp hk;exact ⟨u,u1,u2,u3.up (Nat.le_refl _) (fun _ _ _=>rfl) (fun b _=>hA b) (Nat.le_refl _)⟩
 |bx nw ty cells =>
   refine ⟨?_,fun k hk=>?_⟩
   ·have hji:j=i:=by
     unfold nm at h1
     by_cases e:j=a
     ·subst e;rw [ha] at h2;cases h2
     ·rw [if_neg e] at h1
      by_cases e2:j=b
      ·rw [if_pos e2] at h1;cases h1
      ·rw [if_neg e2] at h1;exact Option.some.inj h1
    rw [hm j i h1];rw [← hji];exact rp.1
   ·rw [List.length_map] at hk;obtain ⟨u,u1,u2,u3⟩:=rp.2 k hk;refine ⟨u,u1,u2,?_⟩;rw [List.getElem_map];exact tr _ _ u3
 |hl nw ty sz els =>
   refine ⟨fun y hy=>?_,fun p k hp hk=>?_⟩
   ·obtain ⟨z,hz,rfl⟩:=List.mem_map.1 hy;rw [List.length_map];exact rp.1 z hz
   ·simp only [List.length_map] at hp;simp only [List.getElem_map,List.length_map] at hk ⊢;obtain ⟨u,u1,u2,u3⟩:=rp.2 p k hp hk;exact ⟨u,u1,u2,tr _ _ u3⟩
 ·obtain ⟨i',r0,h1,h2,-,-⟩:=back i r hi;obtain ⟨j',s0,h3,h4,-,-⟩:=back j s hj;rw [hm i' i h1] at hgi;rw [hm j' j h3] at hgj;exact G.apart i' j' r0 s0 g (fun e=>hne (by subst e;rw [h1] at h3;exact Option.some.inj h3)) h2 h4 hgi hgj
 ·simp only [HS.name,qU8] at hk
  cases hx0:hlk S.env k with
 |none=>rw [hx0] at hk;cases hk
 |some x0 =>
   rw [hx0] at hk;simp only [Option.map_some,Option.some.injEq] at hk;subst hk;obtain ⟨v,h1,h2⟩:=G.env k x0 hx0;exact ⟨v,h1,tr v x0 h2⟩
theorem jB (a b:Nat) {ty sz:Nat} {nw:Bool} {els:List (List FV)} (hab:a≠b) (hb:rlk S.st b=none) (ha:rlk S.st a=some (.sl nw ty sz els)) (hs:S.name a b=S') (h:HW P N x Q S'):HW P N x Q S:=fun c l w I=>h c l w (hs ▸ I.name hab hb ha)
theorem zGd (id:Nat) {ty sz:Nat} {nw:Bool} {els:List (List FV)} (hr:rlk S.st id=some (.sl nw ty sz els)) (hs:(⟨S.env,iX id (.hl nw ty sz (els.map (List.map FV.h))) S.st⟩:HS)=S') (h:HW P N x Q S'):HW P N x Q S:=fun c l w I=>by
 subst hs;refine h c l w ?_;obtain ⟨ρ,xs,G⟩:=I
 have hl:=jD id (.hl nw ty sz (els.map (List.map FV.h))) S.st _ hr
 have hA:∀ b,c.A ρ (iX id (.hl nw ty sz (els.map (List.map FV.h))) S.st) b→c.A ρ S.st b:=by
  rintro b (h0|⟨i,s,hi,hb⟩)
  ·exact .inl h0
  ·rw [hl] at hi
   by_cases e:i=id
   ·subst e;exact .inr ⟨_,_,hr,hb⟩
   ·rw [if_neg e] at hi;exact .inr ⟨i,s,hi,hb⟩
 have back:∀ i r,rlk (iX id (.hl nw ty sz (els.map (List.map FV.h))) S.st) i=some r→∃ r0,rlk S.st i=some r0:=by
  intro i r hi;rw [hl] at hi
  by_cases e:i=id
  ·subst e;exact ⟨_,hr⟩
  ·rw [if_neg e] at hi;exact ⟨r,hi⟩
 refine ⟨ρ,xs,fun i r hi=>?_,fun i j r s b hne hi hj=>?_,fun k y hk=>?_,G.kept,G.a0⟩
 ·dsimp only at hi;rw [hl] at hi
  by_cases e:i=id
  ·subst e;rw [if_pos rfl] at hi;simp only [Option.some.injEq] at hi;subst hi
   have R:=G.rows i _ hr
   refine ⟨by simpa [Row.ty,Row.sz,Row.len] using R.own,⟨fun y hy=>?_,fun p k hp hk=>?_⟩,R.new⟩
   ·obtain ⟨z,hz,rfl⟩:=List.mem_map.1 hy;rw [List.length_map];exact R.rep.1 z hz
   ·simp only [List.length_map] at hp;simp only [List.getElem_map,List.length_map] at hk ⊢;obtain ⟨u,u1,u2,u3⟩:=R.rep.2 p k hp hk;exact ⟨u,u1,u2,(u3.up (Nat.le_refl _) (fun _ _ _=>rfl) (fun b _=>hA b) (Nat.le_refl _)).h⟩
  ·rw [if_neg e] at hi;exact (G.rows i r hi).up (Nat.le_refl _) (fun _ _ _=>rfl) (fun b _=>hA b) (fun _ _=>rfl)
 ·obtain ⟨r0,h1⟩:=back i r hi;obtain ⟨s0,h2⟩:=back j s hj;exact G.apart i j r0 s0 b hne h1 h2
 ·obtain ⟨v,h1,h2⟩:=G.env k y hk;exact ⟨v,h1,h2.up (Nat.le_refl _) (fun _ _ _=>rfl) (fun b _=>hA b) (Nat.le_refl _)⟩
end
theorem fZ (e:aN) (s:aB) (a b:Nat):HS.name ⟨e,s⟩ a b=⟨qWg (nm a b) e,qR1 a b s⟩:=rfl
theorem kW (a b i:Nat):nm a b i=if i=a then some b else if i=b then none else some i:=rfl
theorem eY (m:Nat→Option Nat):qWg m []=[]:=rfl
theorem dW (m:Nat→Option Nat) (k:Nat) (h:HV) (r:aN):qWg m ((k,h) :: r)=(k,h.ren m) :: qWg m r:=rfl
theorem eP (a b:Nat):qR1 a b []=[]:=rfl
theorem dL (a b k:Nat) (r:Row) (t:aB):qR1 a b ((k,r) :: t)=(if k=a then b else k,r.ren (nm a b)) :: qR1 a b t:=rfl
end Go.Eng
end
