/-
  The engine of values: texts Rel, Hr, Hk, Hl, Hlo, He, Enc, Ste, Met, Spl, Nam, laid together.
-/
import Derived.Test.YtlihpgmgiehjkaaGreatDoorEng
import Derived.Test.YtlihpgmgiehjkaaGreatDoorGb
set_option linter.unusedSimpArgs false
set_option linter.unusedVariables false
section
namespace Go.Eng
open Go Go.RowKit
section
variable {P:Program} {N:Nat} {C:World→Prop} {ops:List Oper} {n:Nat} {l:Env} {R:Nat→Value→World→Prop}
def cM (l:Env) (ops:List Oper) (vs:Nat→Value):Nat→Env
|0=>l
|i + 1=>stp (aQ ops i) (vs i) (cM l ops vs i)
def DLt (N:Nat) (ops:List Oper) (n:Nat):Prop:=∀ i t,i < n→aQ ops i=some t→t < N
variable {vs:Nat→Value}
theorem oZ (hl:DLt N ops n) (hk:bX N l=true):∀ i,i≤n→bX N (cM l ops vs i)=true
|0,_=>hk
|i + 1,hi=>fP (oZ hl hk i (by omega)) (fun k e=>hl i k (by omega) e)
theorem fQ (base:Array Value) (t:Nat):∀ i,(∀ j,j < i→aQ ops j≠some t) →
  lk (cM l ops vs i) t=lk l t∧(iM base (cM l ops vs i))[t]?=(iM base l)[t]?
|0,_=>⟨rfl,rfl⟩
|i + 1,h=>by
  obtain ⟨h1,h2⟩:=fQ base t i (fun j hj=>h j (by omega))
  have hne:=h i (by omega)
  simp only [cM]
  cases hd:aQ ops i with
 |none=>exact ⟨h1,h2⟩
 |some d =>
   have:d≠t:=fun e=>hne (by rw [hd,e])
   simp only [stp,lk,iM,if_neg this];exact ⟨h1,by rw [Array.getElem?_setIfInBounds_ne this];exact h2⟩
theorem gD (hl:DLt N ops n) {base:Array Value} (hbase:base.size=N) {t j:Nat} (hj:aQ ops j=some t) (huniq:∀ k,k < n→k≠j→aQ ops k≠some t):∀ i,i≤n→j < i →
  lk (cM l ops vs i) t=some (vs j)∧(iM base (cM l ops vs i))[t]?=some (vs j)
|0,_,h=>absurd h (Nat.not_lt_zero _)
|i + 1,hi,h=>by
  simp only [cM]
  by_cases e:j=i
  ·subst e;rw [hj];simp only [stp,lk,iM,if_true,true_and];rw [Array.getElem?_setIfInBounds_self_of_lt (by rw [iG,hbase];exact hl j t (by omega) hj)]
  ·obtain ⟨h1,h2⟩:=gD hl hbase hj huniq i (by omega) (by omega)
   have hne:=huniq i (by omega) (Ne.symm e)
   cases hd:aQ ops i with
  |none=>exact ⟨h1,h2⟩
  |some d =>
    have:d≠t:=fun e=>hne (by rw [hd,e])
    simp only [stp,lk,iM,if_neg this];exact ⟨h1,by rw [Array.getElem?_setIfInBounds_ne this];exact h2⟩
theorem qSq {keys:List Nat} (ok:RegOk keys ops n) (F:Fr N) (hk:bX N l=true) (bH:∀ t ∈ keys,∃ v,lk l t=some v) (hlt:DLt N ops n)
  {Le:Nat→World→World→Prop} (hLe:∀ i w,Le i w w) (hS:∀ j i u w w',j < n→i < n→j≠i→C w→R j u w→Le i w w'→R j u w')
  (H:∀ i o,i < n→ops[i]?=some o→∀ (vs:Nat→Value) (w:World),C w→(∀ j t,j < i→aQ ops j=some t→t ∈ o.looksAt ops.toArray→R j (vs j) w) →
   ∃ b,gd (cM l ops vs i) (cN ops) o.guard (·=b)∧(b=true→Yields P (execOp (evD (cM l ops vs i)) o) w fun u w'=>R i u w'∧C w'∧Le i w w')∧(b=false→R i undef w))
  {Q:Exit→Act→World→Prop} (hT:∀ (vs:Nat→Value) (w:World),C w→(∀ j,j < n→R j (vs j) w)→wpListIn (FW F.ds.2) 0 P ops.toArray Q (ops.drop n) (mk F (cM l ops vs n)) w) :
  ∀ (fuel:Nat) (listed:Array Bool) (a:Act) (w:World) (vs:Nat→Value),unl listed=fuel→Mid N C ops n (iM F.base l) F.ds.1 vs listed a w→(∀ j,j < n→listed.getD j false=true→R j (vs j) w)→wpAnyIn (FW F.ds.2) 0 P .any ops.toArray Q fuel listed a w:=by
 have uniq:∀ i j t,i < n→j < n→aQ ops i=some t→aQ ops j=some t→i=j:=by
  intro i j t hi hj h1 h2
  rcases Nat.lt_trichotomy i j with h|h|h
  ·rcases ok.uniq j i hj h with e|e
   ·rw [h2] at e;cases e
   ·exact absurd (h2.trans h1.symm) e
  ·exact h
  ·rcases ok.uniq i j hi h with e|e
   ·rw [h1] at e;cases e
   ·exact absurd (h1.trans h2.symm) e
 have final:∀ (listed:Array Bool) (a:Act) (w:World) (vs:Nat→Value),Mid N C ops n (iM F.base l) F.ds.1 vs listed a w→(∀ j,j < n→listed.getD j false=true)→a=mk F (cM l ops vs n):=by
  intro listed a w vs M hall;obtain ⟨tm,df⟩:=a
  have hd:df=F.ds.1:=M.defers
  subst hd;show Act.mk _ _=Act.mk _ _
  congr 1
  apply Array.ext_getElem?
  intro t
  by_cases h:∃ j,j < n∧aQ ops j=some t
  ·obtain ⟨j,hj,hd⟩:=h
   have h1:=M.new j t hj (hall j hj) hd
   have h2:=(gD (l:=l) (vs:=vs) hlt F.hN hd (fun k hk hne e=>hne (uniq k j t hk hj e hd)) n (Nat.le_refl _) hj).2
   exact h1.trans h2.symm
  ·have h':∀ j,j < n→aQ ops j≠some t:=fun j hj e=>h ⟨j,hj,e⟩
   have h1:=M.old t (fun j hj _=>h' j hj)
   have h2:=(fQ (l:=l) (vs:=vs) F.base t n h').2
   exact h1.trans h2.symm
 have slot:∀ (listed:Array Bool) (a:Act) (w:World) (vs:Nat→Value) (i:Nat) (o:Oper) (t:Nat),Mid N C ops n (iM F.base l) F.ds.1 vs listed a w→i < n→ops[i]?=some o→i ∈ Region.ready .any ops.toArray listed→t ∈ o.looksAt ops.toArray →
   ∃ X,a.tmps[t]?=some X∧lk (cM l ops vs i) t=some X:=by
  intro listed a w vs i o t M hi ho hr ht;obtain ⟨l1,l2⟩:=ok.looks i o t hi ho ht
  by_cases h:∃ j,j < n∧aQ ops j=some t
  ·obtain ⟨j,hj,hd⟩:=h;obtain ⟨hji,he⟩:=l1 j hj hd;exact ⟨vs j,M.new j t hj (cU hr he) hd,(gD (l:=l) (vs:=vs) hlt F.hN hd (fun k hk hne e=>hne (uniq k j t hk hj e hd)) i (by omega) hji).1⟩
  ·have h':∀ j,j < n→aQ ops j≠some t:=fun j hj e=>h ⟨j,hj,e⟩
   rcases l2 with ⟨j,hj,hd⟩|hkey
   ·exact absurd hd (h' j (by omega))
   ·obtain ⟨v,hv⟩:=bH t hkey;refine ⟨v,?_,?_⟩
    ·rw [M.old t (fun j hj _=>h' j hj)];exact jD F hk hv
    ·rw [(fQ (l:=l) (vs:=vs) F.base t i (fun j hj=>h' j (by omega))).1];exact hv
 intro fuel
 induction fuel with
|zero =>
  intro listed a w vs hu M MR
  have hall:∀ j,j < ops.length→listed.getD j false=true:=fun j hj=>qCd hu (by rw [M.size];exact hj)
  have hn:n=ops.length:=by
   rcases Nat.lt_or_ge n ops.length with h|h
   ·have:=M.heads n (hall n h);omega
   ·have:=ok.hn;omega
  have ha:=final listed a w vs M (fun j hj=>hall j (by omega))
  subst ha;exact kU ok 0 n listed _ w (by omega) (Nat.le_refl _) M.size (fun i hi=>⟨fun _=>by omega,fun _=>hall i hi⟩) (hT vs w M.cls fun j hj=>MR j hj (hall j (by omega)))
|succ fuel ih =>
  intro listed a w vs hu M MR
  by_cases hdone:∀ j,j < n→listed.getD j false=true
  ·have ha:=final listed a w vs M hdone
   subst ha
   have hcount:∀ (m:Nat) (x:Array Bool),x.size=ops.length→(∀ i,i < ops.length→(x.getD i false=true↔i < m))→m≤ops.length→m + unl x=ops.length:=by
    intro m;generalize hd:ops.length - m=d
    induction d generalizing m with
   |zero =>
     intro x hx hl hm
     have:unl x=0:=by
      unfold unl;rw [List.length_eq_zero_iff,List.filter_eq_nil_iff];intro b hb;obtain ⟨i,hi,rfl⟩:=List.getElem_of_mem hb
      have hi':i < x.size:=by simpa using hi
      have:=(hl i (by omega)).2 (by omega)
      simp only [Array.getD,hi',dite_true] at this;simp [show x.toList[i]=true from this]
     omega
   |succ d ihd =>
     intro x hx hl hm
     have hmlt:m < ops.length:=by omega
     have h0:x.getD m true=false:=by
      have:¬ x.getD m false=true:=fun e=>by have:=(hl m hmlt).1 e;omega
      have hm':m < x.size:=by omega
      simp only [Array.getD,hm',dite_true] at this ⊢
      simpa using this
     have:=ihd (m + 1) (by omega) (x.setIfInBounds m true) (by simpa using hx) (fun i hi=>by
      by_cases e:m=i
      ·subst e
       have:m < x.size:=by omega
       simp [this]
      ·rw [getD_set_ne false e,hl i hi];omega) (by omega)
     have:=qL h0
     omega
   have hl:∀ i,i < ops.length→(listed.getD i false=true↔i < n):=fun i hi=>⟨M.heads i,hdone i⟩
   have:=hcount n listed M.size hl ok.hn
   exact kU ok (fuel + 1) n listed _ w (by omega) (Nat.le_refl _) M.size hl (hT vs w M.cls fun j hj=>MR j hj (hdone j hj))
  ·have hex:∃ j,j < n∧listed.getD j false≠true:=by
    refine Classical.byContradiction fun hne=>hdone fun j hj=>?_
    refine Classical.byContradiction fun h=>hne ⟨j,hj,h⟩
   have hn:=ok.hn
   have hready:∃ j,j ∈ Region.ready .any ops.toArray listed:=by
    obtain ⟨j,hj,hjl⟩:=hex
    have:∀ d j,j=d→j < n→listed.getD j false≠true→∃ j,j ∈ Region.ready .any ops.toArray listed:=by
     intro d
     induction d using Nat.strongRecOn with
    |_ d ihd =>
      intro j hd hj hjl;subst hd
      have ho:ops[j]?=some (ops[j]'(by omega)):=List.getElem?_eq_getElem _
      by_cases hall:∀ e ∈ (ops[j]'(by omega)).after,Region.binds .any e=true→listed.getD e.on false=true
      ·refine ⟨j,mem_ready.2 ⟨?_,ops[j]'(by omega),by simp,hall⟩⟩
       have h2:j < listed.size:=by rw [M.size];omega
       simp only [Array.getD,h2,dite_true] at hjl ⊢
       simpa using hjl
      ·have:∃ e ∈ (ops[j]'(by omega)).after,Region.binds .any e=true∧listed.getD e.on false≠true:=by
        refine Classical.byContradiction fun hne=>hall fun e he hb=>?_
        refine Classical.byContradiction fun h=>hne ⟨e,he,hb,h⟩
       obtain ⟨e,he,hb,hl⟩:=this
       have hlt:=ok.down j _ e ho he hb
       exact ihd e.on hlt e.on rfl (by omega) hl
    exact this j j rfl hj hjl
   obtain ⟨j0,hj0⟩:=hready;refine ⟨fun h0=>absurd hj0 (by rw [h0];simp),fun i hi=>?_⟩
   obtain ⟨hun,o,ho,hall⟩:=mem_ready.1 hi
   have ho':ops[i]?=some o:=by simpa using ho
   have hilt:i < ops.length:=(List.getElem?_eq_some_iff.1 ho').1
   have hin:i < n:=by
    rcases Nat.lt_or_ge i n with h|h
    ·exact h
    ·exfalso
     apply hdone
     have key:∀ d j,i - j=d→j < i→listed.getD j false=true:=by
      intro d
      induction d using Nat.strongRecOn with
     |_ d ihd =>
       intro j hd hji;obtain ⟨k,hk1,hk2,hk3⟩:=ok.tail i j hilt h hji
       rcases Nat.lt_or_ge k i with hki|hki
       ·exact M.clos k j (ihd (i - k) (by omega) k rfl hki) hk3
       ·have:k=i:=by omega
        subst this;exact cU hi hk3
     exact fun j hj=>key _ j rfl (by omega)
   have hu':unl (listed.setIfInBounds i true)=fuel:=by have:=qL hun;omega
   have hdi:aQ ops i=o.dst:=by unfold aQ;rw [ho'];rfl
   have hlt':kD N o.dst:=by
    cases hd:o.dst with
   |none=>trivial
   |some t=>exact hlt i t hin (hdi.trans hd)
   let nxt:Value→Nat→Value:=fun u j=>if j=i then u else vs j
   have nxt_i:∀ u,nxt u i=u:=fun u=>if_pos rfl
   have nxt_ne:∀ u j,j≠i→nxt u j=vs j:=fun u j h=>if_neg h
   have rest:∀ u w',R i u w'→Le i w w'→∀ j,j < n→(listed.setIfInBounds i true).getD j false=true→R j (nxt u j) w':=by
    intro u w' hu hB j hj hl
    by_cases e:j=i
    ·subst e;rw [nxt_i];exact hu
    ·rw [nxt_ne u j e];rw [getD_set_ne false (Ne.symm e)] at hl;exact hS j i _ w w' hj hin e M.cls (MR j hj hl) hB
   have step:∀ u w',C w'→Mid N C ops n (iM F.base l) F.ds.1 (nxt u) (listed.setIfInBounds i true) (a.put o.dst u) w':=by
    intro u w' hC
    have hlt:=hlt'
    have hset:∀ j,(listed.setIfInBounds i true).getD j false=true→j=i∨listed.getD j false=true:=by
     intro j h
     by_cases e:i=j
     ·exact .inl e.symm
     ·rw [getD_set_ne false e] at h;exact .inr h
    have hseti:(listed.setIfInBounds i true).getD i false=true:=by
     have:i < listed.size:=by rw [M.size];exact hilt
     simp [this]
    refine ⟨by simpa using M.size,?_,?_,?_,?_,?_,?_,hC⟩
    ·intro k j hk he
     rcases hset k hk with rfl|hk
     ·exact getD_set_true (cU hi he)
     ·exact getD_set_true (M.clos k j hk he)
    ·intro k hk
     rcases hset k hk with rfl|hk
     ·exact hin
     ·exact M.heads k hk
    ·cases hd:o.dst <;> exact M.defers
    ·cases hd:o.dst with
    |none=>exact M.tsize
    |some d=>simp only [Act.put,Array.size_setIfInBounds];exact M.tsize
    ·intro j t hj hjl hd
     rcases hset j hjl with rfl|hjl'
     ·rw [hdi] at hd;rw [hd] at hlt ⊢;simp only [Act.put];rw [Array.getElem?_setIfInBounds_self_of_lt (by rw [M.tsize];exact hlt),nxt_i]
     ·by_cases e:j=i
      ·subst e;rw [hdi] at hd;rw [hd] at hlt ⊢;simp only [Act.put];rw [Array.getElem?_setIfInBounds_self_of_lt (by rw [M.tsize];exact hlt),nxt_i]
      ·rw [nxt_ne u j e]
       have h1:=M.new j t hj hjl' hd
       cases hdo:o.dst with
      |none=>exact h1
      |some d =>
        have hne:d≠t:=fun e'=>e (uniq j i t hj hin hd (by rw [hdi,hdo,e']))
        simp only [Act.put];rw [Array.getElem?_setIfInBounds_ne hne];exact h1
    ·intro t ht
     have h1:=M.old t (fun j hj hjl=>ht j hj (getD_set_true hjl))
     have h2:=ht i hin hseti
     rw [hdi] at h2
     cases hdo:o.dst with
    |none=>exact h1
    |some d =>
      have hne:d≠t:=fun e'=>h2 (by rw [hdo,e'])
      simp only [Act.put];rw [Array.getElem?_setIfInBounds_ne hne];exact h1
   obtain ⟨b,hb,hbt,hbf⟩:=H i o hin ho' vs w M.cls fun j t hj hd ht=>by
    obtain ⟨l1,-⟩:=ok.looks i o t hin ho' ht;exact MR j (by omega) (cU hi (l1 j (by omega) hd).2)
   have hw:Region.wanted o (yielded ops.toArray a.tmps)=b:=by
    unfold gd at hb;split at hb
    ·rename_i hg;simp only [Region.wanted,hg];exact hb
    ·rename_i g want hg;split at hb
     ·rename_i d hd;split at hb
      ·rename_i bb hbb
       have hdd:aQ ops g=some d:=by
        unfold aQ;simp only [cN,List.getElem?_map,Option.map_eq_some_iff] at hd;obtain ⟨x,hx,hx'⟩:=hd;simp [hx,hx']
       obtain ⟨X,hX1,hX2⟩:=slot listed a w vs i o d M hin ho' hi (gA hg hdd);rw [hbb] at hX2
       cases hX2
       have:yielded ops.toArray a.tmps g=some bb:=by
        unfold yielded;unfold aQ at hdd;simp only [List.getElem?_toArray,hdd,Option.bind_some,hX1]
       simp only [Region.wanted,hg,this];rw [← hb]
       cases bb <;> cases want <;> rfl
      ·rename_i bb hnb hbb
       have hdd:aQ ops g=some d:=by
        unfold aQ;simp only [cN,List.getElem?_map,Option.map_eq_some_iff] at hd;obtain ⟨x,hx,hx'⟩:=hd;simp [hx,hx']
       obtain ⟨X,hX1,hX2⟩:=slot listed a w vs i o d M hin ho' hi (gA hg hdd);rw [hbb] at hX2
       cases hX2
       have:yielded ops.toArray a.tmps g=none:=by
        unfold yielded;unfold aQ at hdd;simp only [List.getElem?_toArray,hdd,Option.bind_some,hX1];split
        ·rename_i b' e;cases e;exact (hnb b' rfl).elim
        ·rfl
       simp only [Region.wanted,hg,this];rw [← hb];rfl
      ·exact hb.elim
     ·exact hb.elim
   unfold wpOpIn;simp only [ho,hw]
   cases b with
  |true =>
    simp only [if_true];refine (cX ?_)
    have hcong:execOp a.eval o=execOp (evD (cM l ops vs i)) o:=by
     refine execOp_congr o (ok.sel i o ho') (fun x hx=>?_)
     cases x with
    |tmp t =>
      obtain ⟨X,hX1,hX2⟩:=slot listed a w vs i o t M hin ho' hi (jM hx);simp [Act.eval,evD,ev,hX1,hX2]
    |const c=>rfl
    |global g=>rfl
    |func f=>rfl
    rw [hcong];exact (hbt rfl).mono fun u w' ⟨hu,hC,hB⟩=>ih _ _ _ _ hu' (step u w' hC) (rest u w' hu hB)
  |false =>
    simp only [Bool.false_eq_true,if_false];exact ⟨fun _ _=>trivial,ih _ _ _ _ hu' (step undef w M.cls) (rest undef w (hbf rfl) (hLe i w))⟩
end
section
variable {P:Program} {N:Nat} {Q:tB} {l:Env} {w:World}
theorem zMd {id:Nat} {ops:List Oper} (keys:List Nat) (n:Nat) (hm:P.follows .mixedOrders=true) (bH:nQ l=keys) (hok:pM keys ops n=true) (hlt:DLt N ops n)
  {C:World→Prop} {R:Nat→Value→World→Prop} (hC:C w.drew) {Le:Nat→World→World→Prop} (hLe:∀ i w,Le i w w) (hS:∀ j i u w w',j < n→i < n→j≠i→C w→R j u w→Le i w w'→R j u w')
  (H:∀ i o,i < n→ops[i]?=some o→∀ (vs:Nat→Value) (w:World),C w→(∀ j t,j < i→aQ ops j=some t→t ∈ o.looksAt ops.toArray→R j (vs j) w) →
   ∃ b,gd (cM l ops vs i) (cN ops) o.guard (·=b)∧(b=true→Yields P (execOp (evD (cM l ops vs i)) o) w fun u w'=>R i u w'∧C w'∧Le i w w')∧(b=false→R i undef w))
  (hT:∀ (vs:Nat→Value) (w:World),C w→(∀ j,j < n→R j (vs j) w)→VC P N (cN ops) (fun l' w'=>Q .normal l' w') (ops.drop n) (cM l ops vs n) w):W P N (.region id ops.toArray true) Q l w:=fun hk F=>by
 have ok:=hZ hok
 refine wpIn_region_any hm ?_
 have:=qSq ok F hk (fun t ht=>mR (by rw [bH];exact ht)) hlt hLe hS H (Q:=qT7 N F.ds Q)
  (fun vs w' hw' hR=>tA F (K:=fun l w=>Q .normal l w) (fun l' w' hk' hK=>⟨F,l',rfl,rfl,hk',hK⟩) _ _ _ (oZ hlt hk n (Nat.le_refl _)) (hT vs w' hw' hR))
  ops.length (Array.replicate ops.length false) (mk F l) w.drew (fun _=>undef) (iF _)
  ⟨by simp,(fun i j hi=>by rw [getD_replicate_false] at hi;cases hi),(fun i hi=>by rw [getD_replicate_false] at hi;cases hi),rfl,by simp [mk,iG,F.hN],(fun j t _ hl=>by rw [getD_replicate_false] at hl;cases hl),fun t _=>rfl,hC⟩
  (fun j _ hl=>by rw [getD_replicate_false] at hl;cases hl)
 simpa using this
theorem qYu {id:Nat} {ops:List Oper} (keys:List Nat) (n:Nat) (hm:P.follows .mixedOrders=true) (bH:nQ l=keys) (hok:pM keys ops n=true) (hlt:DLt N ops n)
  {C:World→Prop} {R:Nat→Value→World→Prop} (hC:C w.drew) (hS:∀ i u w w',C w→R i u w→Below w.heap.size w w'→R i u w')
  (H:∀ i o,i < n→ops[i]?=some o→∀ (vs:Nat→Value) (w:World),C w→(∀ j t,j < i→aQ ops j=some t→t ∈ o.looksAt ops.toArray→R j (vs j) w) →
   ∃ b,gd (cM l ops vs i) (cN ops) o.guard (·=b)∧(b=true→Yields P (execOp (evD (cM l ops vs i)) o) w fun u w'=>R i u w'∧C w'∧Below w.heap.size w w')∧(b=false→R i undef w))
  (hT:∀ (vs:Nat→Value) (w:World),C w→(∀ j,j < n→R j (vs j) w)→VC P N (cN ops) (fun l' w'=>Q .normal l' w') (ops.drop n) (cM l ops vs n) w):W P N (.region id ops.toArray true) Q l w :=
 zMd keys n hm bH hok hlt hC (Le:=fun _ w w'=>Below w.heap.size w w') (fun _ w=>Below.refl _ _) (fun j _ u w w' _ _ _ hc hr hb=>hS j u w w' hc hr hb) H hT
end
end Go.Eng
end

section
namespace Go.Eng
open Go Go.RowKit

def cF:Operand→List Nat
|.tmp t=>[t]
|_=>[]
def tQ:List Operand→List Nat
|[]=>[]
|x :: r=>cF x ++ tQ r
def pD:List (Nat × Operand)→List Nat
|[]=>[]
|(_,x) :: r=>cF x ++ pD r
def qF7:Option Operand→List Nat
|some x=>cF x
|none=>[]
def qJ0:Callee→List Nat
|.value x=>cF x
|_=>[]
def cR:Op→List Nat
|.move x=>cF x
|.assign x=>cF x
|.nilCheck x=>cF x
|.pick c a b=>cF c ++ (cF a ++ cF b)
|.extract x _=>cF x
|.field _ x _=>cF x
|.fieldAddr _ x _=>cF x
|.load _ x=>cF x
|.unOp _ _ x=>cF x
|.convert _ _ x=>cF x
|.indexAddr _ x i=>cF x ++ cF i
|.index _ x i=>cF x ++ cF i
|.slice _ x l h none=>cF x ++ (qF7 l ++ qF7 h)
|.binOp _ _ x y _=>cF x ++ cF y
|.build _ ps=>pD ps.toList
|.buildSlice _ _ ps=>pD ps.toList
|.makeSlice _ x y=>cF x ++ cF y
|.call ⟨k,args,_⟩=>qJ0 k ++ tQ args.toList
|_=>[]
theorem kZ {x:Operand} {t:Nat} (h:t ∈ cF x):x=.tmp t:=by
 cases x <;> simp [cF] at h
 subst h;rfl
theorem qJz:∀ {l:List Operand} {t:Nat},t ∈ tQ l→Operand.tmp t ∈ l
|[],t,h=>by simp [tQ] at h
|x :: r,t,h=>by
  simp only [tQ,List.mem_append] at h
  rcases h with h|h
  ·rw [kZ h];exact List.mem_cons_self ..
  ·exact List.mem_cons_of_mem _ (qJz h)
theorem qBs:∀ {l:List (Nat × Operand)} {t:Nat},t ∈ pD l→Operand.tmp t ∈ l.map (·.2)
|[],t,h=>by simp [pD] at h
|(k,x) :: r,t,h=>by
  simp only [pD,List.mem_append] at h
  rcases h with h|h
  ·rw [List.map_cons,kZ h];exact List.mem_cons_self ..
  ·rw [List.map_cons];exact List.mem_cons_of_mem _ (qBs h)
theorem qPx {x:Option Operand} {t:Nat} (h:t ∈ qF7 x):x=some (.tmp t):=by
 cases x with
|none=>simp [qF7] at h
|some x=>rw [kZ h]
theorem qF3 {o:Op} {t:Nat} (h:t ∈ cR o):Operand.tmp t ∈ o.operands:=by
 unfold cR at h;split at h
 all_goals try simp only [List.mem_append] at h
 case h_13=>
  simp only [Op.operands]
  rcases h with h|h|h
  ·rw [kZ h];simp
  ·rw [qPx h];simp
  ·rw [qPx h];simp
 case h_15=>simpa [Op.operands] using qBs h
 case h_16=>simpa [Op.operands] using qBs h
 case h_18 =>
  simp only [Op.operands,Call.operands,Array.mem_append]
  rcases h with h|h
  ·refine .inl ?_;unfold qJ0 at h;split at h
   ·rw [kZ h];simp
   ·simp at h
  ·exact .inr (by simpa using qJz h)
 case h_19=>simp at h
 all_goals
  simp only [Op.operands]
  first
 |(rw [kZ h];simp;done)
 |(rcases h with h|h <;> (rw [kZ h];simp))
 |(rcases h with h|h|h <;> (rw [kZ h];simp))
def sK (ds:List (Option Nat)):Option (Nat × Bool)→List Nat
|none=>[]
|some (g,_)=>match ds[g]? with
 |some (some d)=>[d]
 |_=>[]
def jU (e:bP):List Nat→bP
|[]=>[]
|t :: r=>match hlk e t with
 |some h=>(t,h) :: jU e r
 |none=>jU e r
theorem sN {e:bP}:∀ {l:List Nat} {t:Nat} {h:HV},hlk (jU e l) t=some h→t ∈ l∧hlk e t=some h
|[],t,h,hh=>by simp [jU,hlk] at hh
|k :: r,t,h,hh=>by
  simp only [jU] at hh;split at hh
  ·rename_i x hx;simp only [hlk] at hh
   by_cases ek:k=t
   ·subst ek;rw [if_pos rfl] at hh;exact ⟨List.mem_cons_self ..,by rw [hx];exact hh⟩
   ·rw [if_neg ek] at hh;obtain ⟨a,b⟩:=sN hh;exact ⟨List.mem_cons_of_mem _ a,b⟩
  ·obtain ⟨a,b⟩:=sN hh;exact ⟨List.mem_cons_of_mem _ a,b⟩
def zQ8 (P:Program) (f:FuncId) (args:List HV) (T:HS) (K:HV→Prop):Prop :=
 aK P f=true∧∃ h,K h∧∀ (c:Ctx) (look:Nat→Option Value) (w:World) (ρ:Nat→Value) (xs:Nat→List Value) (vs:List Value),Good c T look w ρ xs→oB w (c.A ρ T.st) c.n0 ρ vs args →
  Calls P f vs.toArray w (Ret fun u w'=>RepH w' (c.A ρ T.st) c.n0 ρ u h∧Below w.heap.size w w')
def mM:bP→Bool
|[]=>true
|(_,.v _) :: r=>mM r
|(_,.lst _ _) :: r=>mM r
|(_,.agg _) :: r=>mM r
|_=>false
def zDv (d:Option Nat) (S:HS) (K:HS→Prop):HOut→Prop
|.go c (.own i) S'=>match rlk S'.st i with
 |some (.sl _ _ _ els)=>c∧K (S.set d (.lst true els))
 |_=>False
|_=>False
def zNf:Op→Bool
|.buildSlice ..=>true
|.makeSlice ..=>true
|_=>false
def qA4 (P:Program) (o:Oper) (S T:HS) (K:HS→Prop):HOut→Prop
|.go c h _=>match dZ o.op with
 |true=>c∧K (S.set o.dst h)
 |false=>match zNf o.op && mM T.env with
  |true=>zDv o.dst S K (hop P ⟨T.env,[]⟩ (qDu o.dst) o.op)
  |false=>False
|.call f args=>zQ8 P f args T (fun x=>lY K (S.set o.dst x))
|.eqn t x y neg=>∃ r,EqR P t x.toArray y.toArray r∧lY K (S.set o.dst (.v (.bool (neg ^^ r))))
|.bytes _ _=>False
|.bad=>False
def zAm (P:Program) (N:Nat) (o:Oper) (S T:HS) (K:HS→Prop):Prop:=match eQ N o.dst with
|true=>qA4 P o S T K (hop P T (qDu o.dst) o.op)
|false=>False
def qFt (P:Program) (N:Nat) (o:Oper) (S T:HS) (K:HS→Prop):GOut→Prop
|.yes=>zAm P N o S T K
|.no=>lZ N o.dst S K
|.ask d b want=>match b == want with
 |true=>zAm P N o (S.rep d (.v (.bool want))) (T.rep d (.v (.bool want))) K
 |false=>lZ N o.dst (S.rep d (.v (.bool (!want)))) K
|.bad=>False
def HVr (P:Program) (N:Nat) (ds:List (Option Nat)) (K:HS→Prop):List Oper→HS→Prop
|[],S=>K S
|o :: rest,S=>qFt P N o S ⟨jU S.env (sK ds o.guard ++ cR o.op),S.st⟩ (HVr P N ds K rest) (hG (jU S.env (sK ds o.guard ++ cR o.op)) ds o.guard)
end Go.Eng
end

section
namespace Go.Eng
open Go Go.RowKit
section
variable {P:Program} {N:Nat} {c:Ctx} {S T:HS} {Q:gF} {l:Env} {look:Nat→Option Value} {w w':World} {ρ:Nat→Value} {xs:Nat→List Value} {K:HS→Prop}
theorem RepH.above {A:Nat→Prop} {n0:Nat} {v:Value} {x:HV} (h:RepH w A n0 ρ v x) (B:Below w.heap.size w w'):RepH w' A n0 ρ v x:=h.up B.size (fun b hlt _=>B.block b hlt) (fun b _ h=>h) (Nat.le_refl _)
theorem qAp {d:Nat} {h:HV}:∀ {E:bP},hlk E d=some h→∀ k,hlk (wR d h E) k=hlk E k
|[],e,k=>by simp [hlk] at e
|(j,x) :: r,e,k=>by
  simp only [hlk] at e;simp only [wR]
  by_cases ej:j=d
  ·rw [if_pos ej] at e ⊢;simp only [Option.some.injEq] at e;subst e;rfl
  ·rw [if_neg ej] at e ⊢;simp only [hlk,qAp e k]
theorem Good.sameEnv {E:bP} {st:aJ} (G:Good c ⟨E,st⟩ look w ρ xs) {E':bP} (h:∀ k,hlk E' k=hlk E k):Good c ⟨E',st⟩ look w ρ xs:=⟨G.rows,G.apart,fun k x hk=>G.env k x (by rw [← h k];exact hk),G.kept,G.a0⟩
theorem qZa (G:Good c T (lk l) w ρ xs) {id i:Nat} {o:Op} {ty:TypeId} {cnd:Prop} {S':HS} (hp:mM T.env=true) (h:hop P ⟨T.env,[]⟩ id o=.go cnd (.own i) S') {nw:Bool} {t sz:Nat} {els:List (List FV)} (hr:rlk S'.st i=some (.sl nw t sz els)) (hc:cnd) :
  bQ P l o ty w (fun u w'=>RepH w' (c.A ρ T.st) c.n0 ρ u (.lst true els)∧Below w.heap.size w w') (fun u w'=>RepH w' (c.A ρ T.st) c.n0 ρ u (.lst true els)∧Below w.heap.size w w'):=by
 have hA:∀ b,c.A ρ T.st b→b < w.heap.size:=by
  rintro b (h0|⟨i,r,hi,hb⟩)
  ·have:=(G.a0 b h0).1;have:=G.kept.size;omega
  ·exact G.lt hi hb
 have G2:Good ⟨w,fun _=>False,c.A ρ T.st,c.n0,Nat.le_trans c.hn G.kept.size,fun _ _=>False⟩ ⟨T.env,[]⟩ (lk l) w ρ xs:=by
  refine ⟨fun id r hr=>by simp [rlk] at hr,fun i j r s b hne hi=>by simp [rlk] at hi,fun k x hk=>?_,Kept.refl _ _,fun b hb=>⟨hA b hb,fun h=>h⟩⟩
  obtain ⟨u,h1,h2⟩:=G.env k _ hk;refine ⟨u,h1,h2.up (Nat.le_refl _) (fun _ _ _=>rfl) (fun b _ hb=>?_) (Nat.le_refl _)⟩
  rcases hb with hb|⟨i,r,hi,-⟩
  ·exact hb
  ·simp [rlk] at hi
 refine cB (qPu G2 (bJ _ _) h hc) fun u w' ⟨ρ2,xs2,G3,r⟩=>?_
 have B:Below w.heap.size w w':=G3.kept.below (fun _ _ h=>h)
 refine ⟨?_,B⟩
 cases r
 obtain ⟨o1,o2,o3⟩:=dT G3 hr
 have R0:=G3.rows i _ hr
 refine .lst (qCv o1 o2 (fun p k hp hk=>?_) (fun b hb=>?_))
 ·obtain ⟨u,a,b,d⟩:=o3 p k hp hk;exact ⟨u,a,b,d.up (Nat.le_refl _) (fun _ _ _=>rfl) (fun b _ h=>.inl h) (Nat.le_refl _)⟩
 ·rcases (R0.new b hb).1 with h|h
  ·have h:w.heap.size≤b:=h
   exact ⟨fun hA'=>by have:=hA b hA';omega,fun _=>by have:=c.hn;have:=G.kept.size;omega⟩
  ·exact h.elim
theorem qS7 {o:Oper} (h:zAm P N o S T K):kD N o.dst∧∃ x,K (S.set o.dst x)∧∀ (c:Ctx) (l:Env) (w:World) (ρ:Nat→Value) (xs:Nat→List Value),Good c T (lk l) w ρ xs →
  bQ P l o.op o.type w (fun u w'=>RepH w' (c.A ρ T.st) c.n0 ρ u x∧Below w.heap.size w w') (fun u w'=>RepH w' (c.A ρ T.st) c.n0 ρ u x∧Below w.heap.size w w'):=by
 unfold zAm at h;split at h
 ·rename_i hd;refine ⟨gE hd,?_⟩
  cases ho:hop P T (qDu o.dst) o.op with
 |go c' hv S' =>
   rw [ho] at h;unfold qA4 at h;dsimp only at h;split at h
   ·rename_i hq;obtain ⟨h0,h1⟩:=h;refine ⟨hv,h1,fun c l w ρ xs G=>?_⟩
    obtain ⟨v,hK,hv'⟩:=zF7 (ty:=o.type) (qJs (ty:=0) G (bJ _ _) ho hq h0);exact cB (hv' w (Below.refl _ _)) fun u w' ⟨e,B⟩=>by subst e;exact ⟨hK.2.2.above B,B⟩
   ·split at h
    ·rename_i hm;simp only [Bool.and_eq_true] at hm;unfold zDv at h;split at h
     ·rename_i c2 i S2 hm2;split at h
      ·rename_i nw t sz els hr;exact ⟨_,h.2,fun c l w ρ xs G=>qZa G hm.2 hm2 hr h.1⟩
      ·exact h.elim
     ·exact h.elim
    ·exact h.elim
 |call f args =>
   rw [ho] at h;obtain ⟨hf,x,hK,hc⟩:=h;refine ⟨x,hK,fun c l w ρ xs G=>?_⟩
   obtain ⟨y,ay,ats,e,hfn,has⟩:=qL0 ho;rw [e];obtain ⟨vs,e1,e2,e3⟩:=G.evs (bJ _ _) has;unfold bQ;simp only [aY,cC,e1,G.fn (bJ _ _) hfn];exact ⟨hf,hc c (lk l) w ρ xs vs G ⟨e2,e3⟩⟩
 |eqn t x y neg =>
   rw [ho] at h;obtain ⟨r,h1,h2⟩:=h;refine ⟨_,h2,fun c l w ρ xs G=>?_⟩
   exact cB (qJt G (bJ _ l) ho h1) fun v w' ⟨e,_,r⟩=>by subst e;exact ⟨r,Below.refl _ _⟩
 |bytes ok s=>rw [ho] at h;exact h.elim
 |bad=>rw [ho] at h;exact h.elim
 ·exact h.elim
def FrOk (ops:List Oper) (E0:bP) (hs:Nat→HV) (i:Nat) (E:bP):Prop:=∀ t h,hlk E t=some h→(∃ j,j < i∧aQ ops j=some t∧hs j=h)∨((∀ j,j < i→aQ ops j≠some t)∧hlk E0 t=some h)
theorem FrOk.congr {ops:List Oper} {E0 E:bP} {hs hs':Nat→HV} {i:Nat} (h:FrOk ops E0 hs i E) (he:∀ j,j < i→hs' j=hs j):FrOk ops E0 hs' i E:=fun t x hx=>by
 rcases h t x hx with ⟨j,a,b,d⟩|r
 ·exact .inl ⟨j,a,b,by rw [he j a];exact d⟩
 ·exact .inr r
theorem FrOk.env {ops:List Oper} {E0 E E':bP} {hs:Nat→HV} {i:Nat} (h:FrOk ops E0 hs i E) (he:∀ t x,hlk E' t=some x→hlk E t=some x):FrOk ops E0 hs i E':=fun t x hx=>h t x (he t x hx)
theorem FrOk.set {ops:List Oper} {E0:bP} {hs:Nat→HV} {i:Nat} {S:HS} (h:FrOk ops E0 hs i S.env) {o:Oper} (ho:ops[i]?=some o):FrOk ops E0 hs (i + 1) (S.set o.dst (hs i)).env:=by
 have hd:aQ ops i=o.dst:=by unfold aQ;rw [ho];rfl
 intro t x hx
 cases e:o.dst with
|none =>
  rw [e] at hx hd
  rcases h t x hx with ⟨j,a,b,d⟩|⟨a,b⟩
  ·exact .inl ⟨j,by omega,b,d⟩
  ·refine .inr ⟨fun j hj=>?_,b⟩
   by_cases ej:j=i
   ·subst ej;rw [hd];simp
   ·exact a j (by omega)
|some d =>
  rw [e] at hx hd;simp only [HS.set,hlk] at hx
  by_cases et:d=t
  ·rw [if_pos et] at hx;simp only [Option.some.injEq] at hx;exact .inl ⟨i,by omega,by rw [hd,et],hx⟩
  ·rw [if_neg et] at hx
   rcases h t x hx with ⟨j,a,b,d'⟩|⟨a,b⟩
   ·exact .inl ⟨j,by omega,b,d'⟩
   ·refine .inr ⟨fun j hj=>?_,b⟩
    by_cases ej:j=i
    ·subst ej;rw [hd];simpa using et
    ·exact a j (by omega)
structure HeadOk (P:Program) (N:Nat) (ops:List Oper) (E0:bP) (st:aJ) (hs:Nat→HV) (i:Nat) (o:Oper):Prop where
 lt:kD N o.dst
 head:∃ T:bP,FrOk ops E0 hs i T∧(∀ t h,hlk T t=some h→t ∈ sK (cN ops) o.guard ++ cR o.op)∧∀ (c:Ctx) (l:Env) (w:World) (ρ:Nat→Value) (xs:Nat→List Value),Good c ⟨T,st⟩ (lk l) w ρ xs →
  ∃ b,gd l (cN ops) o.guard (·=b)∧(b=true→bQ P l o.op o.type w (fun u w'=>RepH w' (c.A ρ st) c.n0 ρ u (hs i)∧Below w.heap.size w w') (fun u w'=>RepH w' (c.A ρ st) c.n0 ρ u (hs i)∧Below w.heap.size w w'))∧(b=false→hs i=.v undef)
theorem qPa {d:Option Nat} (h:lZ N d S K):kD N d∧K (S.set d (.v undef)):=by
 unfold lZ at h;split at h
 ·rename_i hd;exact ⟨gE hd,h⟩
 ·exact h.elim
theorem pA {ops:List Oper} {E0:bP} {st:aJ}:∀ (rest:List Oper) (i:Nat) (S:HS) (hs0:Nat→HV),(∀ k o,rest[k]?=some o→ops[i + k]?=some o)→S.st=st→FrOk ops E0 hs0 i S.env→HVr P N (cN ops) K rest S →
  ∃ hs,(∀ j,j < i→hs j=hs0 j)∧(∀ k o,rest[k]?=some o→HeadOk P N ops E0 st hs (i + k) o)∧∃ S',S'.st=st∧FrOk ops E0 hs (i + rest.length) S'.env∧K S'
|[],i,S,hs0,hops,hst,F,h=>⟨hs0,fun _ _=>rfl,fun k o hk=>by simp at hk,S,hst,F,h⟩
|o :: rest,i,S,hs0,hops,hst,F,h=>by
  have hoi:ops[i]?=some o:=hops 0 o (by simp)
  rw [HVr] at h;generalize hT:jU S.env (sK (cN ops) o.guard ++ cR o.op)=T at h
  have TF:∀ t x,hlk T t=some x→t ∈ sK (cN ops) o.guard ++ cR o.op∧hlk S.env t=some x:=fun t x hx=>by subst hT;exact sN hx
  have key:∀ (S1:HS) (x:HV),S1.st=st→FrOk ops E0 hs0 i S1.env→HVr P N (cN ops) K rest (S1.set o.dst x)→kD N o.dst →
    (∀ (c:Ctx) (l:Env) (w:World) (ρ:Nat→Value) (xs:Nat→List Value),Good c ⟨T,st⟩ (lk l) w ρ xs →
     ∃ b,gd l (cN ops) o.guard (·=b)∧(b=true→bQ P l o.op o.type w (fun u w'=>RepH w' (c.A ρ st) c.n0 ρ u x∧Below w.heap.size w w') (fun u w'=>RepH w' (c.A ρ st) c.n0 ρ u x∧Below w.heap.size w w'))∧(b=false→x=.v undef)) →
    ∃ hs,(∀ j,j < i→hs j=hs0 j)∧(∀ k o',(o :: rest)[k]?=some o'→HeadOk P N ops E0 st hs (i + k) o')∧∃ S',S'.st=st∧FrOk ops E0 hs (i + (o :: rest).length) S'.env∧K S':=by
   intro S1 x hst1 F1 hK hlt hrun
   let hs1:Nat→HV:=fun j=>if j=i then x else hs0 j
   have e1:hs1 i=x:=if_pos rfl
   have e2:∀ j,j < i→hs1 j=hs0 j:=fun j hj=>if_neg (by omega)
   have F2:FrOk ops E0 hs1 (i + 1) (S1.set o.dst x).env:=by
    have:=(F1.congr e2).set hoi
    rw [e1] at this;exact this
   obtain ⟨hs,a,b,S',d,e,f⟩:=pA rest (i + 1) (S1.set o.dst x) hs1 (fun k o' hk=>by
    have:=hops (k + 1) o' (by simpa using hk)
    rw [show i + 1 + k=i + (k + 1) by omega];exact this) (by cases o.dst <;> exact hst1) F2 hK
   have ei:hs i=x:=by rw [a i (by omega),e1]
   have ej:∀ j,j < i→hs j=hs0 j:=fun j hj=>by rw [a j (by omega),e2 j hj]
   refine ⟨hs,ej,fun k o' hk=>?_,S',d,?_,f⟩
   ·cases k with
   |zero =>
     simp only [List.getElem?_cons_zero,Option.some.injEq] at hk;subst hk;exact ⟨hlt,T,(F.congr ej).env (fun t x hx=>(TF t x hx).2),fun t x hx=>(TF t x hx).1,by rw [Nat.add_zero,ei];exact hrun⟩
   |succ k =>
     have:=b k o' (by simpa using hk)
     rw [show i + 1 + k=i + (k + 1) by omega] at this;exact this
   ·rw [List.length_cons,show i + (rest.length + 1)=i + 1 + rest.length by omega];exact e
  cases hg:hG T (cN ops) o.guard with
 |yes =>
   rw [hg] at h;obtain ⟨hlt,x,hK,hv⟩:=qS7 h;refine key S x hst F hK hlt fun c l w ρ xs G=>⟨true,qUf (S:=⟨T,st⟩) hg rfl,fun _=>?_,fun e=>by cases e⟩
   have:=hv c l w ρ xs (by rw [hst];exact G)
   rw [hst] at this;exact this
 |no =>
   rw [hg] at h;obtain ⟨hlt,hK⟩:=qPa h;exact key S _ hst F hK hlt fun c l w ρ xs G=>⟨false,zJ5 (S:=⟨T,st⟩) ⟨ρ,xs,G⟩ hg rfl,fun e=>(by cases e),fun _=>rfl⟩
 |ask d b want =>
   rw [hg] at h;obtain ⟨j,hj,hd,hb⟩:=zJ3 (S:=⟨T,st⟩) hg
   have hbS:=(TF d _ hb).2
   simp only [qFt] at h;split at h
   ·rename_i e
    have e':b=want:=by simpa using e
    subst e';obtain ⟨hlt,x,hK,hv⟩:=qS7 h;refine key (S.rep d (.v (.bool b))) x hst (F.env fun t x hx=>by rw [← qAp hbS t];exact hx) hK hlt fun c l w ρ xs G=>⟨true,(qB0 (S:=⟨T,st⟩) ⟨ρ,xs,G⟩ hg (k:=(·=true)) e).1,fun _=>?_,fun e=>by cases e⟩
    have:=hv c l w ρ xs (by rw [hst];exact G.sameEnv (qAp hb))
    simp only [HS.rep] at this;rw [hst] at this;exact this
   ·rename_i e
    have e':b=!want:=by cases b <;> cases want <;> simp_all
    subst e';obtain ⟨hlt,hK⟩:=qPa h;exact key (S.rep d (.v (.bool (!want)))) _ hst (F.env fun t x hx=>by rw [← qAp hbS t];exact hx) hK hlt fun c l w ρ xs G=>⟨false,(qB0 (S:=⟨T,st⟩) ⟨ρ,xs,G⟩ hg (k:=(·=false)) e).1,fun e=>(by cases e),fun _=>rfl⟩
 |bad=>rw [hg] at h;exact h.elim
end
end Go.Eng
end

section
namespace Go.Eng
open Go Go.RowKit
section
variable {P:Program} {N:Nat} {c:Ctx} {S T:HS} {Q:gF} {l:Env} {look:Nat→Option Value} {w w':World} {ρ:Nat→Value} {xs:Nat→List Value} {K:HS→Prop}
theorem nM {ops:List Oper} {o:Oper} {t:Nat} (h:t ∈ sK (cN ops) o.guard ++ cR o.op):t ∈ o.looksAt ops.toArray:=by
 rcases List.mem_append.1 h with h|h
 ·cases hg:o.guard with
 |none=>rw [hg] at h;simp [sK] at h
 |some p =>
   obtain ⟨g,b⟩:=p;rw [hg] at h;simp only [sK] at h;split at h
   ·rename_i d hd;simp only [List.mem_singleton] at h;subst h;refine gA hg ?_;unfold aQ;simp only [cN,List.getElem?_map,Option.map_eq_some_iff] at hd;obtain ⟨x,hx,hx'⟩:=hd;simp [hx,hx']
   ·simp at h
 ·exact jM (qF3 h)
theorem eK {x:HV} {k:Nat}:∀ {e:bP},hlk e k=some x→k ∈ bH e
|[],h=>by simp [hlk] at h
|(j,y) :: r,h=>by
  simp only [hlk] at h
  by_cases ej:j=k
  ·simp [bH,ej]
  ·rw [if_neg ej] at h
   have:=eK h
   simp only [bH,List.map_cons,List.mem_cons];exact .inr this
theorem kL {id:Nat} {ops:List Oper} (n:Nat) (hm:P.follows .mixedOrders=true) (hok:pM (bH S.env) ops n=true)
  (h:∀ K:HS→Prop,(∀ S',Q .normal S'→K S')→HVr P N (cN ops) (fun S'=>lY (HV2 P N (cN ops) K (ops.drop n)) S') (ops.take n) S):HW P N (.region id ops.toArray true) Q S:=fun c l w I=>by
 have hks:∀ k ∈ bH S.env,∃ v,lk l k=some v:=fun k hk=>by
  obtain ⟨x,hx⟩:=fL hk;obtain ⟨ρ,xs,G⟩:=I;obtain ⟨v,h1,-⟩:=G.env k x hx;exact ⟨v,h1⟩
 refine sF (bH S.env) ?_
 have I':Inv c S (lk (keep (bH S.env) l)) w:=I.agree fun k x hk=>kJ (eK hk)
 have hkk:nQ (keep (bH S.env) l)=bH S.env:=jA hks
 generalize keep (bH S.env) l=l' at I' hkk;obtain ⟨ρ,xs,G⟩:=I'
 have ok:=hZ hok
 have hlen:(ops.take n).length=n:=by rw [List.length_take];have:=ok.hn;omega
 have get_take:∀ {i:Nat} {o:Oper},(ops.take n)[i]?=some o→i < n∧ops[i]?=some o:=fun {i o} h=>by
  have hi:=(List.getElem?_eq_some_iff.1 h).1
  rw [hlen] at hi;rw [List.getElem?_take_of_lt hi] at h;exact ⟨hi,h⟩
 obtain ⟨hs,-,heads,S1,e1,F1,h1⟩:=pA (E0:=S.env) (st:=S.st) (ops.take n) 0 S (fun _=>.junk) (fun k o hk=>by rw [Nat.zero_add];exact (get_take hk).2) rfl (fun t x hx=>.inr ⟨fun j hj=>absurd hj (Nat.not_lt_zero _),hx⟩) (h (Q .normal) fun _ h=>h)
 rw [hlen,Nat.zero_add] at F1
 have head:∀ i o,i < n→ops[i]?=some o→HeadOk P N ops S.env S.st hs i o:=fun i o hi ho=>by
  have:=heads i o (by rw [List.getElem?_take_of_lt hi];exact ho)
  rw [Nat.zero_add] at this;exact this
 have uniq:∀ i j t,i < n→j < n→aQ ops i=some t→aQ ops j=some t→i=j:=by
  intro i j t hi hj h1 h2
  rcases Nat.lt_trichotomy i j with h|h|h
  ·rcases ok.uniq j i hj h with e|e
   ·rw [h2] at e;cases e
   ·exact absurd (h2.trans h1.symm) e
  ·exact h
  ·rcases ok.uniq i j hi h with e|e
   ·rw [h1] at e;cases e
   ·exact absurd (h1.trans h2.symm) e
 have hlt:DLt N ops n:=fun i t hi hd=>by
  obtain ⟨o,ho,hod⟩:=mV hd
  have:=(head i o hi ho).lt
  rw [hod] at this;exact this
 -- what a frame of the heads' names reads
 have frame:∀ (vs:Nat→Value) (w':World) (i:Nat) (E:bP),i≤n→Below w.heap.size w w'→FrOk ops S.env hs i E →
   (∀ j t x,j < i→aQ ops j=some t→hlk E t=some x→RepH w' (c.A ρ S.st) c.n0 ρ (vs j) (hs j))→Good c ⟨E,S.st⟩ (lk (cM l' ops vs i)) w' ρ xs:=fun vs w' i E hi hB F hv=>by
  have GB:=G.below hB
  refine ⟨GB.rows,GB.apart,fun k x hk=>?_,GB.kept,GB.a0⟩
  rcases F k x hk with ⟨j,a,b,d⟩|⟨a,b⟩
  ·refine ⟨vs j,(gD (l:=l') (vs:=vs) hlt (base:=Array.replicate N undef) (by simp) b (fun q hq hne e=>hne (uniq q j k hq (by omega) e b)) i hi a).1,?_⟩
   rw [← d];exact hv j k x a b hk
  ·obtain ⟨v,v1,v2⟩:=GB.env k x b;exact ⟨v,by rw [(fQ (l:=l') (vs:=vs) #[] k i a).1];exact v1,v2⟩
 refine qYu (bH S.env) n hm hkk hok hlt (C:=fun w'=>Below w.heap.size w w') (R:=fun j u w'=>RepH w' (c.A ρ S.st) c.n0 ρ u (hs j)) (Below.refl _ _).drew (fun i u w1 w2 _ hr hB=>hr.above hB) ?_ ?_
 ·intro i o hi ho vs w1 hC hR;obtain ⟨T,TF,TS,run⟩:=(head i o hi ho).head
  have GT:Good c ⟨T,S.st⟩ (lk (cM l' ops vs i)) w1 ρ xs:=frame vs w1 i T (by omega) hC TF fun j t x hj hd hx=>hR j t hj hd (nM (TS t x hx))
  obtain ⟨b,b1,b2,b3⟩:=run c _ w1 ρ xs GT;refine ⟨b,b1,fun hb=>?_,fun hb=>?_⟩
  ·exact (fV (fun x X hx=>by simp [evD,hx]) (b2 hb)).mono fun u w2 ⟨hu,hB⟩=>⟨hu,hC.trans (hB.mono hC.size),hB⟩
  ·rw [b3 hb];exact .v _
 ·intro vs w1 hC hR;obtain ⟨E1,st1⟩:=S1
  have e1:st1=S.st:=e1
  subst e1
  have G1:=frame vs w1 n E1 (Nat.le_refl _) hC F1 fun j t x hj _ _=>hR j hj
  exact HW_drw.V2.mono' (xK _ _ _ _ h1 ⟨ρ,xs,G1⟩) fun l2 w2 h2=>h2
theorem lS {f:FuncId} {args args':List HV} {x:Value} {K:HV→Prop} (hc:aK P f=true) (H:HFun P f args' (fun h st=>h=.v x)) (hl:Lends T.st args args') (hK:K (.v x)):zQ8 P f args T K :=
 ⟨hc,.v x,hK,fun c look w ρ xs vs G R=>Ret.mono (H w vs (qAh G R hl)) fun v w' ⟨B,h,st,h8,q,ρ',xs',G',hr⟩=>⟨by subst q;have:=bN hr;subst this;exact .v _,B⟩⟩
end
end Go.Eng
end

section
namespace Go.Eng
open Go Go.RowKit
section
variable {P:Program} {T:HS}
end
end Go.Eng
end

section
namespace Go.Eng
open Go Go.RowKit
theorem zS (t:Nat):hlk [] t=none:=nr rfl
theorem zM (k:Nat) (v:HV) (r:bP) (t:Nat):hlk ((k,v) :: r) t=if k=t then some v else hlk r t:=nr rfl
theorem zX (t:Nat):rlk [] t=none:=nr rfl
theorem zU (k:Nat) (v:Row) (r:aJ) (t:Nat):rlk ((k,v) :: r) t=if k=t then some v else rlk r t:=nr rfl
theorem zCs (l:bP) (t:Nat):hev l (.tmp t)=hlk l t:=nr rfl
theorem qRs (l:bP) (v:Value):hev l (.const v)=some (.v v):=nr rfl
theorem qL5 (l:bP) (g:Nat):hev l (.global g)=some (.v (.pointer (some ⟨g,0,none⟩))):=nr rfl
theorem qXh (l:bP) (f:FuncId):hev l (.func f)=some (.v (.func (.func f) #[] #[])):=nr rfl
theorem qXg (l:bP):mS l []=some []:=nr rfl
theorem qRr (l:bP) (x:Operand) (r:List Operand):mS l (x :: r)=match hev l x with|some v=>(match mS l r with|some vs=>some (v :: vs)|none=>none)|none=>none:=nr rfl
theorem zJe (x:Value):qFg (some (.v x))=some x:=nr rfl
theorem qQ2  : qFg none=none:=nr rfl
theorem qWi (fr:Bool) (xs:List (List FV)):qFg (some (.lst fr xs))=none:=nr rfl
theorem qWh (i:Nat):qFg (some (.own i))=none:=nr rfl
theorem qWg (i s j k:Nat):qFg (some (.ptr i s j k))=none:=nr rfl
theorem qWj (fr:Bool) (xs:List (List FV)) (s j k:Nat):qFg (some (.elt fr xs s j k))=none:=nr rfl
theorem qWk (cs:List HV):qFg (some (.agg cs))=none:=nr rfl
theorem qWf (cs:List HV):qFg (some (.tup cs))=none:=nr rfl
theorem zB4 (i s o n:Nat):qFg (some (.vw i s o n))=none:=nr rfl
theorem qQ3  : qFg (some .junk)=none:=nr rfl
theorem qMx (S:HS) (id:Nat) (P:Program) (o:Op) (c:Prop) (v:Value):qD5 S id P o (some (c,v))=.go c (.v v) S:=nr rfl
theorem qMy (S:HS) (id:Nat) (P:Program) (o:Op):qD5 S id P o none=jC P S id o:=nr rfl
theorem zJs (P:Program) (S:HS) (id:Nat) (o:Op):hop P S id o=qD5 S id P o (aY P (lo S.env) o):=nr rfl
theorem qRv (P:Program) (S:HS) (id:Nat) (x:Operand):jC P S id (.move x)=vV S (hev S.env x):=nr rfl
theorem qGr (P:Program) (S:HS) (id:Nat) (x:Operand):jC P S id (.assign x)=vV S (hev S.env x):=nr rfl
theorem qRt (P:Program) (S:HS) (id:Nat) (c a b:Operand):jC P S id (.pick c a b)=qD6 S (hev S.env c) (hev S.env a) (hev S.env b):=nr rfl
theorem qD3 (P:Program) (S:HS) (id:Nat) (x:Operand) (i:Nat):jC P S id (.extract x i)=lU S i (hev S.env x):=nr rfl
theorem qMb (P:Program) (S:HS) (id:Nat) (t:TypeId) (x:Operand) (f:Nat):jC P S id (.field t x f)=sD S (xB P t f) (hev S.env x):=nr rfl
theorem qMc (P:Program) (S:HS) (id:Nat) (t:TypeId) (x:Operand) (f:Nat):jC P S id (.fieldAddr t x f)=sE S (eT P t f) (hev S.env x):=nr rfl
theorem qRu (P:Program) (S:HS) (id:Nat) (x:Operand):jC P S id (.nilCheck x)=qPe S (hev S.env x):=nr rfl
theorem qMa (P:Program) (S:HS) (id:Nat) (t:TypeId) (x i:Operand):jC P S id (.indexAddr t x i)=mT S (cG P t) (qTd P t) (hev S.env x) (hev S.env i):=nr rfl
theorem qL7 (P:Program) (S:HS) (id:Nat) (t:TypeId) (x:Operand) (l h:Option Operand):jC P S id (.slice t x l h none)=pU S (cG P t) l h (hev S.env x):=nr rfl
theorem qRw (P:Program) (S:HS) (id:Nat) (t:TypeId) (x:Operand):jC P S id (.load t x)=rP S (cE P t) (hev S.env x):=nr rfl
theorem qL6 (P:Program) (S:HS) (id:Nat) (t:TypeId) (x y:Operand):jC P S id (.store t x y)=wX S (cE P t) (hev S.env x) (hev S.env y):=nr rfl
theorem qMg (P:Program) (S:HS) (id:Nat) (t:TypeId):jC P S id (.alloc t)=wZ S id t (fE P t):=nr rfl
theorem qXl (P:Program) (S:HS) (id:Nat) (t:TypeId) (x:Operand):jC P S id (.box t x)=qX1 S id t (hev S.env x):=nr rfl
theorem qMf (P:Program) (S:HS) (id:Nat) (t:TypeId) (ps:Array (Nat × Operand)):jC P S id (.build t ps)=vH S (dN P t) (eP P t) (fE P t) (kN S.env ps.toList):=nr rfl
theorem qGq (P:Program) (S:HS) (id:Nat) (t n:TypeId) (ps:Array (Nat × Operand)):jC P S id (.buildSlice t n ps)=rV S id n (qJ P t) (kN S.env ps.toList):=nr rfl
theorem qL8 (P:Program) (S:HS) (id:Nat) (t:TypeId) (x y:Operand):jC P S id (.makeSlice t x y)=qGz S id (qJ P t) (hev S.env x) (hev S.env y):=nr rfl
theorem qXj (P:Program) (S:HS) (id:Nat) (args:Array Operand) (ats:Array TypeId):jC P S id (.call ⟨.builtin .len,args,ats⟩)=match mS S.env args.toList with|some [h]=>qM4 S (cA ((cG P (gK ats)).isSome=true∧ats.size=1)) (some h)|_=>.bad:=nr rfl
theorem qXm (P:Program) (S:HS) (id:Nat) (args:Array Operand) (ats:Array TypeId):jC P S id (.call ⟨.builtin .append,args,ats⟩)=oT S id (ats == #[gK ats,gK ats]) (zGl P ats) (qJ P (gK ats)) (mS S.env args.toList):=nr rfl
theorem qMe (P:Program) (S:HS) (id:Nat) (f:FuncId) (args:Array Operand) (ats:Array TypeId):jC P S id (.call ⟨.value (.func f),args,ats⟩)=qG4 f (mS S.env args.toList):=nr rfl
theorem qXk (P:Program) (S:HS) (id:Nat) (t:TypeId) (x y:Operand) (u:TypeId):jC P S id (.binOp .eql t x y u)=hEq S (qHg P t) t false (hev S.env x) (hev S.env y):=nr rfl
theorem qXi (P:Program) (S:HS) (id:Nat) (t:TypeId) (x y:Operand) (u:TypeId):jC P S id (.binOp .neq t x y u)=hEq S (qHg P t) t true (hev S.env x) (hev S.env y):=nr rfl
theorem qRy (P:Program) (S:HS) (id:Nat) (s d:TypeId) (x:Operand):jC P S id (.convert s d x)=rU S (xG P s d) (qN1 P s d) (hev S.env x):=nr rfl
theorem qXr (S:HS) (h:HV):vV S (some h)=.go True h S:=nr rfl
theorem qXo (S:HS) (t:Bool) (a b:HV):qD6 S (some (.v (.bool t))) (some a) (some b)=.go True (bif t then a else b) S:=nr rfl
theorem qG1 (S:HS) (i:Nat) (hs:List HV):lU S i (some (.tup hs))=match hs[i]? with|some h=>.go True h S|none=>.bad:=nr rfl
theorem qL9 (P:Program) (S:HS) (id:Nat) (t:TypeId) (x i:Operand):jC P S id (.index t x i)=nC S (qS0 P t) (hev S.env x) (hev S.env i):=nr rfl
theorem qD8 (S:HS) (m q:Nat) (hs:List HV) (k:IntKind) (n:Int):nC S (some (m,some q)) (some (.agg hs)) (some (.v (.int k n)))=.go (cA (0≤n∧n < m)) (.agg ((hs.drop (n.toNat * q)).take q)) S:=nr rfl
theorem qG0 (S:HS) (m:Nat) (hs:List HV) (k:IntKind) (n:Int):nC S (some (m,none)) (some (.agg hs)) (some (.v (.int k n)))=match hs[n.toNat]? with|some h=>.go (cA (0≤n∧n < m)) h S|none=>.bad:=nr rfl
theorem qNg (S:HS) (off:Nat) (hs:List HV):sD S (some (off,none)) (some (.agg hs))=match hs[off]? with|some h=>.go True h S|none=>.bad:=nr rfl
theorem qNf (S:HS) (off n:Nat) (hs:List HV):sD S (some (off,some n)) (some (.agg hs))=.go (cA (off + n≤hs.length)) (.agg ((hs.drop off).take n)) S:=nr rfl
theorem qNh (S:HS) (off id sz i k:Nat):sE S (some off) (some (.ptr id sz i k))=.go True (.ptr id sz i (k + off)) S:=nr rfl
theorem qNi (S:HS) (off:Nat) (fr:Bool) (xs:List (List FV)) (sz i k:Nat):sE S (some off) (some (.elt fr xs sz i k))=.go True (.elt fr xs sz i (k + off)) S:=nr rfl
theorem qXp (S:HS) (id sz i k:Nat):qPe S (some (.ptr id sz i k))=.go True (.ptr id sz i k) S:=nr rfl
theorem qXq (S:HS) (fr:Bool) (xs:List (List FV)) (sz i k:Nat):qPe S (some (.elt fr xs sz i k))=.go True (.elt fr xs sz i k) S:=nr rfl
theorem qM6 (S:HS) (id:Nat) (us ua:Option (Nat × Nat)) (kk:IntKind) (n:Int):mT S us ua (some (.own id)) (some (.v (.int kk n)))=oS S id n us (rlk S.st id):=nr rfl
theorem qM7 (S:HS) (fr:Bool) (xs:List (List FV)) (us ua:Option (Nat × Nat)) (kk:IntKind) (n:Int):mT S us ua (some (.lst fr xs)) (some (.v (.int kk n)))=rS S fr xs n us:=nr rfl
theorem qM5 (S:HS) (id sz i k:Nat) (us ua:Option (Nat × Nat)) (kk:IntKind) (n:Int):mT S us ua (some (.ptr id sz i k)) (some (.v (.int kk n)))=rR S id sz i k n ua:=nr rfl
theorem qM8 (S:HS) (fr:Bool) (xs:List (List FV)) (sz i k:Nat) (us ua:Option (Nat × Nat)) (kk:IntKind) (n:Int):mT S us ua (some (.elt fr xs sz i k)) (some (.v (.int kk n)))=rT S fr xs sz i k n ua:=nr rfl
theorem qNb (S:HS) (id:Nat) (n:Int) (e sz:Nat) (nw:Bool) (ty s:Nat) (els:List (List FV)):oS S id n (some (e,sz)) (some (.sl nw ty s els))=.go (cA (sz=s∧0≤n∧n < els.length)) (.ptr id s n.toNat 0) S:=nr rfl
theorem qNd (S:HS) (fr:Bool) (xs:List (List FV)) (n:Int) (e sz:Nat):rS S fr xs n (some (e,sz))=.go (cA (0≤n∧n < xs.length)∧Wid sz xs) (.elt fr xs sz n.toNat 0) S:=nr rfl
theorem qNc (S:HS) (id sz i k:Nat) (n:Int) (len size:Nat):rR S id sz i k n (some (len,size))=.go (cA (0≤n∧n < len)) (.ptr id sz i (k + n.toNat * size)) S:=nr rfl
theorem qNe (S:HS) (fr:Bool) (xs:List (List FV)) (sz i k:Nat) (n:Int) (len size:Nat):rT S fr xs sz i k n (some (len,size))=.go (cA (0≤n∧n < len)) (.elt fr xs sz i (k + n.toNat * size)) S:=nr rfl
theorem zCt (S:HS) (c:Prop) (i s o n:Nat):qM4 S c (some (.vw i s o n))=.go c (.v (.int .i64 n)) S:=nr rfl
theorem qMt (S:HS) (us:Option (Nat × Nat)) (l h:Option Operand) (id:Nat):pU S us l h (some (.own id))=rM S id (kP (lo S.env) l 0) (kP (lo S.env) h (zM3 (rlk S.st id))) us (rlk S.st id):=nr rfl
theorem qR2 (S:HS) (us:Option (Nat × Nat)) (l h:Option Operand) (id sz off n:Nat):pU S us l h (some (.vw id sz off n))=rL S id sz off (kP (lo S.env) l 0) (kP (lo S.env) h n) us (rlk S.st id):=nr rfl
theorem qMv (S:HS) (id:Nat) (a b:Int) (e sz:Nat) (nw:Bool) (ty s:Nat) (els:List (List FV)):rM S id (some a) (some b) (some (e,sz)) (some (.sl nw ty s els))=.go (cA (sz=s∧0≤a∧a≤b∧b≤els.length)) (.vw id s a.toNat (b.toNat - a.toNat)) S:=nr rfl
theorem qMu (S:HS) (id sz off:Nat) (a b:Int) (e sz':Nat) (nw:Bool) (ty s:Nat) (els:List (List FV)):rL S id sz off (some a) (some b) (some (e,sz')) (some (.sl nw ty s els))=.go (cA (sz'=sz∧s=sz∧0≤a∧a≤b∧off + b≤els.length)) (.vw id sz (off + a.toNat) (b.toNat - a.toNat)) S:=nr rfl
theorem zA7 (nw:Bool) (ty s:Nat) (els:List (List FV)):zM3 (some (.sl nw ty s els))=els.length:=nr rfl
theorem qR9 (S:HS) (id s off m:Nat) (us ua:Option (Nat × Nat)) (kk:IntKind) (n:Int):mT S us ua (some (.vw id s off m)) (some (.v (.int kk n)))=rQ S id s off m n us (rlk S.st id):=nr rfl
theorem qM9 (S:HS) (id s off m:Nat) (n:Int) (e sz:Nat) (nw:Bool) (ty s':Nat) (els:List (List FV)):rQ S id s off m n (some (e,sz)) (some (.sl nw ty s' els))=.go (cA (sz=s∧s'=s∧0≤n∧n < m)) (.ptr id s (off + n.toNat) 0) S:=nr rfl
theorem qQu (st:aJ) (sz id s off n:Nat):kQ st sz (.vw id s off n)=match rlk st id with|some (.sl _ _ s' els)=>some (cA (s=sz∧s'=sz),(els.drop off).take n)|_=>none:=nr rfl
theorem qRz (i s o n:Nat):dQ (.vw i s o n)=some [.vw i s o n]:=nr rfl
theorem zCj (i s o n:Nat):(HV.vw i s o n).one=true:=nr rfl
theorem gC (p:Nat→Bool) (i s o n:Nat):HV.kill p (.vw i s o n)=bif p i then .junk else .vw i s o n:=by rw [HV.kill]
theorem qHy (m:Nat→Option Nat) (i s o n:Nat):HV.ren m (.vw i s o n)=match m i with|some j=>.vw j s o n|none=>.junk:=by rw [HV.ren];cases m i <;> rfl
theorem oQ (id:Nat) (x0:HV) (i s o n:Nat):HV.sub id x0 (.vw i s o n)=if i=id then zF5 x0 s o n else .vw i s o n:=by rw [HV.sub]
theorem qQm (i s o n:Nat):uG (.vw i s o n)=[]:=nr rfl
theorem qK2 (i s o n:Nat):yZ (.vw i s o n)=[]:=nr rfl
theorem qXt (S:HS) (c:Prop) (id:Nat):qM4 S c (some (.own id))=qD7 S c (rlk S.st id):=nr rfl
theorem qXu (S:HS) (c:Prop) (fr:Bool) (xs:List (List FV)):qM4 S c (some (.lst fr xs))=.go c (.v (.int .i64 xs.length)) S:=nr rfl
theorem qXv (S:HS) (c:Prop) (nw:Bool) (ty s:Nat) (els:List (List HV)):qD7 S c (some (.hl nw ty s els))=.go c (.v (.int .i64 els.length)) S:=nr rfl
theorem qNa (S:HS) (id:Nat) (n:Int) (e sz:Nat) (nw:Bool) (ty s:Nat) (els:List (List HV)):oS S id n (some (e,sz)) (some (.hl nw ty s els))=.go (cA (sz=s∧0≤n∧n < els.length)) (.ptr id s n.toNat 0) S:=nr rfl
theorem qXw (S:HS) (c:Prop) (nw:Bool) (ty s:Nat) (els:List (List FV)):qD7 S c (some (.sl nw ty s els))=.go c (.v (.int .i64 els.length)) S:=nr rfl
theorem qR3 (S:HS) (us:Option (Nat × Nat)) (l h:Option Operand) (fr:Bool) (xs:List (List FV)):pU S us l h (some (.lst fr xs))=rN S fr xs (kP (lo S.env) l 0) (kP (lo S.env) h xs.length) us:=nr rfl
theorem qMw (S:HS) (fr:Bool) (xs:List (List FV)) (a b:Int) (e sz:Nat):rN S fr xs (some a) (some b) (some (e,sz))=.go (cA (0≤a∧a≤b∧b≤xs.length)∧Wid sz xs) (.lst fr ((xs.take b.toNat).drop a.toNat)) S:=nr rfl
theorem qR4 (S:HS) (kt:Option (Option Nat)) (id sz i k:Nat):rP S kt (some (.ptr id sz i k))=lT S sz i k kt (rlk S.st id):=nr rfl
theorem qR5 (S:HS) (kt:Option (Option Nat)) (fr:Bool) (xs:List (List FV)) (sz i k:Nat):rP S kt (some (.elt fr xs sz i k))=sC S xs i k kt:=nr rfl
theorem qR6 (S:HS) (sz i k:Nat) (nw:Bool) (ty s:Nat) (els:List (List FV)):lT S sz i k (some none) (some (.sl nw ty s els))=.go (cA (sz=s∧i < els.length∧k < (els.getD i []).length)) ((els.getD i []).getD k default).h S:=nr rfl
theorem qMz (S:HS) (sz i k n:Nat) (nw:Bool) (ty s:Nat) (els:List (List FV)):lT S sz i k (some (some n)) (some (.sl nw ty s els))=.go (cA (sz=s∧i < els.length∧k + n≤(els.getD i []).length)) (.agg ((((els.getD i []).drop k).take n).map FV.h)) S:=nr rfl
theorem qR8 (S:HS) (sz i k:Nat) (nw:Bool) (ty:Nat) (cells:List HV):lT S sz i k (some none) (some (.bx nw ty cells))=.go (cA (i=0∧k < cells.length)) (cells.getD k .junk) S:=nr rfl
theorem qM1 (S:HS) (sz i k n:Nat) (nw:Bool) (ty:Nat) (cells:List HV):lT S sz i k (some (some n)) (some (.bx nw ty cells))=.go (cA (i=0∧k + n≤cells.length)) (.agg ((cells.drop k).take n)) S:=nr rfl
theorem qR7 (S:HS) (sz i k:Nat) (nw:Bool) (ty s:Nat) (els:List (List HV)):lT S sz i k (some none) (some (.hl nw ty s els))=.go (cA (sz=s∧i < els.length∧k < (els.getD i []).length)) ((els.getD i []).getD k .junk) S:=nr rfl
theorem qM0 (S:HS) (sz i k n:Nat) (nw:Bool) (ty s:Nat) (els:List (List HV)):lT S sz i k (some (some n)) (some (.hl nw ty s els))=.go (cA (sz=s∧i < els.length∧k + n≤(els.getD i []).length)) (.agg (((els.getD i []).drop k).take n)) S:=nr rfl
theorem qMr (S:HS) (id sz i k:Nat) (kt:Option (Option Nat)) (h:HV) (nw:Bool) (ty s:Nat) (els:List (List HV)):oR S id sz i k kt h (some (.hl nw ty s els))=rJ S id sz i k nw ty s els kt h:=nr rfl
theorem qGv (S:HS) (id sz i k:Nat) (nw:Bool) (ty s:Nat) (els:List (List HV)) (h:HV):rJ S id sz i k nw ty s els (some none) h=.go (cA (sz=s∧i < els.length∧k < (els.getD i []).length∧h.one=true)) (.v undef) ⟨S.env,iV id (.hl nw ty s (els.set i ((els.getD i []).set k h))) S.st⟩:=nr (by cases h <;> rfl)
theorem qGw (S:HS) (id sz i k n:Nat) (nw:Bool) (ty s:Nat) (els:List (List HV)) (hs:List HV):rJ S id sz i k nw ty s els (some (some n)) (.agg hs)=.go (cA (sz=s∧i < els.length∧hs.length=n∧k + n≤(els.getD i []).length)) (.v undef) ⟨S.env,iV id (.hl nw ty s (els.set i (splice (els.getD i []) k hs))) S.st⟩:=nr rfl
theorem qM2 (S:HS) (xs:List (List FV)) (i k:Nat):sC S xs i k (some none)=.go (cA (i < xs.length∧k < (xs.getD i []).length)) ((xs.getD i []).getD k default).h S:=nr rfl
theorem qM3 (S:HS) (xs:List (List FV)) (i k n:Nat):sC S xs i k (some (some n))=.go (cA (i < xs.length∧k + n≤(xs.getD i []).length)) (.agg ((((xs.getD i []).drop k).take n).map FV.h)) S:=nr rfl
theorem qR1 (S:HS) (kt:Option (Option Nat)) (id sz i k:Nat) (h:HV):wX S kt (some (.ptr id sz i k)) (some h)=oR S id sz i k kt h (rlk S.st id):=nr rfl
theorem qMq (S:HS) (id sz i k:Nat) (kt:Option (Option Nat)) (h:HV) (nw:Bool) (ty s:Nat) (els:List (List FV)):oR S id sz i k kt h (some (.sl nw ty s els))=rH S id sz i k nw ty s els kt h:=nr rfl
theorem qMs (S:HS) (id sz i k:Nat) (kt:Option (Option Nat)) (h:HV) (nw:Bool) (ty:Nat) (cells:List HV):oR S id sz i k kt h (some (.bx nw ty cells))=rK S id i k nw ty cells kt h:=nr rfl
theorem qGt (S:HS) (id sz i k:Nat) (nw:Bool) (ty s:Nat) (els:List (List FV)) (h:HV):rH S id sz i k nw ty s els (some none) h=match h.f with|some f=>.go (cA (sz=s∧i < els.length∧k < (els.getD i []).length∧f.one=true)) (.v undef) ⟨S.env,iV id (.sl nw ty s (els.set i ((els.getD i []).set k f))) S.st⟩|none=>.bad:=nr rfl
theorem qGu (S:HS) (id sz i k n:Nat) (nw:Bool) (ty s:Nat) (els:List (List FV)) (hs:List HV):rH S id sz i k nw ty s els (some (some n)) (.agg hs)=match HV.fs hs with|some fs=>.go (cA (sz=s∧i < els.length∧fs.length=n∧k + n≤(els.getD i []).length)) (.v undef) ⟨S.env,iV id (.sl nw ty s (els.set i (splice (els.getD i []) k fs))) S.st⟩|none=>.bad:=nr rfl
theorem qGx (S:HS) (id i k:Nat) (nw:Bool) (ty:Nat) (cells:List HV) (h:HV):rK S id i k nw ty cells (some none) h=.go (cA (i=0∧k < cells.length∧h.one=true)) (.v undef) ⟨S.env,iV id (.bx nw ty (cells.set k h)) S.st⟩:=nr (by cases h <;> rfl)
theorem qGy (S:HS) (id i k n:Nat) (nw:Bool) (ty:Nat) (cells:List HV) (hs:List HV):rK S id i k nw ty cells (some (some n)) (.agg hs)=.go (cA (i=0∧hs.length=n∧k + n≤cells.length)) (.v undef) ⟨S.env,iV id (.bx nw ty (splice cells k hs)) S.st⟩:=nr rfl
theorem qSi (S:HS) (id:Nat) (t:TypeId) (z:Array Value):wZ S id t (some z)=.go (cA (pP z=true)) (.ptr id z.size 0 0) ((S.kill (only id)).row id (.bx true t (z.toList.map .v))):=nr rfl
theorem zC0 (S:HS) (id:Nat) (t:TypeId) (h:HV):qX1 S id t (some h)=qNo S id t (dQ h):=nr rfl
theorem qX0 (S:HS) (id:Nat) (t:TypeId) (cs:List HV):qNo S id t (some cs)=.go True (.ptr id cs.length 0 0) ((S.kill (only id)).row id (.bx true t (cs.map (HV.kill (only id))))):=nr rfl
theorem qKt (l:bP):kN l []=some []:=nr rfl
theorem qGj (l:bP) (i:Nat) (x:Operand) (r:List (Nat × Operand)):kN l ((i,x) :: r)=match hev l x with|some v=>(match kN l r with|some vs=>some ((i,v) :: vs)|none=>none)|none=>none:=nr rfl
theorem qRq (nK:Nat→Option (Nat × Nat)) (cells:List HV):qD2 nK cells []=some (True,cells):=nr rfl
theorem qL4 (nK:Nat→Option (Nat × Nat)) (cells:List HV) (i:Nat) (h:HV) (r:List (Nat × HV)):qD2 nK cells ((i,h) :: r)=match nK i with|some (off,n)=>(match dQ h with|some cs=>(match qD2 nK (splice cells off cs) r with|some (c,out)=>some (cA (cs.length=n∧off + n≤cells.length)∧c,out)|none=>none)|none=>none)|none=>none:=nr rfl
theorem qSh (S:HS) (ok:Bool) (nK:Nat→Option (Nat × Nat)) (z:Array Value) (ps:List (Nat × HV)):vH S ok nK (some z) (some ps)=rW S (ok && pP z) (qD2 nK (z.toList.map .v) ps):=nr rfl
theorem qNn (S:HS) (ok:Bool) (c:Prop) (cs:List HV):rW S ok (some (c,cs))=.go (cA (ok=true)∧c) (.agg cs) S:=nr rfl
theorem qXb (sz:Nat) (els:List (List FV)):qUd sz els []=some (True,els):=nr rfl
theorem qRl (sz:Nat) (els:List (List FV)) (i:Nat) (h:HV) (r:List (Nat × HV)):qUd sz els ((i,h) :: r)=match dQ h with|some cs=>(match HV.fs cs with|some fs=>(match qUd sz (els.set i fs) r with|some (c,out)=>some (cA (fs.length=sz∧i < els.length)∧c,out)|none=>none)|none=>none)|none=>none:=nr rfl
theorem qNk (S:HS) (id n e sz by':Nat) (z:Array Value) (ps:List (Nat × HV)):rV S id n (some (e,sz,by',z)) (some ps)=match pP z && z.size == sz with|true=>nU S id e sz n z ps (qYs ps)|false=>.bad:=nr rfl
theorem qYr  : qYs []=true:=nr rfl
theorem qSz (i:Nat) (h:HV) (r:List (Nat × HV)):qYs ((i,h) :: r)=match dQ h with|some cs=>((HV.fs cs).isSome && qYs r)|none=>qYs r:=nr rfl
theorem qRm (sz:Nat) (els:List (List HV)):qD0 sz els []=some (True,els):=nr rfl
theorem qL3 (sz:Nat) (els:List (List HV)) (i:Nat) (h:HV) (r:List (Nat × HV)):qD0 sz els ((i,h) :: r)=match dQ h with|some cs=>(match qD0 sz (els.set i cs) r with|some (c,out)=>some (cA (cs.length=sz∧i < els.length)∧c,out)|none=>none)|none=>none:=nr rfl
theorem zJw (id:Nat) (els:List (List HV)):hkl id els=els.map (List.map (HV.kill (only id))):=nr rfl
theorem qNl (S:HS) (id e sz n:Nat) (z:Array Value) (ps:List (Nat × HV)):nU S id e sz n z ps true=pY S id e sz n (qUd sz (List.replicate n (z.toList.map .v)) ps):=nr rfl
theorem qNm (S:HS) (id e sz n:Nat) (z:Array Value) (ps:List (Nat × HV)):nU S id e sz n z ps false=pX S id e sz n (qD0 sz (List.replicate n (z.toList.map .v)) ps):=nr rfl
theorem qG5 (S:HS) (id e sz n:Nat) (c:Prop) (els:List (List HV)):pX S id e sz n (some (c,els))=.go (cA (n * sz≤16777216∧n≤16777216)∧c) (.own id) ((S.kill (only id)).row id (.hl true e sz (hkl id els))):=nr rfl
theorem qG6 (S:HS) (id e sz n:Nat) (c:Prop) (els:List (List FV)):pY S id e sz n (some (c,els))=.go (cA (n * sz≤16777216∧n≤16777216)∧c) (.own id) ((S.kill (only id)).row id (.sl true e sz els)):=nr rfl
theorem qXs (S:HS) (id e sz by':Nat) (z:Array Value) (n m:Int):qGz S id (some (e,sz,by',z)) (some (.v (.int .i64 n))) (some (.v (.int .i64 m)))=match pP z && z.size == sz with|true=>.go (cA (n=m∧0≤n∧by' * n.toNat≤281474976710656∧n.toNat≤maxLen)) (.own id) ((S.kill (only id)).row id (.sl true e sz (List.replicate n.toNat (z.toList.map .v))))|false=>.bad:=nr rfl
theorem qK6 (st:aJ) (sz id:Nat):kQ st sz (.own id)=match rlk st id with|some (.sl _ _ s els)=>some (cA (s=sz),els)|_=>none:=nr rfl
theorem qK8 (st:aJ) (sz:Nat) (fr:Bool) (xs:List (List FV)):kQ st sz (.lst fr xs)=some (Wid sz xs,xs):=nr rfl
theorem qK7 (st:aJ) (sz:Nat):kQ st sz (.v (.slice none 0 0))=some (True,[]):=nr rfl
theorem qMd (P:Program) (S:HS) (id:Nat) (t:Nat) (args:Array Operand) (ats:Array TypeId):jC P S id (.call ⟨.value (.tmp t),args,ats⟩)=qBz (fnH (hlk S.env t)) (mS S.env args.toList):=nr rfl
theorem zPt (f:FuncId):fnH (some (.v (.func (.func f) #[] #[])))=some f:=nr rfl
theorem qG3 (f:FuncId) (a:Option (List HV)):qBz (some f) a=qG4 f a:=nr rfl
theorem qRx (P:Program) (S:HS) (id:Nat) (args:Array Operand) (ats:Array TypeId):jC P S id (.call ⟨.builtin .copy,args,ats⟩)=qBj S (ats == #[gK ats,gK ats]) (cG P (gK ats)) (mS S.env args.toList):=nr rfl
theorem qSa (S:HS) (us:Option (Nat × Nat)) (id:Nat) (x:HV):qBj S true us (some [.own id,x])=pV S id 0 none none x us (rlk S.st id):=nr rfl
theorem qXy (S:HS) (us:Option (Nat × Nat)) (id s off n:Nat) (x:HV):qBj S true us (some [.vw id s off n,x])=pV S id off (some s) (some n) x us (rlk S.st id):=nr rfl
theorem qNj (S:HS) (id off:Nat) (x:HV) (e sz:Nat) (nw:Bool) (ty s:Nat) (els:List (List FV)):pV S id off none none x (some (e,sz)) (some (.sl nw ty s els))=match decide (sz=s) with|true=>wY S id s off els.length (s=s) nw ty els (kQ S.st s x)|false=>.bad:=nr rfl
theorem qSb (S:HS) (id off s0 n:Nat) (x:HV) (e sz:Nat) (nw:Bool) (ty s:Nat) (els:List (List FV)):pV S id off (some s0) (some n) x (some (e,sz)) (some (.sl nw ty s els))=match decide (sz=s) with|true=>wY S id s off n (s0=s) nw ty els (kQ S.st s x)|false=>.bad:=nr rfl
def cpy (els:List (List FV)) (off:Nat) (news:List (List FV)) (n:Nat):List (List FV):=splice els off (news.take n)
def cpn (news:List (List FV)) (n:Nat):Nat:=min news.length n
theorem qG2 (S:HS) (id sz off n:Nat) (ok:Prop) (nw:Bool) (ty:Nat) (els:List (List FV)) (c:Prop) (news:List (List FV)):wY S id sz off n ok nw ty els (some (c,news))=.go (c∧cA (off + n≤els.length∧0 < sz∧ok)) (.v (.int .i64 (cpn news n:Nat))) ⟨S.env,iV id (.sl nw ty sz (cpy els off news n)) S.st⟩:=nr rfl
theorem qG7 (S:HS) (nid:Nat) (same str:Bool) (e sz by':Nat) (z:Array Value) (id:Nat) (x:HV):oT S nid same str (some (e,sz,by',z)) (some [.own id,x])=match (same || str) && z.size == sz with|true=>qG9 S id e sz by' same x (qV9 same str S.st sz x) (rlk S.st id)|false=>.bad:=nr rfl
theorem qQv (st:aJ) (sz id:Nat):qK9 st sz (.own id)=match rlk st id with|some (.sl _ _ s els)=>some (cA (s=sz),els.map (List.map FV.h))|some (.hl _ _ s els)=>some (cA (s=sz),els)|_=>none:=nr rfl
theorem qQx (st:aJ) (sz:Nat) (fr:Bool) (xs:List (List FV)):qK9 st sz (.lst fr xs)=some (Wid sz xs,xs.map (List.map FV.h)):=nr rfl
theorem qQw (st:aJ) (sz:Nat):qK9 st sz (.v (.slice none 0 0))=some (True,[]):=nr rfl
theorem zDp (a b c d:Nat):(#[a,b] == #[c,d])=(a == c && b == d):=by rw [Bool.eq_iff_iff];simp
theorem zBv (str:Bool) (st:aJ) (sz:Nat) (x:HV):qV9 true str st sz x=kQ st sz x:=nr rfl
theorem zBw (st:aJ) (sz:Nat) (x:HV):qV9 false true st sz x=zBu x:=nr rfl
theorem qQt (s:ByteArray):zBu (.v (.string s))=some (True,lG s):=nr rfl
theorem qG8 (S:HS) (nid:Nat) (same str:Bool) (e sz by':Nat) (z:Array Value) (x:HV):oT S nid same str (some (e,sz,by',z)) (some [.v (.slice none 0 0),x])=match same && z.size == sz with|true=>qBk S nid e sz by' true [] (kQ S.st sz x)|false=>.bad:=nr rfl
theorem qX2 (S:HS) (id e sz by':Nat) (same:Bool) (x:HV) (news:Option (Prop × List (List FV))) (nw:Bool) (ty s:Nat) (els:List (List HV)):qG9 S id e sz by' same x news (some (.hl nw ty s els))=match same && (decide (ty=e) && decide (s=sz)) with|true=>qNp S id e sz by' nw els (qK9 S.st sz x)|false=>.bad:=nr rfl
theorem qX5 (S:HS) (id e sz by':Nat) (nw:Bool) (els news:List (List HV)) (c:Prop):qNp S id e sz by' nw els (some (c,news))=.go (c∧cA ((els.length + news.length) * by'≤140737488355328∧0 < by'∧0 < sz)) (.own id) ((S.kill (only id)).row id (.hl nw e sz (hkl id (els ++ news)))):=nr rfl
theorem qX3 (S:HS) (id e sz by':Nat) (same:Bool) (x:HV) (news:Option (Prop × List (List FV))) (nw:Bool) (ty s:Nat) (els:List (List FV)):qG9 S id e sz by' same x news (some (.sl nw ty s els))=match decide (ty=e) && decide (s=sz) with|true=>qBk S id e sz by' nw els news|false=>.bad:=nr rfl
theorem qX4 (S:HS) (id e sz by':Nat) (nw:Bool) (els:List (List FV)) (c:Prop) (news:List (List FV)):qBk S id e sz by' nw els (some (c,news))=.go (c∧cA ((els.length + news.length) * by'≤140737488355328∧0 < by'∧0 < sz)) (.own id) ((S.kill (only id)).row id (.sl nw e sz (els ++ news))):=nr rfl
theorem qQ1  : sS []=some []:=nr rfl
theorem qLj (x:Value) (r:List HV):sS (.v x :: r)=match sS r with|some vs=>some (x :: vs)|none=>none:=nr rfl
theorem zJ4 (S:HS) (up:Bool) (t:TypeId) (neg:Bool) (xs ys:List HV):hEq S up t neg (some (.agg xs)) (some (.agg ys))=qUe t neg (sS xs) (sS ys):=nr rfl
theorem zCx (S:HS) (up:Bool) (t:TypeId) (neg:Bool) (a b c d:Nat):hEq S up t neg (some (.ptr a b c d)) (some (.v (.pointer none)))=.go (cA (up=true)) (.v (.bool neg)) S:=nr rfl
theorem zCy (S:HS) (up:Bool) (t:TypeId) (neg fr:Bool) (xs:List (List FV)) (a b c:Nat):hEq S up t neg (some (.elt fr xs a b c)) (some (.v (.pointer none)))=.go (cA (up=true)) (.v (.bool neg)) S:=nr rfl
theorem qSc (S:HS) (ok okB:Bool) (s:ByteArray):rU S ok okB (some (.v (.string s)))=.bytes okB s:=nr rfl
theorem qSd (S:HS) (ok okB:Bool) (id:Nat):rU S ok okB (some (.own id))=qBy S ok (rlk S.st id):=nr rfl
theorem qSe (S:HS) (ok okB fr:Bool) (xs:List (List FV)):rU S ok okB (some (.lst fr xs))=pW S ok (qA xs):=nr rfl
theorem qSf (S:HS) (ok nw:Bool) (t s:Nat) (els:List (List FV)):qBy S ok (some (.sl nw t s els))=pW S ok (qA els):=nr rfl
theorem qSg (S:HS) (ok:Bool) (ns:List Int):pW S ok (some ns)=.go (cA (ok=true)) (.v (.string (strOfNums ns))) S:=nr rfl
theorem qN3  : qA []=some []:=nr rfl
theorem qHb (n:Int) (r:List (List FV)):qA ([.v (.int .u8 n)] :: r)=match qA r with|some ns=>some (n :: ns)|none=>none:=nr rfl
theorem zCz (t:TypeId) (neg:Bool) (xs ys:List Value):qUe t neg (some xs) (some ys)=.eqn t xs ys neg:=nr rfl
theorem qXz (f:FuncId) (hs:List HV):qG4 f (some hs)=.call f hs:=nr rfl
theorem zDo (ats:Array TypeId):gK ats=ats.getD 0 0:=nr rfl
theorem qQq (z:Array Value):pP z=z.toList.all (fun v=>v.oneCell'):=nr rfl
theorem zSv (x:Value):(HV.v x).f=some (.v x):=nr rfl
theorem zJ1 (i:Nat):(HV.own i).f=none:=nr rfl
theorem zPs (i s o n:Nat):(HV.vw i s o n).f=none:=nr rfl
theorem zJ0 (i s j k:Nat):(HV.ptr i s j k).f=none:=nr rfl
theorem zJ2 (fr:Bool) (xs:List (List FV)):(HV.lst fr xs).f=some (.lst fr xs):=nr rfl
theorem zCr  : HV.fs []=some []:=nr rfl
theorem qXf (h:HV) (r:List HV):HV.fs (h :: r)=match h.f,HV.fs r with|some f,some fs=>some (f :: fs)|_,_=>none:=nr rfl
theorem zKc (x:Value):(FV.v x).one=x.oneCell':=nr rfl
theorem qX6 (fr:Bool) (xs:List (List FV)):(FV.lst fr xs).one=true:=nr rfl
theorem zJt (x:Value):(HV.v x).one=x.oneCell':=nr rfl
theorem qW5 (fr:Bool) (xs:List (List FV)):(HV.lst fr xs).one=true:=nr rfl
theorem qW3 (i:Nat):(HV.own i).one=true:=nr rfl
theorem qW2 (i s j k:Nat):(HV.ptr i s j k).one=true:=nr rfl
theorem zSy (x:Value):(FV.v x).h=.v x:=nr rfl
theorem zLi (fr:Bool) (xs:List (List FV)):(FV.lst fr xs).h=.lst fr xs:=nr rfl
theorem zBr (k:IntKind) (n:Int):Value.oneCell' (.int k n)=true:=nr rfl
theorem qMk (k:IntKind) (n:Int):dQ (.v (.int k n))=some [.v (.int k n)]:=nr rfl
theorem qV6 (b:Bool):Value.oneCell' (.bool b)=true:=nr rfl
theorem qGs (b:Bool):dQ (.v (.bool b))=some [.v (.bool b)]:=nr rfl
theorem zBo (s:ByteArray):Value.oneCell' (.string s)=true:=nr rfl
theorem qMi (s:ByteArray):dQ (.v (.string s))=some [.v (.string s)]:=nr rfl
theorem qQp (a:Option Addr) (n c:Nat):Value.oneCell' (.slice a n c)=true:=nr rfl
theorem qD4 (a:Option Addr) (n c:Nat):dQ (.v (.slice a n c))=some [.v (.slice a n c)]:=nr rfl
theorem zBp (a:Option Addr):Value.oneCell' (.pointer a)=true:=nr rfl
theorem qMj (a:Option Addr):dQ (.v (.pointer a))=some [.v (.pointer a)]:=nr rfl
theorem qMp (cs:List HV):dQ (.agg cs)=some cs:=nr rfl
theorem qMo (fr:Bool) (xs:List (List FV)):dQ (.lst fr xs)=some [.lst fr xs]:=nr rfl
theorem qMm (i:Nat):dQ (.own i)=some [.own i]:=nr rfl
theorem qMl (i s j k:Nat):dQ (.ptr i s j k)=some [.ptr i s j k]:=nr rfl
theorem qPr {α:Type} (l:List α) (k:Nat) (cs:List α):splice l k cs=l.take k ++ cs ++ l.drop (k + cs.length):=nr rfl
theorem lK (e:bP) (s:aJ) (p:Nat→Bool):HS.kill ⟨e,s⟩ p=⟨mE p e,eN p s⟩:=nr rfl
theorem pH (e:bP) (s:aJ) (id:Nat) (r:Row):HS.row ⟨e,s⟩ id r=⟨e,(id,r) :: s⟩:=nr rfl
theorem qVf (e:bP) (s:aJ) (k:Nat) (h:HV):HS.set ⟨e,s⟩ (some k) h=⟨(k,h) :: e,s⟩:=nr rfl
theorem qVg (S:HS) (h:HV):HS.set S none h=S:=nr rfl
theorem pK (e:bP) (s:aJ) (d:Nat) (h:HV):HS.rep ⟨e,s⟩ d h=⟨wR d h e,s⟩:=nr rfl
theorem jB (d:Nat) (h:HV):wR d h []=[]:=nr rfl
theorem gU (d:Nat) (h:HV) (k:Nat) (x:HV) (r:bP):wR d h ((k,x) :: r)=if k=d then (k,h) :: r else (k,x) :: wR d h r:=nr rfl
theorem fC (p:Nat→Bool):mE p []=[]:=nr rfl
theorem dV (p:Nat→Bool) (k:Nat) (h:HV) (r:bP):mE p ((k,h) :: r)=(k,h.kill p) :: mE p r:=nr rfl
theorem eV (p:Nat→Bool):eN p []=[]:=nr rfl
theorem dS (p:Nat→Bool) (k:Nat) (h:Row) (r:aJ):eN p ((k,h) :: r)=bif p k then eN p r else (k,h.kill p) :: eN p r:=nr rfl
theorem fW (p:Nat→Bool) (nw:Bool) (t s:Nat) (xs:List (List FV)):(Row.sl nw t s xs).kill p=.sl nw t s xs:=nr rfl
theorem fX (p:Nat→Bool) (nw:Bool) (t s:Nat) (xs:List (List HV)):(Row.hl nw t s xs).kill p=.hl nw t s (xs.map (List.map (HV.kill p))):=nr rfl
theorem fY (p:Nat→Bool) (nw:Bool) (t:Nat) (cs:List HV):(Row.bx nw t cs).kill p=.bx nw t (cs.map (HV.kill p)):=nr rfl
theorem iS (p:Nat→Bool) (x:Value):HV.kill p (.v x)=.v x:=by rw [HV.kill]
theorem qLr (m:Nat→Option Nat) (x:Value):HV.ren m (.v x)=.v x:=by rw [HV.ren]
theorem vF (id:Nat) (x0:HV) (x:Value):HV.sub id x0 (.v x)=.v x:=by rw [HV.sub]
theorem eZ (p:Nat→Bool) (fr:Bool) (xs:List (List FV)):HV.kill p (.lst fr xs)=.lst fr xs:=by rw [HV.kill]
theorem wU (m:Nat→Option Nat) (fr:Bool) (xs:List (List FV)):HV.ren m (.lst fr xs)=.lst fr xs:=by rw [HV.ren]
theorem lP (id:Nat) (x0:HV) (fr:Bool) (xs:List (List FV)):HV.sub id x0 (.lst fr xs)=.lst fr xs:=by rw [HV.sub]
theorem fA (p:Nat→Bool) (fr:Bool) (xs:List (List FV)) (s j k:Nat):HV.kill p (.elt fr xs s j k)=.elt fr xs s j k:=by rw [HV.kill]
theorem qWz (m:Nat→Option Nat) (fr:Bool) (xs:List (List FV)) (s j k:Nat):HV.ren m (.elt fr xs s j k)=.elt fr xs s j k:=by rw [HV.ren]
theorem lQ (id:Nat) (x0:HV) (fr:Bool) (xs:List (List FV)) (s j k:Nat):HV.sub id x0 (.elt fr xs s j k)=.elt fr xs s j k:=by rw [HV.sub]
theorem dU (p:Nat→Bool):HV.kill p .junk=.junk:=by rw [HV.kill]
theorem qAq (m:Nat→Option Nat):HV.ren m .junk=.junk:=by rw [HV.ren]
theorem jN (id:Nat) (x0:HV):HV.sub id x0 .junk=.junk:=by rw [HV.sub]
theorem eY (p:Nat→Bool) (i:Nat):HV.kill p (.own i)=bif p i then .junk else .own i:=by rw [HV.kill]
theorem eX (p:Nat→Bool) (i s j k:Nat):HV.kill p (.ptr i s j k)=bif p i then .junk else .ptr i s j k:=by rw [HV.kill]
theorem fB (p:Nat→Bool) (cs:List HV):HV.kill p (.agg cs)=.agg (cs.map (HV.kill p)):=by rw [HV.kill]
theorem eW (p:Nat→Bool) (cs:List HV):HV.kill p (.tup cs)=.tup (cs.map (HV.kill p)):=by rw [HV.kill]
theorem wT (m:Nat→Option Nat) (i:Nat):HV.ren m (.own i)=match m i with|some j=>.own j|none=>.junk:=by rw [HV.ren];cases m i <;> rfl
theorem qDw (m:Nat→Option Nat) (i s j k:Nat):HV.ren m (.ptr i s j k)=match m i with|some i'=>.ptr i' s j k|none=>.junk:=by rw [HV.ren];cases m i <;> rfl
theorem wV (m:Nat→Option Nat) (cs:List HV):HV.ren m (.agg cs)=.agg (cs.map (HV.ren m)):=by rw [HV.ren]
theorem wS (m:Nat→Option Nat) (cs:List HV):HV.ren m (.tup cs)=.tup (cs.map (HV.ren m)):=by rw [HV.ren]
theorem lN (id:Nat) (x0:HV) (i:Nat):HV.sub id x0 (.own i)=if i=id then x0 else .own i:=by rw [HV.sub]
theorem lM (id:Nat) (x0:HV) (i s j k:Nat):HV.sub id x0 (.ptr i s j k)=if i=id then .junk else .ptr i s j k:=by rw [HV.sub]
theorem lR (id:Nat) (x0:HV) (cs:List HV):HV.sub id x0 (.agg cs)=.agg (cs.map (HV.sub id x0)):=by rw [HV.sub]
theorem lL (id:Nat) (x0:HV) (cs:List HV):HV.sub id x0 (.tup cs)=.tup (cs.map (HV.sub id x0)):=by rw [HV.sub]
theorem qCs (m:Nat→Option Nat) (nw:Bool) (t s:Nat) (xs:List (List FV)):(Row.sl nw t s xs).ren m=.sl nw t s xs:=nr rfl
theorem qCt (m:Nat→Option Nat) (nw:Bool) (t s:Nat) (xs:List (List HV)):(Row.hl nw t s xs).ren m=.hl nw t s (xs.map (List.map (HV.ren m))):=nr rfl
theorem qCu (m:Nat→Option Nat) (nw:Bool) (t:Nat) (cs:List HV):(Row.bx nw t cs).ren m=.bx nw t (cs.map (HV.ren m)):=nr rfl
theorem oF (id:Nat) (x0:HV) (nw:Bool) (t s:Nat) (xs:List (List FV)):(Row.sl nw t s xs).sub id x0=.sl nw t s xs:=nr rfl
theorem oG (id:Nat) (x0:HV) (nw:Bool) (t s:Nat) (xs:List (List HV)):(Row.hl nw t s xs).sub id x0=.hl nw t s (xs.map (List.map (HV.sub id x0))):=nr rfl
theorem oH (id:Nat) (x0:HV) (nw:Bool) (t:Nat) (cs:List HV):(Row.bx nw t cs).sub id x0=.bx nw t (cs.map (HV.sub id x0)):=nr rfl
theorem iR (id i:Nat):only id i=(i == id):=nr rfl
theorem qYh (n i:Nat):dH n i=(decide (n≤i) && decide (i < n + 8)):=by rw [Bool.eq_iff_iff];simp [dH]
theorem zPg (n i:Nat):sh n i=bif decide (i < 8) then some (n + i) else none:=by unfold sh;congr 1;rw [Bool.eq_iff_iff];simp
theorem zDq (e:bP) (s:aJ) (n:Nat) (st:aJ):HS.adds ⟨e,s⟩ n st=⟨mE (dH n) e,qC3 n st (eN (dH n) s)⟩:=nr rfl
theorem qP9 (n:Nat) (b:aJ):qC3 n [] b=b:=nr rfl
theorem qKh (n k:Nat) (r:Row) (t b:aJ):qC3 n ((k,r) :: t) b=(n + k,r.ren (sh n)) :: qC3 n t b:=nr rfl
theorem oK (e:bP) (s:aJ) (id:Nat) (x:HV):HS.rest ⟨e,s⟩ id x=⟨qYe id x e,qJp id x s⟩:=nr rfl
theorem lX (id:Nat) (x:HV):qYe id x []=[]:=nr rfl
theorem jQ (id:Nat) (x:HV) (k:Nat) (h:HV) (r:bP):qYe id x ((k,h) :: r)=(k,HV.sub id x h) :: qYe id x r:=nr rfl
theorem lJ (id:Nat) (x:HV):qJp id x []=[]:=nr rfl
theorem jH (id:Nat) (x:HV) (k:Nat) (h:Row) (r:aJ):qJp id x ((k,h) :: r)=if k=id then qJp id x r else (k,h.sub id x) :: qJp id x r:=nr rfl
theorem qU6 (id:Nat) (r:Row):iV id r []=[]:=nr rfl
theorem qPp (id:Nat) (r:Row) (k:Nat) (s:Row) (t:aJ):iV id r ((k,s) :: t)=if k=id then (k,r) :: t else (k,s) :: iV id r t:=nr rfl
theorem zCw (l:bP) (ds:List (Option Nat)):hG l ds none=.yes:=nr rfl
theorem zCv (l:bP) (ds:List (Option Nat)) (j:Nat) (want:Bool):hG l ds (some (j,want))=match ds[j]? with|some (some d)=>hGv d want (hlk l d)|_=>.bad:=nr rfl
theorem qXx (d:Nat) (want b:Bool):hGv d want (some (.v (.bool b)))=.ask d b want:=nr rfl
theorem zCu (d:Nat) (want:Bool) (vs:Array Value):hGv d want (some (.v (.tuple vs)))=.no:=nr rfl
theorem zJx (P:Program) (d:Option Nat) (S:HS) (K:HS→Prop) (c:Prop) (h:HV) (S':HS):qFv P d S K (.go c h S')=(c∧K (S'.set d h)):=nr rfl
theorem qXe (P:Program) (d:Option Nat) (S:HS) (K:HS→Prop) (f:FuncId) (args:List HV):qFv P d S K (.call f args)=HAt P f args S (fun h S'=>lY K (S'.set d h)):=nr rfl
theorem zCp (P:Program) (d:Option Nat) (S:HS) (K:HS→Prop) (t:TypeId) (x y:List Value) (neg:Bool):qFv P d S K (.eqn t x y neg)=∃ r,EqR P t x.toArray y.toArray r∧lY K (S.set d (.v (.bool (neg ^^ r)))):=nr rfl
theorem qRp (P:Program) (d:Option Nat) (S:HS) (K:HS→Prop) (ok:Bool) (s:ByteArray):qFv P d S K (.bytes ok s)=(cA (ok=true∧s.size≤9223372036854775807)∧K (S.set d (.lst true (lG s)))):=nr rfl
theorem zJy (P:Program) (N:Nat) (o:Oper) (S:HS) (K:HS→Prop):HGo P N o S K=zN7 P N o (mB S o.op) K:=nr rfl
theorem zCq (P:Program) (N:Nat) (o:Oper) (S:HS) (K:HS→Prop):zN7 P N o S K=match eQ N o.dst with|true=>qFv P o.dst S K (hop P S (qDu o.dst) o.op)|false=>False:=nr rfl
theorem qRg (S:HS) (x:Operand):mB S (.move x)=S:=nr rfl
theorem qGp (S:HS) (x:Operand):mB S (.assign x)=S:=nr rfl
theorem qRe (S:HS) (c a b:Operand):mB S (.pick c a b)=S:=nr rfl
theorem qDx (S:HS) (x:Operand) (i:Nat):mB S (.extract x i)=S:=nr rfl
theorem qLw (S:HS) (t:TypeId) (x:Operand) (f:Nat):mB S (.field t x f)=S:=nr rfl
theorem qLx (S:HS) (t:TypeId) (x:Operand) (f:Nat):mB S (.fieldAddr t x f)=S:=nr rfl
theorem qRf (S:HS) (x:Operand):mB S (.nilCheck x)=S:=nr rfl
theorem qLv (S:HS) (t:TypeId) (x i:Operand):mB S (.indexAddr t x i)=S:=nr rfl
theorem qLt (S:HS) (t:TypeId) (x:Operand) (l h m:Option Operand):mB S (.slice t x l h m)=S:=nr rfl
theorem qRi (S:HS) (t:TypeId) (x:Operand):mB S (.load t x)=S:=nr rfl
theorem qLy (S:HS) (t:TypeId) (ps:Array (Nat × Operand)):mB S (.build t ps)=S:=nr rfl
theorem qW1 (S:HS) (b:BinOp) (t:TypeId) (x y:Operand) (u:TypeId):mB S (.binOp b t x y u)=S:=nr rfl
theorem zCh (S:HS) (u:UnOp) (t:TypeId) (x:Operand):mB S (.unOp u t x)=S:=nr rfl
theorem qRj (S:HS) (s d:TypeId) (x:Operand):mB S (.convert s d x)=S:=nr rfl
theorem qLu (S:HS) (t:TypeId) (x i:Operand):mB S (.index t x i)=S:=nr rfl
theorem qRk (S:HS) (c:Call):mB S (.call c)=S:=nr rfl
theorem qLz (S:HS) (t:TypeId):mB S (.alloc t)=S:=nr rfl
theorem qW0 (S:HS) (t:TypeId) (x:Operand):mB S (.box t x)=S:=nr rfl
theorem qRh (S:HS) (t:TypeId) (x y:Operand):mB S (.makeSlice t x y)=S:=nr rfl
theorem qLs (S:HS) (t:TypeId) (x y:Operand):mB S (.store t x y)=restAll S (zH0 S (hev S.env x) (hev S.env y)):=nr rfl
theorem qGo (S:HS) (t n:TypeId) (ps:Array (Nat × Operand)):mB S (.buildSlice t n ps)=restAll S (zH1 (kN S.env ps.toList)):=nr rfl
theorem qVz (S:HS) (id sz i k:Nat) (h:HV):zH0 S (some (.ptr id sz i k)) (some h)=qV3 S h (rlk S.st id):=nr rfl
theorem qV0 (S:HS) (h:HV) (nw:Bool) (ty s:Nat) (els:List (List FV)):qV3 S h (some (.sl nw ty s els))=uG h:=nr rfl
theorem qV2 (S:HS) (h:HV) (nw:Bool) (ty:Nat) (cs:List HV):qV3 S h (some (.bx nw ty cs))=[]:=nr rfl
theorem qV4 (ps:List (Nat × HV)):zH1 (some ps)=ps.flatMap fun p=>uG p.2:=nr rfl
theorem qKz (i:Nat):uG (.own i)=[i]:=nr rfl
theorem qV5 (x:Value):uG (.v x)=[]:=nr rfl
theorem qK0 (fr:Bool) (xs:List (List FV)):uG (.lst fr xs)=[]:=nr rfl
theorem qK1 (cs:List HV):uG (.agg cs)=cs.flatMap yZ:=nr rfl
theorem qGk (i:Nat):yZ (.own i)=[i]:=nr rfl
theorem qQn (x:Value):yZ (.v x)=[]:=nr rfl
theorem qGl (fr:Bool) (xs:List (List FV)):yZ (.lst fr xs)=[]:=nr rfl
theorem qF9 (S:HS):restAll S []=S:=nr rfl
theorem qCy (S:HS) (i:Nat) (r:List Nat):restAll S (i :: r)=restAll (qCx S i) r:=nr rfl
theorem qKd (e:bP) (s:aJ) (i:Nat):qCx ⟨e,s⟩ i=match decide (i < 1000000) with|true=>(match rlk s i with|some (.sl nw _ _ els)=>HS.rest ⟨e,s⟩ i (.lst nw els)|_=>⟨e,s⟩)|false=>⟨e,s⟩:=by unfold qCx;rw [show Nat.blt i held=decide (i < 1000000) by rw [Bool.eq_iff_iff];simp [Nat.blt_eq,held]];rfl
theorem qV1 (S:HS) (h:HV) (nw:Bool) (ty s:Nat) (els:List (List HV)):qV3 S h (some (.hl nw ty s els))=[]:=nr rfl
theorem qWw (N:Nat) (d:Option Nat) (S:HS) (K:HS→Prop):lZ N d S K=match eQ N d with|true=>K (S.set d (.v undef))|false=>False:=nr rfl
theorem qRc (P:Program) (N:Nat) (o:Oper) (S:HS) (K:HS→Prop):qS5 P N o S K .yes=HGo P N o S K:=nr rfl
theorem qWv (P:Program) (N:Nat) (o:Oper) (S:HS) (K:HS→Prop):qS5 P N o S K .no=lZ N o.dst S K:=nr rfl
theorem qRd (P:Program) (N:Nat) (o:Oper) (S:HS) (K:HS→Prop) (d:Nat) (b want:Bool):qS5 P N o S K (.ask d b want)=match b == want with|true=>HGo P N o (S.rep d (.v (.bool want))) K|false=>lZ N o.dst (S.rep d (.v (.bool (!want)))) K:=nr rfl
theorem zCg (P:Program) (N:Nat) (ds:List (Option Nat)) (K:HS→Prop) (S:HS):HV2 P N ds K [] S=K S:=nr rfl
theorem qWu (P:Program) (N:Nat) (ds:List (Option Nat)) (K:HS→Prop) (o:Oper) (rest:List Oper) (S:HS):HV2 P N ds K (o :: rest) S=qS5 P N o S (HV2 P N ds K rest) (hG S.env ds o.guard):=nr rfl
theorem zCn (P:Program) (o:Oper) (S:HS) (K:HS→Prop) (c:Prop) (h:HV) (S':HS):qEp P o S K (.go c h S')=(dZ o.op=true∧c∧K (S.set o.dst h)):=nr rfl
theorem qRo (P:Program) (o:Oper) (S:HS) (K:HS→Prop) (f:FuncId) (args:List HV):qEp P o S K (.call f args)=zTr P f args S (fun x=>lY K (S.set o.dst (.v x))):=nr rfl
theorem qXd (P:Program) (o:Oper) (S:HS) (K:HS→Prop) (t:TypeId) (x y:List Value) (neg:Bool):qEp P o S K (.eqn t x y neg)=∃ r,EqR P t x.toArray y.toArray r∧lY K (S.set o.dst (.v (.bool (neg ^^ r)))):=nr rfl
theorem zCo (P:Program) (N:Nat) (o:Oper) (S:HS) (K:HS→Prop):qY2 P N o S K=match eQ N o.dst with|true=>qEp P o S K (hop P S (qDu o.dst) o.op)|false=>False:=nr rfl
theorem qLo (P:Program) (N:Nat) (o:Oper) (S:HS) (K:HS→Prop):qFu P N o S K .yes=qY2 P N o S K:=nr rfl
theorem qRb (P:Program) (N:Nat) (o:Oper) (S:HS) (K:HS→Prop):qFu P N o S K .no=lZ N o.dst S K:=nr rfl
theorem qLp (P:Program) (N:Nat) (o:Oper) (S:HS) (K:HS→Prop) (d:Nat) (b want:Bool):qFu P N o S K (.ask d b want)=match b == want with|true=>qY2 P N o (S.rep d (.v (.bool want))) K|false=>lZ N o.dst (S.rep d (.v (.bool (!want)))) K:=nr rfl
theorem zCf (P:Program) (N:Nat) (ds:List (Option Nat)) (K:HS→Prop) (S:HS):HVq P N ds K [] S=K S:=nr rfl
theorem qWt (P:Program) (N:Nat) (ds:List (Option Nat)) (K:HS→Prop) (o:Oper) (rest:List Oper) (S:HS):HVq P N ds K (o :: rest) S=qFu P N o S (HVq P N ds K rest) (hG S.env ds o.guard):=nr rfl
theorem qPw (t:Nat):cF (.tmp t)=[t]:=nr rfl
theorem qF6 (v:Value):cF (.const v)=[]:=nr rfl
theorem qCr (g:Nat):cF (.global g)=[]:=nr rfl
theorem qJ1 (f:FuncId):cF (.func f)=[]:=nr rfl
theorem qJy  : tQ []=[]:=nr rfl
theorem qF5 (x:Operand) (r:List Operand):tQ (x :: r)=cF x ++ tQ r:=nr rfl
theorem qJw  : pD []=[]:=nr rfl
theorem qF2 (k:Nat) (x:Operand) (r:List (Nat × Operand)):pD ((k,x) :: r)=cF x ++ pD r:=nr rfl
theorem qJ2 (x:Operand):qF7 (some x)=cF x:=nr rfl
theorem qJ3  : qF7 none=[]:=nr rfl
theorem qCm (x:Operand):cR (.move x)=cF x:=nr rfl
theorem wD (x:Operand):cR (.assign x)=cF x:=nr rfl
theorem qCl (x:Operand):cR (.nilCheck x)=cF x:=nr rfl
theorem qCk (c a b:Operand):cR (.pick c a b)=cF c ++ (cF a ++ cF b):=nr rfl
theorem vS (x:Operand) (i:Nat):cR (.extract x i)=cF x:=nr rfl
theorem qBd (t:TypeId) (x:Operand) (f:Nat):cR (.field t x f)=cF x:=nr rfl
theorem qBe (t:TypeId) (x:Operand) (f:Nat):cR (.fieldAddr t x f)=cF x:=nr rfl
theorem qCn (t:TypeId) (x:Operand):cR (.load t x)=cF x:=nr rfl
theorem qJx (u:UnOp) (t:TypeId) (x:Operand):cR (.unOp u t x)=cF x:=nr rfl
theorem qCo (s d:TypeId) (x:Operand):cR (.convert s d x)=cF x:=nr rfl
theorem qBc (t:TypeId) (x i:Operand):cR (.indexAddr t x i)=cF x ++ cF i:=nr rfl
theorem qBb (t:TypeId) (x i:Operand):cR (.index t x i)=cF x ++ cF i:=nr rfl
theorem qA9 (t:TypeId) (x:Operand) (l h:Option Operand):cR (.slice t x l h none)=cF x ++ (qF7 l ++ qF7 h):=nr rfl
theorem qF4 (b:BinOp) (t:TypeId) (x y:Operand) (u:TypeId):cR (.binOp b t x y u)=cF x ++ cF y:=nr rfl
theorem qBf (t:TypeId) (ps:Array (Nat × Operand)):cR (.build t ps)=pD ps.toList:=nr rfl
theorem wC (t:TypeId) (n:Nat) (ps:Array (Nat × Operand)):cR (.buildSlice t n ps)=pD ps.toList:=nr rfl
theorem qBa (t:TypeId) (x y:Operand):cR (.makeSlice t x y)=cF x ++ cF y:=nr rfl
theorem qCp (k:Callee) (args:Array Operand) (ats:Array TypeId):cR (.call ⟨k,args,ats⟩)=qJ0 k ++ tQ args.toList:=nr rfl
theorem qCq (x:Operand):qJ0 (.value x)=cF x:=nr rfl
theorem wE (b:Builtin):qJ0 (.builtin b)=[]:=nr rfl
theorem qJ5 (ds:List (Option Nat)):sK ds none=[]:=nr rfl
theorem qJ4 (ds:List (Option Nat)) (g:Nat) (b:Bool):sK ds (some (g,b))=match ds[g]? with|some (some d)=>[d]|_=>[]:=nr rfl
theorem qQj (e:bP):jU e []=[]:=nr rfl
theorem qKs (e:bP) (t:Nat) (r:List Nat):jU e (t :: r)=match hlk e t with|some h=>(t,h) :: jU e r|none=>jU e r:=nr rfl
theorem qKo  : mM []=true:=nr rfl
theorem qVv (k:Nat) (v:Value) (r:bP):mM ((k,.v v) :: r)=mM r:=nr rfl
theorem qKp (k:Nat) (b:Bool) (xs:List (List FV)) (r:bP):mM ((k,.lst b xs) :: r)=mM r:=nr rfl
theorem qKq (k:Nat) (hs:List HV) (r:bP):mM ((k,.agg hs) :: r)=mM r:=nr rfl
theorem qW7 (d:Option Nat) (S:HS) (K:HS→Prop) (c:Prop) (i:Nat) (S':HS):zDv d S K (.go c (.own i) S')=match rlk S'.st i with|some (.sl _ _ _ els)=>c∧K (S.set d (.lst true els))|_=>False:=nr rfl
theorem qGn (t:TypeId) (n:Nat) (ps:Array (Nat × Operand)):zNf (.buildSlice t n ps)=true:=nr rfl
theorem qLd (t:TypeId) (x y:Operand):zNf (.makeSlice t x y)=true:=nr rfl
theorem qC4 (t:TypeId) (n:Nat) (ps:Array (Nat × Operand)):dZ (.buildSlice t n ps)=false:=nr rfl
theorem qGc (t:TypeId) (x y:Operand):dZ (.makeSlice t x y)=false:=nr rfl
theorem zCl (P:Program) (o:Oper) (S T:HS) (K:HS→Prop) (c:Prop) (h:HV) (S':HS):qA4 P o S T K (.go c h S')=match dZ o.op with|true=>c∧K (S.set o.dst h)|false=>(match zNf o.op && mM T.env with|true=>zDv o.dst S K (hop P ⟨T.env,[]⟩ (qDu o.dst) o.op)|false=>False):=nr rfl
theorem qRn (P:Program) (o:Oper) (S T:HS) (K:HS→Prop) (f:FuncId) (args:List HV):qA4 P o S T K (.call f args)=zQ8 P f args T (fun x=>lY K (S.set o.dst x)):=nr rfl
theorem qXc (P:Program) (o:Oper) (S T:HS) (K:HS→Prop) (t:TypeId) (x y:List Value) (neg:Bool):qA4 P o S T K (.eqn t x y neg)=∃ r,EqR P t x.toArray y.toArray r∧lY K (S.set o.dst (.v (.bool (neg ^^ r)))):=nr rfl
theorem zCm (P:Program) (N:Nat) (o:Oper) (S T:HS) (K:HS→Prop):zAm P N o S T K=match eQ N o.dst with|true=>qA4 P o S T K (hop P T (qDu o.dst) o.op)|false=>False:=nr rfl
theorem qLm (P:Program) (N:Nat) (o:Oper) (S T:HS) (K:HS→Prop):qFt P N o S T K .yes=zAm P N o S T K:=nr rfl
theorem qRa (P:Program) (N:Nat) (o:Oper) (S T:HS) (K:HS→Prop):qFt P N o S T K .no=lZ N o.dst S K:=nr rfl
theorem qLn (P:Program) (N:Nat) (o:Oper) (S T:HS) (K:HS→Prop) (d:Nat) (b want:Bool):qFt P N o S T K (.ask d b want)=match b == want with|true=>zAm P N o (S.rep d (.v (.bool want))) (T.rep d (.v (.bool want))) K|false=>lZ N o.dst (S.rep d (.v (.bool (!want)))) K:=nr rfl
theorem zCe (P:Program) (N:Nat) (ds:List (Option Nat)) (K:HS→Prop) (S:HS):HVr P N ds K [] S=K S:=nr rfl
theorem qWs (P:Program) (N:Nat) (ds:List (Option Nat)) (K:HS→Prop) (o:Oper) (rest:List Oper) (S:HS):HVr P N ds K (o :: rest) S=qFt P N o S ⟨jU S.env (sK ds o.guard ++ cR o.op),S.st⟩ (HVr P N ds K rest) (hG (jU S.env (sK ds o.guard ++ cR o.op)) ds o.guard):=nr rfl
theorem qQ8 (k:Nat):qDu (some k)=8 * k:=nr rfl
theorem qQ9  : qDu none=0:=nr rfl
theorem qKk (x:Operand):dZ (.move x)=true:=nr rfl
theorem qC5 (x:Operand):dZ (.assign x)=true:=nr rfl
theorem qKi (c a b:Operand):dZ (.pick c a b)=true:=nr rfl
theorem qBg (x:Operand) (i:Nat):dZ (.extract x i)=true:=nr rfl
theorem qGf (t:TypeId) (x:Operand) (f:Nat):dZ (.field t x f)=true:=nr rfl
theorem qGg (t:TypeId) (x:Operand) (f:Nat):dZ (.fieldAddr t x f)=true:=nr rfl
theorem qKj (x:Operand):dZ (.nilCheck x)=true:=nr rfl
theorem qGe (t:TypeId) (x i:Operand):dZ (.indexAddr t x i)=true:=nr rfl
theorem qGb (t:TypeId) (x:Operand) (l h m:Option Operand):dZ (.slice t x l h m)=true:=nr rfl
theorem qKl (t:TypeId) (x:Operand):dZ (.load t x)=true:=nr rfl
theorem qGh (t:TypeId) (ps:Array (Nat × Operand)):dZ (.build t ps)=true:=nr rfl
theorem qQc (b:BinOp) (t:TypeId) (x y:Operand) (u:TypeId):dZ (.binOp b t x y u)=true:=nr rfl
theorem qVr (u:UnOp) (t:TypeId) (x:Operand):dZ (.unOp u t x)=true:=nr rfl
theorem qKm (s d:TypeId) (x:Operand):dZ (.convert s d x)=true:=nr rfl
theorem qGd (t:TypeId) (x i:Operand):dZ (.index t x i)=true:=nr rfl
theorem qQb (args:Array Operand) (ats:Array TypeId):dZ (.call ⟨.builtin .len,args,ats⟩)=true:=nr rfl
theorem qQa (args:Array Operand) (ats:Array TypeId):dZ (.call ⟨.builtin .min,args,ats⟩)=true:=nr rfl
theorem qSx (k:Nat):sZ k []=[]:=nr rfl
theorem qN4 (k:Nat) (v:HV) (r:List HV):sZ k (v :: r)=(k,v) :: sZ (k + 1) r:=nr rfl
theorem zZ (e:bP) (s:aJ) (ks ids:List Nat):HS.keep ⟨e,s⟩ ks ids=⟨wW ks e,wJ ids s⟩:=nr rfl
theorem zR (l:bP):wW [] l=[]:=nr rfl
theorem zP (k:Nat) (r:List Nat) (l:bP):wW (k :: r) l=match hlk l k with|some v=>(k,v) :: wW r l|none=>wW r l:=nr rfl
theorem zQ (l:aJ):wJ [] l=[]:=nr rfl
theorem zN (k:Nat) (r:List Nat) (l:aJ):wJ (k :: r) l=match rlk l k with|some v=>(k,v) :: wJ r l|none=>wJ r l:=nr rfl
theorem yA (P:Program) (rs:List ResultVar) (Q:HV→aJ→Prop) (S:HS):zJz P rs Q .normal S=nY P S rs fun hs=>qHh S (vE hs) Q:=nr rfl
theorem yM (P:Program) (rs:List ResultVar) (Q:HV→aJ→Prop) (S:HS):zJz P rs Q .ret S=nY P S rs fun hs=>qHh S (vE hs) Q:=nr rfl
theorem yH (P:Program) (S:HS) (K:List HV→Prop):nY P S [] K=K []:=nr rfl
theorem aL (P:Program) (S:HS) (p ty:Nat) (r:List ResultVar) (K:List HV→Prop):nY P S (.cell p ty :: r) K=zQa (rP S (cE P ty) (hlk S.env p)) fun h=>nY P S r fun hs=>K (h :: hs):=nr rfl
theorem aU (c:Prop) (h:HV) (S:HS) (K:HV→Prop):zQa (.go c h S) K=(c∧K h):=nr rfl
theorem yE (P:Program) (S:HS) (t:Nat) (r:List ResultVar) (K:List HV→Prop):nY P S (.tmp t :: r) K=match hlk S.env t with|some h=>nY P S r fun hs=>K (h :: hs)|none=>False:=nr rfl
theorem yK (h:HV):vE [h]=h:=nr rfl
theorem yJ (a b:HV) (r:List HV):vE (a :: b :: r)=.tup (a :: b :: r):=nr rfl
theorem zM9 (i:Nat):pos [] i=none:=nr rfl
theorem yF (k:Nat) (r:List Nat) (i:Nat):pos (k :: r) i=if k=i then some 0 else (pos r i).map (· + 1):=nr rfl
theorem zEm (m:Nat→Option Nat) (st:aJ) (k:Nat):jX m st k []=[]:=nr rfl
theorem yG (m:Nat→Option Nat) (st:aJ) (k id:Nat) (r:List Nat):jX m st k (id :: r)=match rlk st id with|some row=>(k,row.ren m) :: jX m st (k + 1) r|none=>jX m st (k + 1) r:=nr rfl
theorem qN2 {p:Prop} (h:p):cA p=True:=eq_true h
theorem qSu:cA True=True:=rfl
theorem ltT {a b:Int} (h:a < b):decide (a < b)=true:=decide_eq_true h
theorem ltF {a b:Int} (h:b≤a):decide (a < b)=false:=decide_eq_false (by omega)
theorem leT {a b:Int} (h:a≤b):decide (a≤b)=true:=decide_eq_true h
theorem leF {a b:Int} (h:b < a):decide (a≤b)=false:=decide_eq_false (by omega)
theorem eqT {a b:Int} (h:a=b):decide (a=b)=true:=decide_eq_true h
theorem eqF {a b:Int} (h:a < b∨b < a):decide (a=b)=false:=decide_eq_false (by omega)
theorem zNn {α:Type} {l:List α} {i:Nat} {d:α} (h:i < l.length):l.getD i d=l[i]:=iB h
theorem nW {α β:Type} {f:α→β} {l:List α} {i:Nat} {d:β} (h:i < l.length):(l.map f).getD i d=f (l[i]):=by rw [zNn (by simpa using h),List.getElem_map]
theorem qNr:(default:FV)=.v (.bool false):=rfl
theorem qEq {x:Int} (h1:-9223372036854775808≤x) (h2:x≤9223372036854775807):IntKind.i64.wrap x=x:=zRp ⟨by unfold zSc;exact h1,by unfold zSu;exact h2⟩
theorem qJh (n:Nat):((n:Int) + 1).toNat=n + 1:=by omega
theorem qPm (n m:Nat):((n:Int) + (m:Int)).toNat=n + m:=by omega
theorem xL {α:Type} {f:α→List FV} {sz:Nat} (l:List α) (h:∀ a,(f a).length=sz):Wid sz (l.map f):=fun x hx=>by
 obtain ⟨a,-,rfl⟩:=List.mem_map.1 hx;exact h a
end Go.Eng
end

section
namespace Go.Eng
open Go Go.RowKit
def qU5 (s:ByteArray):List FV:=[.v (.string s)]
def dP (a:List ByteArray):List (List FV):=a.map qU5
theorem cT (a:List ByteArray):(dP a).length=a.length:=by simp [dP]
theorem sJ (a:List ByteArray):Wid 1 (dP a)=True:=eq_true (xL a fun _=>rfl)
theorem qJk {a:List ByteArray} {i:Nat} {d:List FV} (h:i < a.length):(dP a).getD i d=[.v (.string a[i])]:=by unfold dP;rw [nW h];rfl
theorem tE (a:List ByteArray):∀ x ∈ dP a,∀ f ∈ x,FreshF f:=fun x hx f hf=>by
 obtain ⟨s,-,rfl⟩:=List.mem_map.1 hx;simp [qU5] at hf;subst hf;exact .v _
theorem qEz (a:List ByteArray) (s:ByteArray):dP a ++ [[.v (.string s)]]=dP (a ++ [s]):=by simp [dP,qU5]
theorem zD6 (a:List ByteArray) (n:Nat):(dP a).take n=dP (a.take n):=by simp [dP,List.map_take]
theorem zQ6 {P:Program} {N:Nat} {x:Code} {Q:gF} {S:HS} (k id ty sz:Nat) (hk:hlk S.env k=some (.v (.slice none 0 0))) (h:HW P N x Q (((S.kill (only id)).row id (.sl true ty sz [])).rep k (.own id))):HW P N x Q S:=fun c l w I=>by
 refine h c l w ?_;obtain ⟨ρ,xs,G⟩:=I
 have G2:=G.new id (.sl true ty sz []) [] (.slice none 0 0) (w':=w) (Below.refl _ _) (fun b hb=>by cases hb) (fun _ _ =>
  ⟨by rw [bF];exact World.ownsRow_nil w 0 ty sz,⟨by simp,fun i k hi=>absurd hi (by simp)⟩,fun b hb=>by rw [bF] at hb;cases hb⟩)
 refine ⟨_,_,G2.rows,G2.apart,fun j y hj=>?_,G2.kept,G2.a0⟩
 simp only [HS.rep,qDy] at hj
 by_cases e:j=k
 ·subst e;rw [if_pos rfl] at hj
  have h1:hlk ((S.kill (only id)).row id (.sl true ty sz [])).env j=some (.v (.slice none 0 0)):=by
   show hlk (mE (only id) S.env) j=_
   rw [jP,hk];simp [HV.kill]
  rw [h1] at hj;simp only [Option.map_some,Option.some.injEq] at hj;subst hj;obtain ⟨v,a,b⟩:=G2.env j _ h1
  have:=bN b
  subst this;refine ⟨_,a,?_⟩
  have:=RepH.own (w:=w) (A:=c.A (iN ρ id (.slice none 0 0)) (((S.kill (only id)).row id (.sl true ty sz [])).rep j (.own id)).st) (n0:=c.n0) (ρ:=iN ρ id (.slice none 0 0)) id (by rw [bF];rfl)
  rw [bF] at this;exact this
 ·rw [if_neg e] at hj;exact G2.env j y hj
theorem qD1 {P:Program} {f:FuncId} {args:List HV} {x:Value} (h:∀ (w:World) (vs:List Value),oB w (fun _=>False) w.heap.size (fun _=>undef) vs args→Calls P f vs.toArray w (Ret fun r w'=>r=x∧Below w.heap.size w w')):HFun P f args (fun h st=>h=.v x∧st=[]):=fun w vs R =>
 Ret.mono (h w vs R) fun v w' ⟨hv,B⟩=>⟨B,.v x,[],fun i r hi=>by simp [rlk] at hi,⟨rfl,rfl⟩,fun _=>undef,fun _=>[],⟨fun id r hr=>by simp [rlk] at hr,fun i j r s b hne hi=>by simp [rlk] at hi,fun k x hk=>by simp [hlk] at hk,⟨B.os,B.tape,B.output,B.size,fun b hlt _=>B.block b hlt⟩,fun b hb=>⟨hb,fun h=>h⟩⟩,by rw [hv];exact .v x⟩
theorem zPm {st:aJ} {fr:Bool} {xs ys:List (List FV)} (h:mN xs=ys):Lend st (.lst fr xs) (.lst false ys):=h ▸ .lst fr xs
theorem qLi {st:aJ} {id ty sz:Nat} {nw:Bool} {els ys:List (List FV)} (h:mN els=ys) (hr:rlk st id=some (.sl nw ty sz els)):Lend st (.own id) (.lst false ys):=h ▸ .own hr
section
variable {S:HS} {Q:HV→aJ→Prop}
theorem bK {a:Value} (q:Q (.v a) []):qHh S (.v a) Q:=⟨[],by simp,rfl,.v _,fun id h=>by simp at h,by rw [HV.ren];exact q⟩
theorem qUc {a b:Value} (q:Q (.tup [.v a,.v b]) []):qHh S (.tup [.v a,.v b]) Q :=
 ⟨[],by simp,rfl,.tup fun x hx=>by simp at hx;rcases hx with rfl|rfl <;> exact .v _,fun id h=>by simp at h,by rw [HV.ren];simp only [List.map_cons,List.map_nil,HV.ren];exact q⟩
theorem qLq {a b c:Value} (q:Q (.tup [.v a,.v b,.v c]) []):qHh S (.tup [.v a,.v b,.v c]) Q :=
 ⟨[],by simp,rfl,.tup fun x hx=>by simp at hx;rcases hx with rfl|rfl|rfl <;> exact .v _,fun id h=>by simp at h,by rw [HV.ren];simp only [List.map_cons,List.map_nil,HV.ren];exact q⟩
theorem qZ8 {id ty sz:Nat} {els:List (List FV)} (hr:rlk S.st id=some (.sl true ty sz els)) (hf:∀ x ∈ els,∀ f ∈ x,FreshF f) (q:Q (.own 0) [(0,.sl true ty sz els)]):qHh S (.own id) Q :=
 ⟨[id],by simp,by simp [dup],.own _,fun i h r hr'=>by
  simp at h;subst h;rw [hr] at hr';simp only [Option.some.injEq] at hr';subst hr';exact ⟨rfl,hf⟩,by
  rw [HV.ren];simp only [pos,if_true,jX,hr,Row.ren];exact q⟩
theorem zNm {id ty sz:Nat} {els:List (List FV)} {b:Value} (hr:rlk S.st id=some (.sl true ty sz els)) (hf:∀ x ∈ els,∀ f ∈ x,FreshF f) (q:Q (.tup [.own 0,.v b]) [(0,.sl true ty sz els)]):qHh S (.tup [.own id,.v b]) Q :=
 ⟨[id],by simp,by simp [dup],.tup fun x hx=>by simp at hx;rcases hx with rfl|rfl <;> first|exact .v _|exact .own _,fun i h r hr'=>by
  simp at h;subst h;rw [hr] at hr';simp only [Option.some.injEq] at hr';subst hr';exact ⟨rfl,hf⟩,by
  rw [HV.ren];simp only [List.map_cons,List.map_nil,HV.ren,pos,if_true,jX,hr,Row.ren];exact q⟩
end
end Go.Eng
end

section
namespace Go.Eng
open Go Go.RowKit
theorem qV8 (j:Nat):qE9 [] j=none:=nr rfl
theorem qQs (k:Nat) (r:List Nat) (j:Nat):qE9 (k :: r) j=if j=0 then some k else qE9 r (j - 1):=by cases j <;> simp [qE9]
theorem zGr (ids:List Nat) (n j:Nat):sh2 ids n j=match qE9 ids j with|some i=>some i|none=>bif decide (j < 8) then some (n + j) else none:=by
 unfold sh2;split <;> rename_i h <;> rw [h];congr 1;rw [Bool.eq_iff_iff];simp [Nat.blt_eq]
theorem zCd (i:Nat):inL [] i=false:=nr rfl
theorem qWq (k:Nat) (r:List Nat) (i:Nat):inL (k :: r) i=(k == i || inL r i):=nr rfl
theorem qQ6:qWo none=true:=nr rfl
theorem zB8 (nw:Bool) (t s:Nat) (xs:List (List FV)):qWo (some (.sl nw t s xs))=true:=nr rfl
theorem zCa (nw:Bool) (t:Nat) (cs:List HV):qWo (some (.bx nw t cs))=false:=nr rfl
theorem zB9 (nw:Bool) (t s:Nat) (xs:List (List HV)):qWo (some (.hl nw t s xs))=true:=nr rfl
theorem zCc (nw:Bool) (t s:Nat) (xs:List (List HV)):nS (some (.hl nw t s xs))=False:=nr rfl
theorem qQ7:nS none=False:=nr rfl
theorem zCb (nw:Bool) (t s:Nat) (xs:List (List FV)):nS (some (.sl nw t s xs))=False:=nr rfl
theorem zJq (t:Nat) (cs:List HV):nS (some (.bx true t cs))=False:=nr rfl
theorem zJr (t:Nat) (cs:List HV):nS (some (.bx false t cs))=True:=nr rfl
theorem qPk (ids:List Nat) (st:aJ) (n i:Nat):gP ids st n i=(dH n i || (inL ids i && qWo (rlk st i))):=nr rfl
theorem zC1 (ids:List Nat) (n i:Nat):nV ids n i=(dH n i || inL ids i):=nr rfl
theorem qQr (ids:List Nat) (st:aJ) (j:Nat):eD ids st j=match qE9 ids j with|some i=>rlk st i|none=>none:=nr rfl
theorem zDe (nw:Bool) (t s:Nat) (xs:List (List FV)):(Row.sl nw t s xs).dark=.sl nw t s xs:=nr rfl
theorem zDg (nw:Bool) (t:Nat) (cs:List HV):(Row.bx nw t cs).dark=.bx false t cs:=nr rfl
theorem zDf (nw:Bool) (t s:Nat) (xs:List (List HV)):(Row.hl nw t s xs).dark=.hl nw t s xs:=nr rfl
theorem zC7 (o:Option Row) (nw:Bool) (t s:Nat) (xs:List (List HV)):(Row.hl nw t s xs).flag o=.hl nw t s xs:=by
 cases o with
|none=>rfl
|some o=>cases o <;> rfl
theorem qYa (r:Row) (nw:Bool) (t s:Nat) (xs:List (List HV)):r.flag (some (.hl nw t s xs))=r:=by cases r <;> rfl
theorem qSj (r:Row):r.flag none=r:=nr rfl
theorem zC6 (o:Option Row) (nw:Bool) (t s:Nat) (xs:List (List FV)):(Row.sl nw t s xs).flag o=.sl nw t s xs:=by
 cases o with
|none=>rfl
|some o=>cases o <;> rfl
theorem zC8 (nw n2:Bool) (t t2:Nat) (cs c2:List HV):(Row.bx n2 t2 c2).flag (some (.bx nw t cs))=.bx nw t2 c2:=nr rfl
theorem qX9 (r:Row) (nw:Bool) (t s:Nat) (xs:List (List FV)):r.flag (some (.sl nw t s xs))=r:=by cases r <;> rfl
theorem qSs (m:Nat→Option Nat) (st:aJ) (k:Nat):jE m st k []=[]:=nr rfl
theorem qNx (m:Nat→Option Nat) (st:aJ) (k id:Nat) (r:List Nat):jE m st k (id :: r)=match rlk st id with|some row=>(k,(row.ren m).dark) :: jE m st (k + 1) r|none=>jE m st (k + 1) r:=nr rfl
theorem zAx (S0:aJ) (ids:List Nat) (n:Nat) (b:aJ):swp S0 ids n [] b=b:=nr rfl
theorem qU2 (S0:aJ) (ids:List Nat) (n j:Nat) (r:Row) (t b:aJ):swp S0 ids n ((j,r) :: t) b=((sh2 ids n j).getD 0,(r.ren (sh2 ids n)).flag (eD ids S0 j)) :: swp S0 ids n t b:=nr rfl
theorem zAy (e:bP) (s:aJ) (ids:List Nat) (n:Nat) (st:aJ):HS.swap ⟨e,s⟩ ids n st=⟨mE (gP ids s n) e,swp s ids n st (pE (nV ids n) (gP ids s n) s)⟩:=nr rfl
theorem qJ6 (g p:Nat→Bool):pE g p []=[]:=nr rfl
theorem qF8 (g p:Nat→Bool) (k:Nat) (h:Row) (r:aJ):pE g p ((k,h) :: r)=bif g k then pE g p r else (k,h.kill p) :: pE g p r:=nr rfl
theorem zFx (st:aJ) (k:Nat):qHc st k []=True:=nr rfl
theorem yL (st:aJ) (k id:Nat) (r:List Nat):qHc st k (id :: r)=((nS (rlk st id)→k=id)∧qHc st (k + 1) r):=nr rfl
theorem zFd (ids:List Nat) (st:aJ):pR ids st []=True:=nr rfl
theorem zJm (ids:List Nat) (st:aJ) (j:Nat) (nw:Bool) (t s:Nat) (xs:List (List FV)) (r:aJ):pR ids st ((j,.sl nw t s xs) :: r)=pR ids st r:=nr rfl
theorem zJn (ids:List Nat) (st:aJ) (j:Nat) (nw:Bool) (t s:Nat) (xs:List (List HV)) (r:aJ):pR ids st ((j,.hl nw t s xs) :: r)=pR ids st r:=nr rfl
theorem zJo (ids:List Nat) (st:aJ) (j:Nat) (t:Nat) (cs:List HV) (r:aJ):pR ids st ((j,.bx true t cs) :: r)=pR ids st r:=nr rfl
theorem zJp (ids:List Nat) (st:aJ) (j:Nat) (t:Nat) (cs:List HV) (r:aJ):pR ids st ((j,.bx false t cs) :: r)=((qE9 ids j=some j∧nS (rlk st j))∧pR ids st r):=by
 rw [iA];rfl
theorem aR (P:Program) (rs:List ResultVar) (st0:aJ) (Q:HV→aJ→Prop) (S:HS):qZ9 P rs st0 Q .normal S=nY P S rs fun hs=>qHd st0 S (vE hs) Q:=rfl
theorem aZ (P:Program) (rs:List ResultVar) (st0:aJ) (Q:HV→aJ→Prop) (S:HS):qZ9 P rs st0 Q .ret S=nY P S rs fun hs=>qHd st0 S (vE hs) Q:=rfl
theorem cZ (ids:List Nat) {st0:aJ} {S:HS} {h:HV} {Q:HV→aJ→Prop} (h1:ids.length≤8) (h2:dup ids=false) (h3:qHc S.st 0 ids) (h4:pR ids S.st st0) {h':HV} {st':aJ} (h5:h.ren (pos ids)=h') (h6:jX (pos ids) S.st 0 ids=st') (q:Q h' st'):qHd st0 S h Q :=
 ⟨ids,h1,h2,h3,h4,by rw [h5,h6];exact q⟩
theorem aH:vE []=.tup []:=nr rfl
section
variable {P:Program} {N:Nat} {x:Code} {Q:gF} {S S':HS}
theorem zDs (id k nid ty sz:Nat) {nw:Bool} {bt:Nat} {cells:List HV} (hne:id≠nid) (hr:rlk S.st id=some (.bx nw bt cells)) (hk:cells[k]?=some (.v (.slice none 0 0)))
  (hs:(⟨mE (only nid) S.env,(nid,.sl true ty sz []) :: iV id (.bx nw bt ((cells.map (HV.kill (only nid))).set k (.own nid))) (eN (only nid) S.st)⟩:HS)=S') (h:HW P N x Q S'):HW P N x Q S:=fun c l w I=>by
 subst hs;refine h c l w ?_;obtain ⟨ρ,xs,G⟩:=I
 have G2:=G.new nid (.sl true ty sz []) [] (.slice none 0 0) (w':=w) (Below.refl _ _) (fun b hb=>by cases hb) (fun _ _ =>
  ⟨by rw [bF];exact World.ownsRow_nil w 0 ty sz,⟨by simp,fun i k hi=>absurd hi (by simp)⟩,fun b hb=>by rw [bF] at hb;cases hb⟩)
 have hr2:rlk (eN (only nid) S.st) id=some (.bx nw bt (cells.map (HV.kill (only nid)))):=by rw [jK,qDj hne,cond_false,hr];rfl
 have hl:∀ i,rlk ((nid,Row.sl true ty sz []) :: iV id (.bx nw bt ((cells.map (HV.kill (only nid))).set k (.own nid))) (eN (only nid) S.st)) i =
   if i=id then some (.bx nw bt ((cells.map (HV.kill (only nid))).set k (.own nid))) else rlk ((nid,Row.sl true ty sz []) :: eN (only nid) S.st) i:=fun i=>by
  simp only [rlk]
  by_cases e:nid=i
  ·rw [if_pos e,if_neg (by omega),if_pos e]
  ·rw [if_neg e,jZ id _ _ _ hr2]
   by_cases e2:i=id
   ·rw [if_pos e2,if_pos e2]
   ·rw [if_neg e2,if_neg e2,if_neg e]
 have hid:rlk ((nid,Row.sl true ty sz []) :: eN (only nid) S.st) id=some (.bx nw bt (cells.map (HV.kill (only nid)))):=by simp only [rlk];rw [if_neg (by omega)];exact hr2
 have hA:∀ b,c.A (iN ρ nid (.slice none 0 0)) ((nid,Row.sl true ty sz []) :: iV id (.bx nw bt ((cells.map (HV.kill (only nid))).set k (.own nid))) (eN (only nid) S.st)) b→c.A (iN ρ nid (.slice none 0 0)) ((nid,Row.sl true ty sz []) :: eN (only nid) S.st) b:=by
  rintro b (h0|⟨i,s,hi,hb⟩)
  ·exact .inl h0
  ·right
   rw [hl] at hi
   by_cases e:i=id
   ·subst e;exact ⟨_,_,hid,hb⟩
   ·rw [if_neg e] at hi;exact ⟨i,s,hi,hb⟩
 refine ⟨iN ρ nid (.slice none 0 0),fun i=>if i=nid then [] else xs i,⟨fun i r hi=>?_,fun i j r s b hne hi hj hbi hbj=>?_,fun j y hj=>?_,G2.kept,G2.a0⟩⟩
 ·rw [hl] at hi
  by_cases e:i=id
  ·subst e;rw [if_pos rfl] at hi;simp only [Option.some.injEq] at hi;subst hi
   have R:=G2.rows i _ hid
   refine ⟨by simpa [Row.ty,Row.sz,Row.len] using R.own,⟨R.rep.1,fun q hq=>?_⟩,R.new⟩
   have hq':q < (cells.map (HV.kill (only nid))).length:=by simpa using hq
   obtain ⟨u,u1,u2,u3⟩:=R.rep.2 q hq'
   by_cases eq:k=q
   ·subst eq;refine ⟨u,u1,u2,?_⟩;rw [List.getElem_set_self]
    have hc:cells[k]'(by simpa using hq')=.v (.slice none 0 0):=by
     have:=List.getElem?_eq_some_iff.1 hk
     exact this.2
    rw [List.getElem_map,hc,HV.kill] at u3
    have:=bN u3
    subst this
    have:=RepH.own (w:=w) (A:=c.A (iN ρ nid (.slice none 0 0)) ((nid,Row.sl true ty sz []) :: iV i (.bx nw bt ((cells.map (HV.kill (only nid))).set k (.own nid))) (eN (only nid) S.st))) (n0:=c.n0) (ρ:=iN ρ nid (.slice none 0 0)) nid (by rw [bF];rfl)
    rw [bF] at this;exact this
   ·refine ⟨u,u1,u2,?_⟩;rw [List.getElem_set_ne eq];exact u3.up (Nat.le_refl _) (fun _ _ _=>rfl) (fun b _=>hA b) (Nat.le_refl _)
  ·rw [if_neg e] at hi;exact (G2.rows i r hi).up (Nat.le_refl _) (fun _ _ _=>rfl) (fun b _=>hA b) (fun _ _=>rfl)
 ·have back:∀ i s,rlk ((nid,Row.sl true ty sz []) :: iV id (.bx nw bt ((cells.map (HV.kill (only nid))).set k (.own nid))) (eN (only nid) S.st)) i=some s→∃ s0,rlk ((nid,Row.sl true ty sz []) :: eN (only nid) S.st) i=some s0:=by
   intro i s hi;rw [hl] at hi
   by_cases e:i=id
   ·subst e;exact ⟨_,hid⟩
   ·rw [if_neg e] at hi;exact ⟨s,hi⟩
  obtain ⟨r0,h1⟩:=back i r hi;obtain ⟨s0,h2⟩:=back j s hj;exact G2.apart i j r0 s0 b hne h1 h2 hbi hbj
 ·obtain ⟨v,h1,h2⟩:=G2.env j y hj;exact ⟨v,h1,h2.up (Nat.le_refl _) (fun _ _ _=>rfl) (fun b _=>hA b) (Nat.le_refl _)⟩
end
section
variable {P:Program} {N:Nat} {x:Code} {Q:gF} {S:HS} {id:Nat} {R:HS→Prop}
end
end Go.Eng
end

section
namespace Go.Eng
open Go Go.RowKit
def zJu (R:HS→Prop) (Q:gF):gF
|.normal,S=>R S
|e,S=>Q e S
section
variable {P:Program} {N:Nat} {x:Code} {Q:gF} {S:HS} {R:HS→Prop}
theorem kB (h:R S):zJu R Q .normal S:=h
theorem kK {ι:Type} (E:ι→HS) (I:ι→Prop) (ks ids:List Nat) (hx:HW P N x (zJu (fun S'=>∃ j,S'.keep ks ids=E j∧I j) Q) S) (hy:∀ S' j,S'.keep ks ids=E j→I j→Q .normal S'):HW P N x Q S :=
 hx.mono fun e S' h=>by
  cases e with
 |normal=>obtain ⟨j,hE,hI⟩:=h;exact hy S' j hE hI
 |_=>exact h
end
theorem qA3 {P:Program} {N:Nat} {x:Code} {Q:gF} {S S':HS} (k id ty sz:Nat) (hk:hlk S.env k=some (.v (.slice none 0 0))) (hs:((S.kill (only id)).row id (.sl true ty sz [])).rep k (.own id)=S') (h:HW P N x Q S'):HW P N x Q S:=zQ6 k id ty sz hk (hs ▸ h)
end Go.Eng
end

section
namespace Go.Eng
open Go Go.RowKit
section
variable {P:Program} {N:Nat} {ds:List (Option Nat)} {K:HS→Prop} {S:HS} {Q:gF}
end
end Go.Eng
end

section
namespace Go.Eng
open Go Go.RowKit
def nm (a b:Nat):Nat→Option Nat:=fun i=>if i=a then some b else if i=b then none else some i
def qYg (m:Nat→Option Nat):bP→bP
|[]=>[]
|(k,h) :: r=>(k,h.ren m) :: qYg m r
def qTf (a b:Nat):aJ→aJ
|[]=>[]
|(k,r) :: t=>(if k=a then b else k,r.ren (nm a b)) :: qTf a b t
def HS.name (S:HS) (a b:Nat):HS:=⟨qYg (nm a b) S.env,qTf a b S.st⟩
theorem qXa (m:Nat→Option Nat):∀ (l:bP) (k:Nat),hlk (qYg m l) k=(hlk l k).map (HV.ren m)
|[],k=>rfl
|(j,h) :: r,k=>by
  simp only [qYg,hlk];split
  ·rfl
  ·exact qXa m r k
theorem qVn {a b:Nat} (hab:a≠b):∀ (l:aJ) (_:rlk l b=none) (k:Nat),rlk (qTf a b l) k=if k=b then (rlk l a).map (Row.ren (nm a b)) else if k=a then none else (rlk l k).map (Row.ren (nm a b))
|[],_,k=>by simp [qTf,rlk]
|(j,r) :: t,h,k=>by
  simp only [rlk] at h
  by_cases hj:j=b
  ·rw [if_pos hj] at h;cases h
  ·rw [if_neg hj] at h
   have ih:=qVn hab t h k
   simp only [qTf,rlk]
   by_cases e:j=a
   ·subst e;rw [if_pos rfl,if_pos rfl]
    by_cases e2:k=b
    ·subst e2;rw [if_pos rfl,if_pos rfl];rfl
    ·rw [if_neg (by omega),ih,if_neg e2,if_neg e2]
     by_cases e3:k=j
     ·rw [if_pos e3,if_pos e3]
     ·rw [if_neg e3,if_neg e3,if_neg (by omega)]
   ·rw [if_neg e,if_neg e]
    by_cases e2:j=k
    ·subst e2;rw [if_pos rfl,if_neg hj,if_neg e,if_pos rfl];rfl
    ·rw [if_neg e2,ih,if_neg e2]
section
variable {P:Program} {N:Nat} {x:Code} {Q:gF} {c:Ctx} {S S':HS} {look:Nat→Option Value} {w:World}
theorem Inv.name (I:Inv c S look w) {a b ty sz:Nat} {nw:Bool} {els:List (List FV)} (hab:a≠b) (hb:rlk S.st b=none) (ha:rlk S.st a=some (.sl nw ty sz els)):Inv c (S.name a b) look w:=by
 obtain ⟨ρ,xs,G⟩:=I
 let ρ':Nat→Value:=fun i=>if i=b then ρ a else ρ i
 let xs':Nat→List Value:=fun i=>if i=b then xs a else xs i
 have hm:∀ i j,nm a b i=some j→ρ' j=ρ i:=fun i j h=>by
  unfold nm at h
  by_cases e:i=a
  ·rw [if_pos e] at h;simp only [Option.some.injEq] at h;subst h;subst e;show (if b=b then _ else _)=_;rw [if_pos rfl]
  ·rw [if_neg e] at h
   by_cases e2:i=b
   ·rw [if_pos e2] at h;cases h
   ·rw [if_neg e2] at h;simp only [Option.some.injEq] at h;subst h;show (if i=b then _ else _)=_;rw [if_neg e2]
 have back:∀ i r,rlk (S.name a b).st i=some r→∃ j r0,nm a b j=some i∧rlk S.st j=some r0∧r=r0.ren (nm a b)∧xs' i=xs j:=by
  intro i r hi;simp only [HS.name,qVn hab _ hb] at hi
  by_cases e:i=b
  ·subst e;rw [if_pos rfl,ha] at hi;simp only [Option.map_some,Option.some.injEq] at hi;exact ⟨a,_,by simp [nm],ha,hi.symm,by show (if i=i then _ else _)=_;rw [if_pos rfl]⟩
  ·rw [if_neg e] at hi
   by_cases e2:i=a
   ·rw [if_pos e2] at hi;cases hi
   ·rw [if_neg e2] at hi
    cases hs:rlk S.st i with
   |none=>rw [hs] at hi;cases hi
   |some r0 =>
     rw [hs] at hi;simp only [Option.map_some,Option.some.injEq] at hi;exact ⟨i,r0,by simp [nm,e,e2],hs,hi.symm,by show (if i=b then _ else _)=_;rw [if_neg e]⟩
 have hA:∀ g,c.A ρ' (S.name a b).st g→c.A ρ S.st g:=by
  rintro g (h0|⟨i,r,hi,hg⟩)
  ·exact .inl h0
  ·obtain ⟨j,r0,h1,h2,-,-⟩:=back i r hi;rw [hm j i h1] at hg;exact .inr ⟨j,r0,h2,hg⟩
 have tr:∀ v y,RepH w (c.A ρ S.st) c.n0 ρ v y→RepH w (c.A ρ' (S.name a b).st) c.n0 ρ' v (y.ren (nm a b)):=fun v y h=>(h.up (Nat.le_refl _) (fun _ _ _=>rfl) (fun b _=>hA b) (Nat.le_refl _)).ren hm
 refine ⟨ρ',xs',fun i r hi=>?_,fun i j r s g hne hi hj hgi hgj=>?_,fun k y hk=>?_,G.kept,G.a0⟩
 ·obtain ⟨j,r0,h1,h2,rfl,h4⟩:=back i r hi
  have R:=G.rows j r0 h2
  obtain ⟨f1,f2,f3,f4⟩:=Row.ren_facts (nm a b) r0;rw [h4];refine ⟨by rw [f1,f2,f3,hm j i h1];exact R.own,?_,fun g hg=>by rw [f4];rw [hm j i h1] at hg;exact R.new g hg⟩
  have rp:=R.rep
  cases r0 with
 |sl nw ty sz els =>
   refine ⟨rp.1,fun p k hp hk=>?_⟩
   obtain ⟨u,u1,u2,u3⟩:=rp.2 p k hp hk;exact ⟨u,u1,u2,u3.up (Nat.le_refl _) (fun _ _ _=>rfl) (fun b _=>hA b) (Nat.le_refl _)⟩
 |bx nw ty cells =>
   refine ⟨?_,fun k hk=>?_⟩
   ·have hji:j=i:=by
     unfold nm at h1
     by_cases e:j=a
     ·subst e;rw [ha] at h2;cases h2
     ·rw [if_neg e] at h1
      by_cases e2:j=b
      ·rw [if_pos e2] at h1;cases h1
      ·rw [if_neg e2] at h1;exact Option.some.inj h1
    rw [hm j i h1];rw [← hji];exact rp.1
   ·rw [List.length_map] at hk;obtain ⟨u,u1,u2,u3⟩:=rp.2 k hk;refine ⟨u,u1,u2,?_⟩;rw [List.getElem_map];exact tr _ _ u3
 |hl nw ty sz els =>
   refine ⟨fun y hy=>?_,fun p k hp hk=>?_⟩
   ·obtain ⟨z,hz,rfl⟩:=List.mem_map.1 hy;rw [List.length_map];exact rp.1 z hz
   ·simp only [List.length_map] at hp;simp only [List.getElem_map,List.length_map] at hk ⊢;obtain ⟨u,u1,u2,u3⟩:=rp.2 p k hp hk;exact ⟨u,u1,u2,tr _ _ u3⟩
 ·obtain ⟨i',r0,h1,h2,-,-⟩:=back i r hi;obtain ⟨j',s0,h3,h4,-,-⟩:=back j s hj;rw [hm i' i h1] at hgi;rw [hm j' j h3] at hgj;exact G.apart i' j' r0 s0 g (fun e=>hne (by subst e;rw [h1] at h3;exact Option.some.inj h3)) h2 h4 hgi hgj
 ·simp only [HS.name,qXa] at hk
  cases hx0:hlk S.env k with
 |none=>rw [hx0] at hk;cases hk
 |some x0 =>
   rw [hx0] at hk;simp only [Option.map_some,Option.some.injEq] at hk;subst hk;obtain ⟨v,h1,h2⟩:=G.env k x0 hx0;exact ⟨v,h1,tr v x0 h2⟩
end
theorem zBy (e:bP) (s:aJ) (a b:Nat):HS.name ⟨e,s⟩ a b=⟨qYg (nm a b) e,qTf a b s⟩:=rfl
theorem zPj (a b i:Nat):nm a b i=if i=a then some b else if i=b then none else some i:=rfl
theorem qYf (m:Nat→Option Nat):qYg m []=[]:=rfl
theorem qSn (m:Nat→Option Nat) (k:Nat) (h:HV) (r:bP):qYg m ((k,h) :: r)=(k,h.ren m) :: qYg m r:=rfl
theorem qU7 (a b:Nat):qTf a b []=[]:=rfl
theorem qPq (a b k:Nat) (r:Row) (t:aJ):qTf a b ((k,r) :: t)=(if k=a then b else k,r.ren (nm a b)) :: qTf a b t:=rfl
end Go.Eng
end
