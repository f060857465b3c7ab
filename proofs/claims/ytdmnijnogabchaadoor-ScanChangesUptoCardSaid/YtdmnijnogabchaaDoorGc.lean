/-
  The engine of values: texts Rel, Hr, Hk, Hl, Hlo, He, Enc, Ste, Met, Spl, Nam, laid together.
-/
import Derived.Test.YtdmnijnogabchaaDoorEng
import Derived.Test.YtdmnijnogabchaaDoorGb
set_option linter.unusedSimpArgs false
set_option linter.unusedVariables false
section
namespace Go.Eng
open Go Go.RowKit
section
variable {P:Program} {N:Nat} {C:World→Prop} {ops:List Oper} {n:Nat} {l:Env} {R:Nat→Value→World→Prop}
def cH (l:Env) (ops:List Oper) (vs:Nat→Value):Nat→Env
|0=>l
|i + 1=>stp (aG ops i) (vs i) (cH l ops vs i)
def DLt (N:Nat) (ops:List Oper) (n:Nat):Prop:=∀ i t,i < n→aG ops i=some t→t < N
variable {vs:Nat→Value}
theorem oZ (hl:DLt N ops n) (hk:bF N l=true):∀ i,i≤n→bF N (cH l ops vs i)=true
|0,_=>hk
|i + 1,hi=>dM (oZ hl hk i (by omega)) (fun k e=>hl i k (by omega) e)
theorem eN (base:Array Value) (t:Nat):∀ i,(∀ j,j < i→aG ops j≠some t) →
  lk (cH l ops vs i) t=lk l t∧(fD base (cH l ops vs i))[t]?=(fD base l)[t]?
|0,_=>⟨rfl,rfl⟩
|i + 1,h=>by
  obtain ⟨h1,h2⟩:=eN base t i (fun j hj=>h j (by omega))
  have hne:=h i (by omega)
  simp only [cH]
  cases hd:aG ops i with
 |none=>exact ⟨h1,h2⟩
 |some d =>
   have:d≠t:=fun e=>hne (by rw [hd,e])
   simp only [stp,lk,fD,if_neg this];exact ⟨h1,by rw [Array.getElem?_setIfInBounds_ne this];exact h2⟩
theorem eP (hl:DLt N ops n) {base:Array Value} (hbase:base.size=N) {t j:Nat} (hj:aG ops j=some t) (huniq:∀ k,k < n→k≠j→aG ops k≠some t):∀ i,i≤n→j < i →
  lk (cH l ops vs i) t=some (vs j)∧(fD base (cH l ops vs i))[t]?=some (vs j)
|0,_,h=>absurd h (Nat.not_lt_zero _)
|i + 1,hi,h=>by
  simp only [cH]
  by_cases e:j=i
  ·subst e;rw [hj];simp only [stp,lk,fD,if_true,true_and];rw [Array.getElem?_setIfInBounds_self_of_lt (by rw [fU,hbase];exact hl j t (by omega) hj)]
  ·obtain ⟨h1,h2⟩:=eP hl hbase hj huniq i (by omega) (by omega)
   have hne:=huniq i (by omega) (Ne.symm e)
   cases hd:aG ops i with
  |none=>exact ⟨h1,h2⟩
  |some d =>
    have:d≠t:=fun e=>hne (by rw [hd,e])
    simp only [stp,lk,fD,if_neg this];exact ⟨h1,by rw [Array.getElem?_setIfInBounds_ne this];exact h2⟩
theorem qPl {keys:List Nat} (ok:RegOk keys ops n) (F:Fr N) (hk:bF N l=true) (aV:∀ t ∈ keys,∃ v,lk l t=some v) (hlt:DLt N ops n)
  {Le:Nat→World→World→Prop} (hLe:∀ i w,Le i w w) (hS:∀ j i u w w',j < n→i < n→j≠i→C w→R j u w→Le i w w'→R j u w')
  (H:∀ i o,i < n→ops[i]?=some o→∀ (vs:Nat→Value) (w:World),C w→(∀ j t,j < i→aG ops j=some t→t ∈ o.looksAt ops.toArray→R j (vs j) w) →
   ∃ b,gd (cH l ops vs i) (bQ ops) o.guard (·=b)∧(b=true→Yields P (execOp (evD (cH l ops vs i)) o) w fun u w'=>R i u w'∧C w'∧Le i w w')∧(b=false→R i undef w))
  {Q:Exit→Act→World→Prop} (hT:∀ (vs:Nat→Value) (w:World),C w→(∀ j,j < n→R j (vs j) w)→wpListIn (FW F.ds.2) 0 P ops.toArray Q (ops.drop n) (mk F (cH l ops vs n)) w) :
  ∀ (fuel:Nat) (listed:Array Bool) (a:Act) (w:World) (vs:Nat→Value),unl listed=fuel→Mid N C ops n (fD F.base l) F.ds.1 vs listed a w→(∀ j,j < n→listed.getD j false=true→R j (vs j) w)→wpAnyIn (FW F.ds.2) 0 P .any ops.toArray Q fuel listed a w:=by
 have uniq:∀ i j t,i < n→j < n→aG ops i=some t→aG ops j=some t→i=j:=by
  intro i j t hi hj h1 h2
  rcases Nat.lt_trichotomy i j with h|h|h
  ·rcases ok.uniq j i hj h with e|e
   ·rw [h2] at e;cases e
   ·exact absurd (h2.trans h1.symm) e
  ·exact h
  ·rcases ok.uniq i j hi h with e|e
   ·rw [h1] at e;cases e
   ·exact absurd (h1.trans h2.symm) e
 have final:∀ (listed:Array Bool) (a:Act) (w:World) (vs:Nat→Value),Mid N C ops n (fD F.base l) F.ds.1 vs listed a w→(∀ j,j < n→listed.getD j false=true)→a=mk F (cH l ops vs n):=by
  intro listed a w vs M hall;obtain ⟨tm,df⟩:=a
  have hd:df=F.ds.1:=M.defers
  subst hd;show Act.mk _ _=Act.mk _ _
  congr 1
  apply Array.ext_getElem?
  intro t
  by_cases h:∃ j,j < n∧aG ops j=some t
  ·obtain ⟨j,hj,hd⟩:=h
   have h1:=M.new j t hj (hall j hj) hd
   have h2:=(eP (l:=l) (vs:=vs) hlt F.hN hd (fun k hk hne e=>hne (uniq k j t hk hj e hd)) n (Nat.le_refl _) hj).2
   exact h1.trans h2.symm
  ·have h':∀ j,j < n→aG ops j≠some t:=fun j hj e=>h ⟨j,hj,e⟩
   have h1:=M.old t (fun j hj _=>h' j hj)
   have h2:=(eN (l:=l) (vs:=vs) F.base t n h').2
   exact h1.trans h2.symm
 have slot:∀ (listed:Array Bool) (a:Act) (w:World) (vs:Nat→Value) (i:Nat) (o:Oper) (t:Nat),Mid N C ops n (fD F.base l) F.ds.1 vs listed a w→i < n→ops[i]?=some o→i ∈ Region.ready .any ops.toArray listed→t ∈ o.looksAt ops.toArray →
   ∃ X,a.tmps[t]?=some X∧lk (cH l ops vs i) t=some X:=by
  intro listed a w vs i o t M hi ho hr ht;obtain ⟨l1,l2⟩:=ok.looks i o t hi ho ht
  by_cases h:∃ j,j < n∧aG ops j=some t
  ·obtain ⟨j,hj,hd⟩:=h;obtain ⟨hji,he⟩:=l1 j hj hd;exact ⟨vs j,M.new j t hj (bX hr he) hd,(eP (l:=l) (vs:=vs) hlt F.hN hd (fun k hk hne e=>hne (uniq k j t hk hj e hd)) i (by omega) hji).1⟩
  ·have h':∀ j,j < n→aG ops j≠some t:=fun j hj e=>h ⟨j,hj,e⟩
   rcases l2 with ⟨j,hj,hd⟩|hkey
   ·exact absurd hd (h' j (by omega))
   ·obtain ⟨v,hv⟩:=aV t hkey;refine ⟨v,?_,?_⟩
    ·rw [M.old t (fun j hj _=>h' j hj)];exact fQ F hk hv
    ·rw [(eN (l:=l) (vs:=vs) F.base t i (fun j hj=>h' j (by omega))).1];exact hv
 intro fuel
 induction fuel with
|zero =>
  intro listed a w vs hu M MR
  have hall:∀ j,j < ops.length→listed.getD j false=true:=fun j hj=>wP hu (by rw [M.size];exact hj)
  have hn:n=ops.length:=by
   rcases Nat.lt_or_ge n ops.length with h|h
   ·have:=M.heads n (hall n h);omega
   ·have:=ok.hn;omega
  have ha:=final listed a w vs M (fun j hj=>hall j (by omega))
  subst ha;exact hZ ok 0 n listed _ w (by omega) (Nat.le_refl _) M.size (fun i hi=>⟨fun _=>by omega,fun _=>hall i hi⟩) (hT vs w M.cls fun j hj=>MR j hj (hall j (by omega)))
|succ fuel ih =>
  intro listed a w vs hu M MR
  by_cases hdone:∀ j,j < n→listed.getD j false=true
  ·have ha:=final listed a w vs M hdone
   subst ha
   have hcount:∀ (m:Nat) (x:Array Bool),x.size=ops.length→(∀ i,i < ops.length→(x.getD i false=true↔i < m))→m≤ops.length→m + unl x=ops.length:=by
    intro m;generalize hd:ops.length - m=d
    induction d generalizing m with
   |zero =>
     intro x hx hl hm
     have:unl x=0:=by
      unfold unl;rw [List.length_eq_zero_iff,List.filter_eq_nil_iff];intro b hb;obtain ⟨i,hi,rfl⟩:=List.getElem_of_mem hb
      have hi':i < x.size:=by simpa using hi
      have:=(hl i (by omega)).2 (by omega)
      simp only [Array.getD,hi',dite_true] at this;simp [show x.toList[i]=true from this]
     omega
   |succ d ihd =>
     intro x hx hl hm
     have hmlt:m < ops.length:=by omega
     have h0:x.getD m true=false:=by
      have:¬ x.getD m false=true:=fun e=>by have:=(hl m hmlt).1 e;omega
      have hm':m < x.size:=by omega
      simp only [Array.getD,hm',dite_true] at this ⊢
      simpa using this
     have:=ihd (m + 1) (by omega) (x.setIfInBounds m true) (by simpa using hx) (fun i hi=>by
      by_cases e:m=i
      ·subst e
       have:m < x.size:=by omega
       simp [this]
      ·rw [getD_set_ne false e,hl i hi];omega) (by omega)
     have:=mW h0
     omega
   have hl:∀ i,i < ops.length→(listed.getD i false=true↔i < n):=fun i hi=>⟨M.heads i,hdone i⟩
   have:=hcount n listed M.size hl ok.hn
   exact hZ ok (fuel + 1) n listed _ w (by omega) (Nat.le_refl _) M.size hl (hT vs w M.cls fun j hj=>MR j hj (hdone j hj))
  ·have hex:∃ j,j < n∧listed.getD j false≠true:=by
    refine Classical.byContradiction fun hne=>hdone fun j hj=>?_
    refine Classical.byContradiction fun h=>hne ⟨j,hj,h⟩
   have hn:=ok.hn
   have hready:∃ j,j ∈ Region.ready .any ops.toArray listed:=by
    obtain ⟨j,hj,hjl⟩:=hex
    have:∀ d j,j=d→j < n→listed.getD j false≠true→∃ j,j ∈ Region.ready .any ops.toArray listed:=by
     intro d
     induction d using Nat.strongRecOn with
    |_ d ihd =>
      intro j hd hj hjl;subst hd
      have ho:ops[j]?=some (ops[j]'(by omega)):=List.getElem?_eq_getElem _
      by_cases hall:∀ e ∈ (ops[j]'(by omega)).after,Region.binds .any e=true→listed.getD e.on false=true
      ·refine ⟨j,mem_ready.2 ⟨?_,ops[j]'(by omega),by simp,hall⟩⟩
       have h2:j < listed.size:=by rw [M.size];omega
       simp only [Array.getD,h2,dite_true] at hjl ⊢
       simpa using hjl
      ·have:∃ e ∈ (ops[j]'(by omega)).after,Region.binds .any e=true∧listed.getD e.on false≠true:=by
        refine Classical.byContradiction fun hne=>hall fun e he hb=>?_
        refine Classical.byContradiction fun h=>hne ⟨e,he,hb,h⟩
       obtain ⟨e,he,hb,hl⟩:=this
       have hlt:=ok.down j _ e ho he hb
       exact ihd e.on hlt e.on rfl (by omega) hl
    exact this j j rfl hj hjl
   obtain ⟨j0,hj0⟩:=hready;refine ⟨fun h0=>absurd hj0 (by rw [h0];simp),fun i hi=>?_⟩
   obtain ⟨hun,o,ho,hall⟩:=mem_ready.1 hi
   have ho':ops[i]?=some o:=by simpa using ho
   have hilt:i < ops.length:=(List.getElem?_eq_some_iff.1 ho').1
   have hin:i < n:=by
    rcases Nat.lt_or_ge i n with h|h
    ·exact h
    ·exfalso
     apply hdone
     have key:∀ d j,i - j=d→j < i→listed.getD j false=true:=by
      intro d
      induction d using Nat.strongRecOn with
     |_ d ihd =>
       intro j hd hji;obtain ⟨k,hk1,hk2,hk3⟩:=ok.tail i j hilt h hji
       rcases Nat.lt_or_ge k i with hki|hki
       ·exact M.clos k j (ihd (i - k) (by omega) k rfl hki) hk3
       ·have:k=i:=by omega
        subst this;exact bX hi hk3
     exact fun j hj=>key _ j rfl (by omega)
   have hu':unl (listed.setIfInBounds i true)=fuel:=by have:=mW hun;omega
   have hdi:aG ops i=o.dst:=by unfold aG;rw [ho'];rfl
   have hlt':fG N o.dst:=by
    cases hd:o.dst with
   |none=>trivial
   |some t=>exact hlt i t hin (hdi.trans hd)
   let nxt:Value→Nat→Value:=fun u j=>if j=i then u else vs j
   have nxt_i:∀ u,nxt u i=u:=fun u=>if_pos rfl
   have nxt_ne:∀ u j,j≠i→nxt u j=vs j:=fun u j h=>if_neg h
   have rest:∀ u w',R i u w'→Le i w w'→∀ j,j < n→(listed.setIfInBounds i true).getD j false=true→R j (nxt u j) w':=by
    intro u w' hu hB j hj hl
    by_cases e:j=i
    ·subst e;rw [nxt_i];exact hu
    ·rw [nxt_ne u j e];rw [getD_set_ne false (Ne.symm e)] at hl;exact hS j i _ w w' hj hin e M.cls (MR j hj hl) hB
   have step:∀ u w',C w'→Mid N C ops n (fD F.base l) F.ds.1 (nxt u) (listed.setIfInBounds i true) (a.put o.dst u) w':=by
    intro u w' hC
    have hlt:=hlt'
    have hset:∀ j,(listed.setIfInBounds i true).getD j false=true→j=i∨listed.getD j false=true:=by
     intro j h
     by_cases e:i=j
     ·exact .inl e.symm
     ·rw [getD_set_ne false e] at h;exact .inr h
    have hseti:(listed.setIfInBounds i true).getD i false=true:=by
     have:i < listed.size:=by rw [M.size];exact hilt
     simp [this]
    refine ⟨by simpa using M.size,?_,?_,?_,?_,?_,?_,hC⟩
    ·intro k j hk he
     rcases hset k hk with rfl|hk
     ·exact getD_set_true (bX hi he)
     ·exact getD_set_true (M.clos k j hk he)
    ·intro k hk
     rcases hset k hk with rfl|hk
     ·exact hin
     ·exact M.heads k hk
    ·cases hd:o.dst <;> exact M.defers
    ·cases hd:o.dst with
    |none=>exact M.tsize
    |some d=>simp only [Act.put,Array.size_setIfInBounds];exact M.tsize
    ·intro j t hj hjl hd
     rcases hset j hjl with rfl|hjl'
     ·rw [hdi] at hd;rw [hd] at hlt ⊢;simp only [Act.put];rw [Array.getElem?_setIfInBounds_self_of_lt (by rw [M.tsize];exact hlt),nxt_i]
     ·by_cases e:j=i
      ·subst e;rw [hdi] at hd;rw [hd] at hlt ⊢;simp only [Act.put];rw [Array.getElem?_setIfInBounds_self_of_lt (by rw [M.tsize];exact hlt),nxt_i]
      ·rw [nxt_ne u j e]
       have h1:=M.new j t hj hjl' hd
       cases hdo:o.dst with
      |none=>exact h1
      |some d =>
        have hne:d≠t:=fun e'=>e (uniq j i t hj hin hd (by rw [hdi,hdo,e']))
        simp only [Act.put];rw [Array.getElem?_setIfInBounds_ne hne];exact h1
    ·intro t ht
     have h1:=M.old t (fun j hj hjl=>ht j hj (getD_set_true hjl))
     have h2:=ht i hin hseti
     rw [hdi] at h2
     cases hdo:o.dst with
    |none=>exact h1
    |some d =>
      have hne:d≠t:=fun e'=>h2 (by rw [hdo,e'])
      simp only [Act.put];rw [Array.getElem?_setIfInBounds_ne hne];exact h1
   obtain ⟨b,hb,hbt,hbf⟩:=H i o hin ho' vs w M.cls fun j t hj hd ht=>by
    obtain ⟨l1,-⟩:=ok.looks i o t hin ho' ht;exact MR j (by omega) (bX hi (l1 j (by omega) hd).2)
   have hw:Region.wanted o (yielded ops.toArray a.tmps)=b:=by
    unfold gd at hb;split at hb
    ·rename_i hg;simp only [Region.wanted,hg];exact hb
    ·rename_i g want hg;split at hb
     ·rename_i d hd;split at hb
      ·rename_i bb hbb
       have hdd:aG ops g=some d:=by
        unfold aG;simp only [bQ,List.getElem?_map,Option.map_eq_some_iff] at hd;obtain ⟨x,hx,hx'⟩:=hd;simp [hx,hx']
       obtain ⟨X,hX1,hX2⟩:=slot listed a w vs i o d M hin ho' hi (dX hg hdd);rw [hbb] at hX2
       cases hX2
       have:yielded ops.toArray a.tmps g=some bb:=by
        unfold yielded;unfold aG at hdd;simp only [List.getElem?_toArray,hdd,Option.bind_some,hX1]
       simp only [Region.wanted,hg,this];rw [← hb]
       cases bb <;> cases want <;> rfl
      ·rename_i bb hnb hbb
       have hdd:aG ops g=some d:=by
        unfold aG;simp only [bQ,List.getElem?_map,Option.map_eq_some_iff] at hd;obtain ⟨x,hx,hx'⟩:=hd;simp [hx,hx']
       obtain ⟨X,hX1,hX2⟩:=slot listed a w vs i o d M hin ho' hi (dX hg hdd);rw [hbb] at hX2
       cases hX2
       have:yielded ops.toArray a.tmps g=none:=by
        unfold yielded;unfold aG at hdd;simp only [List.getElem?_toArray,hdd,Option.bind_some,hX1];split
        ·rename_i b' e;cases e;exact (hnb b' rfl).elim
        ·rfl
       simp only [Region.wanted,hg,this];rw [← hb];rfl
      ·exact hb.elim
     ·exact hb.elim
   unfold wpOpIn;simp only [ho,hw]
   cases b with
  |true =>
    simp only [if_true];refine (bY ?_)
    have hcong:execOp a.eval o=execOp (evD (cH l ops vs i)) o:=by
     refine execOp_congr o (ok.sel i o ho') (fun x hx=>?_)
     cases x with
    |tmp t =>
      obtain ⟨X,hX1,hX2⟩:=slot listed a w vs i o t M hin ho' hi (fW hx);simp [Act.eval,evD,ev,hX1,hX2]
    |const c=>rfl
    |global g=>rfl
    |func f=>rfl
    rw [hcong];exact (hbt rfl).mono fun u w' ⟨hu,hC,hB⟩=>ih _ _ _ _ hu' (step u w' hC) (rest u w' hu hB)
  |false =>
    simp only [Bool.false_eq_true,if_false];exact ⟨fun _ _=>trivial,ih _ _ _ _ hu' (step undef w M.cls) (rest undef w (hbf rfl) (hLe i w))⟩
end
section
variable {P:Program} {N:Nat} {Q:tP} {l:Env} {w:World}
theorem zFl {id:Nat} {ops:List Oper} (keys:List Nat) (n:Nat) (hm:P.follows .mixedOrders=true) (aV:kV l=keys) (hok:oG keys ops n=true) (hlt:DLt N ops n)
  {C:World→Prop} {R:Nat→Value→World→Prop} (hC:C w.drew) {Le:Nat→World→World→Prop} (hLe:∀ i w,Le i w w) (hS:∀ j i u w w',j < n→i < n→j≠i→C w→R j u w→Le i w w'→R j u w')
  (H:∀ i o,i < n→ops[i]?=some o→∀ (vs:Nat→Value) (w:World),C w→(∀ j t,j < i→aG ops j=some t→t ∈ o.looksAt ops.toArray→R j (vs j) w) →
   ∃ b,gd (cH l ops vs i) (bQ ops) o.guard (·=b)∧(b=true→Yields P (execOp (evD (cH l ops vs i)) o) w fun u w'=>R i u w'∧C w'∧Le i w w')∧(b=false→R i undef w))
  (hT:∀ (vs:Nat→Value) (w:World),C w→(∀ j,j < n→R j (vs j) w)→VC P N (bQ ops) (fun l' w'=>Q .normal l' w') (ops.drop n) (cH l ops vs n) w):W P N (.region id ops.toArray true) Q l w:=fun hk F=>by
 have ok:=gX hok
 refine wpIn_region_any hm ?_
 have:=qPl ok F hk (fun t ht=>lN (by rw [aV];exact ht)) hlt hLe hS H (Q:=qSw N F.ds Q)
  (fun vs w' hw' hR=>pJ F (K:=fun l w=>Q .normal l w) (fun l' w' hk' hK=>⟨F,l',rfl,rfl,hk',hK⟩) _ _ _ (oZ hlt hk n (Nat.le_refl _)) (hT vs w' hw' hR))
  ops.length (Array.replicate ops.length false) (mk F l) w.drew (fun _=>undef) (gJ _)
  ⟨by simp,(fun i j hi=>by rw [getD_replicate_false] at hi;cases hi),(fun i hi=>by rw [getD_replicate_false] at hi;cases hi),rfl,by simp [mk,fU,F.hN],(fun j t _ hl=>by rw [getD_replicate_false] at hl;cases hl),fun t _=>rfl,hC⟩
  (fun j _ hl=>by rw [getD_replicate_false] at hl;cases hl)
 simpa using this
theorem zFk {id:Nat} {ops:List Oper} (keys:List Nat) (n:Nat) (hm:P.follows .mixedOrders=true) (aV:kV l=keys) (hok:oG keys ops n=true) (hlt:DLt N ops n)
  {C:World→Prop} {R:Nat→Value→World→Prop} (hC:C w.drew) (hS:∀ i u w w',C w→R i u w→Below w.heap.size w w'→R i u w')
  (H:∀ i o,i < n→ops[i]?=some o→∀ (vs:Nat→Value) (w:World),C w→(∀ j t,j < i→aG ops j=some t→t ∈ o.looksAt ops.toArray→R j (vs j) w) →
   ∃ b,gd (cH l ops vs i) (bQ ops) o.guard (·=b)∧(b=true→Yields P (execOp (evD (cH l ops vs i)) o) w fun u w'=>R i u w'∧C w'∧Below w.heap.size w w')∧(b=false→R i undef w))
  (hT:∀ (vs:Nat→Value) (w:World),C w→(∀ j,j < n→R j (vs j) w)→VC P N (bQ ops) (fun l' w'=>Q .normal l' w') (ops.drop n) (cH l ops vs n) w):W P N (.region id ops.toArray true) Q l w :=
 zFl keys n hm aV hok hlt hC (Le:=fun _ w w'=>Below w.heap.size w w') (fun _ w=>Below.refl _ _) (fun j _ u w w' _ _ _ hc hr hb=>hS j u w w' hc hr hb) H hT
end
end Go.Eng
end

section
namespace Go.Eng
open Go Go.RowKit

def bL:Operand→List Nat
|.tmp t=>[t]
|_=>[]
def pR:List Operand→List Nat
|[]=>[]
|x :: r=>bL x ++ pR r
def lX:List (Nat × Operand)→List Nat
|[]=>[]
|(_,x) :: r=>bL x ++ lX r
def qCq:Option Operand→List Nat
|some x=>bL x
|none=>[]
def qE1:Callee→List Nat
|.value x=>bL x
|_=>[]
def bJ:Op→List Nat
|.move x=>bL x
|.assign x=>bL x
|.nilCheck x=>bL x
|.pick c a b=>bL c ++ (bL a ++ bL b)
|.extract x _=>bL x
|.field _ x _=>bL x
|.fieldAddr _ x _=>bL x
|.load _ x=>bL x
|.unOp _ _ x=>bL x
|.convert _ _ x=>bL x
|.indexAddr _ x i=>bL x ++ bL i
|.index _ x i=>bL x ++ bL i
|.slice _ x l h none=>bL x ++ (qCq l ++ qCq h)
|.binOp _ _ x y _=>bL x ++ bL y
|.build _ ps=>lX ps.toList
|.buildSlice _ _ ps=>lX ps.toList
|.makeSlice _ x y=>bL x ++ bL y
|.call ⟨k,args,_⟩=>qE1 k ++ pR args.toList
|_=>[]
theorem eZ {x:Operand} {t:Nat} (h:t ∈ bL x):x=.tmp t:=by
 cases x <;> simp [bL] at h
 subst h;rfl
theorem qE0:∀ {l:List Operand} {t:Nat},t ∈ pR l→Operand.tmp t ∈ l
|[],t,h=>by simp [pR] at h
|x :: r,t,h=>by
  simp only [pR,List.mem_append] at h
  rcases h with h|h
  ·rw [eZ h];exact List.mem_cons_self ..
  ·exact List.mem_cons_of_mem _ (qE0 h)
theorem uU:∀ {l:List (Nat × Operand)} {t:Nat},t ∈ lX l→Operand.tmp t ∈ l.map (·.2)
|[],t,h=>by simp [lX] at h
|(k,x) :: r,t,h=>by
  simp only [lX,List.mem_append] at h
  rcases h with h|h
  ·rw [List.map_cons,eZ h];exact List.mem_cons_self ..
  ·rw [List.map_cons];exact List.mem_cons_of_mem _ (uU h)
theorem qLq {x:Option Operand} {t:Nat} (h:t ∈ qCq x):x=some (.tmp t):=by
 cases x with
|none=>simp [qCq] at h
|some x=>rw [eZ h]
theorem qR4 {o:Op} {t:Nat} (h:t ∈ bJ o):Operand.tmp t ∈ o.operands:=by
 unfold bJ at h;split at h
 all_goals try simp only [List.mem_append] at h
 case h_13=>
  simp only [Op.operands]
  rcases h with h|h|h
  ·rw [eZ h];simp
  ·rw [qLq h];simp
  ·rw [qLq h];simp
 case h_15=>simpa [Op.operands] using uU h
 case h_16=>simpa [Op.operands] using uU h
 case h_18 =>
  simp only [Op.operands,Call.operands,Array.mem_append]
  rcases h with h|h
  ·refine .inl ?_;unfold qE1 at h;split at h
   ·rw [eZ h];simp
   ·simp at h
  ·exact .inr (by simpa using qE0 h)
 case h_19=>simp at h
 all_goals
  simp only [Op.operands]
  first
 |(rw [eZ h];simp;done)
 |(rcases h with h|h <;> (rw [eZ h];simp))
 |(rcases h with h|h|h <;> (rw [eZ h];simp))
def fE (ds:List (Option Nat)):Option (Nat × Bool)→List Nat
|none=>[]
|some (g,_)=>match ds[g]? with
 |some (some d)=>[d]
 |_=>[]
def dW (e:aR):List Nat→aR
|[]=>[]
|t :: r=>match hlk e t with
 |some h=>(t,h) :: dW e r
 |none=>dW e r
theorem jB {e:aR}:∀ {l:List Nat} {t:Nat} {h:HV},hlk (dW e l) t=some h→t ∈ l∧hlk e t=some h
|[],t,h,hh=>by simp [dW,hlk] at hh
|k :: r,t,h,hh=>by
  simp only [dW] at hh;split at hh
  ·rename_i x hx;simp only [hlk] at hh
   by_cases ek:k=t
   ·subst ek;rw [if_pos rfl] at hh;exact ⟨List.mem_cons_self ..,by rw [hx];exact hh⟩
   ·rw [if_neg ek] at hh;obtain ⟨a,b⟩:=jB hh;exact ⟨List.mem_cons_of_mem _ a,b⟩
  ·obtain ⟨a,b⟩:=jB hh;exact ⟨List.mem_cons_of_mem _ a,b⟩
def zJy (P:Program) (f:FuncId) (args:List HV) (T:HS) (K:HV→Prop):Prop :=
 aL P f=true∧∃ h,K h∧∀ (c:Ctx) (look:Nat→Option Value) (w:World) (ρ:Nat→Value) (xs:Nat→List Value) (vs:List Value),Good c T look w ρ xs→jR w (c.A ρ T.st) c.n0 ρ vs args →
  Calls P f vs.toArray w (Ret fun u w'=>RepH w' (c.A ρ T.st) c.n0 ρ u h∧Below w.heap.size w w')
def jA:aR→Bool
|[]=>true
|(_,.v _) :: r=>jA r
|(_,.lst _ _) :: r=>jA r
|(_,.agg _) :: r=>jA r
|_=>false
def qZ4 (d:Option Nat) (S:HS) (K:HS→Prop):HOut→Prop
|.go c (.own i) S'=>match rlk S'.st i with
 |some (.sl _ _ _ els)=>c∧K (S.set d (.lst true els))
 |_=>False
|_=>False
def zGi:Op→Bool
|.buildSlice ..=>true
|.makeSlice ..=>true
|_=>false
def tK (P:Program) (o:Oper) (S T:HS) (K:HS→Prop):HOut→Prop
|.go c h _=>match cN o.op with
 |true=>c∧K (S.set o.dst h)
 |false=>match zGi o.op && jA T.env with
  |true=>qZ4 o.dst S K (hop P ⟨T.env,[]⟩ (mH o.dst) o.op)
  |false=>False
|.call f args=>zJy P f args T (fun x=>iQ K (S.set o.dst x))
|.eqn t x y neg=>∃ r,EqR P t x.toArray y.toArray r∧iQ K (S.set o.dst (.v (.bool (neg ^^ r))))
|.bytes _ _=>False
|.bad=>False
def qXm (P:Program) (N:Nat) (o:Oper) (S T:HS) (K:HS→Prop):Prop:=match cQ N o.dst with
|true=>tK P o S T K (hop P T (mH o.dst) o.op)
|false=>False
def fR (P:Program) (N:Nat) (o:Oper) (S T:HS) (K:HS→Prop):GOut→Prop
|.yes=>qXm P N o S T K
|.no=>iR N o.dst S K
|.ask d b want=>match b == want with
 |true=>qXm P N o (S.rep d (.v (.bool want))) (T.rep d (.v (.bool want))) K
 |false=>iR N o.dst (S.rep d (.v (.bool (!want)))) K
|.bad=>False
def HVr (P:Program) (N:Nat) (ds:List (Option Nat)) (K:HS→Prop):List Oper→HS→Prop
|[],S=>K S
|o :: rest,S=>fR P N o S ⟨dW S.env (fE ds o.guard ++ bJ o.op),S.st⟩ (HVr P N ds K rest) (hG (dW S.env (fE ds o.guard ++ bJ o.op)) ds o.guard)
end Go.Eng
end

section
namespace Go.Eng
open Go Go.RowKit
section
variable {P:Program} {N:Nat} {c:Ctx} {S T:HS} {Q:dS} {l:Env} {look:Nat→Option Value} {w w':World} {ρ:Nat→Value} {xs:Nat→List Value} {K:HS→Prop}
theorem RepH.above {A:Nat→Prop} {n0:Nat} {v:Value} {x:HV} (h:RepH w A n0 ρ v x) (B:Below w.heap.size w w'):RepH w' A n0 ρ v x:=h.up B.size (fun b hlt _=>B.block b hlt) (fun b _ h=>h) (Nat.le_refl _)
theorem jH {d:Nat} {h:HV}:∀ {E:aR},hlk E d=some h→∀ k,hlk (qC d h E) k=hlk E k
|[],e,k=>by simp [hlk] at e
|(j,x) :: r,e,k=>by
  simp only [hlk] at e;simp only [qC]
  by_cases ej:j=d
  ·rw [if_pos ej] at e ⊢;simp only [Option.some.injEq] at e;subst e;rfl
  ·rw [if_neg ej] at e ⊢;simp only [hlk,jH e k]
theorem Good.sameEnv {E:aR} {st:aC} (G:Good c ⟨E,st⟩ look w ρ xs) {E':aR} (h:∀ k,hlk E' k=hlk E k):Good c ⟨E',st⟩ look w ρ xs:=⟨G.rows,G.apart,fun k x hk=>G.env k x (by rw [← h k];exact hk),G.kept,G.a0⟩
theorem qVz (G:Good c T (lk l) w ρ xs) {id i:Nat} {o:Op} {ty:TypeId} {cnd:Prop} {S':HS} (hp:jA T.env=true) (h:hop P ⟨T.env,[]⟩ id o=.go cnd (.own i) S') {nw:Bool} {t sz:Nat} {els:List (List FV)} (hr:rlk S'.st i=some (.sl nw t sz els)) (hc:cnd) :
  aX P l o ty w (fun u w'=>RepH w' (c.A ρ T.st) c.n0 ρ u (.lst true els)∧Below w.heap.size w w') (fun u w'=>RepH w' (c.A ρ T.st) c.n0 ρ u (.lst true els)∧Below w.heap.size w w'):=by
 have hA:∀ b,c.A ρ T.st b→b < w.heap.size:=by
  rintro b (h0|⟨i,r,hi,hb⟩)
  ·have:=(G.a0 b h0).1;have:=G.kept.size;omega
  ·exact G.lt hi hb
 have G2:Good ⟨w,fun _=>False,c.A ρ T.st,c.n0,Nat.le_trans c.hn G.kept.size,fun _ _=>False⟩ ⟨T.env,[]⟩ (lk l) w ρ xs:=by
  refine ⟨fun id r hr=>by simp [rlk] at hr,fun i j r s b hne hi=>by simp [rlk] at hi,fun k x hk=>?_,Kept.refl _ _,fun b hb=>⟨hA b hb,fun h=>h⟩⟩
  obtain ⟨u,h1,h2⟩:=G.env k _ hk;refine ⟨u,h1,h2.up (Nat.le_refl _) (fun _ _ _=>rfl) (fun b _ hb=>?_) (Nat.le_refl _)⟩
  rcases hb with hb|⟨i,r,hi,-⟩
  ·exact hb
  ·simp [rlk] at hi
 refine bE (qLn G2 (aS _ _) h hc) fun u w' ⟨ρ2,xs2,G3,r⟩=>?_
 have B:Below w.heap.size w w':=G3.kept.below (fun _ _ h=>h)
 refine ⟨?_,B⟩
 cases r
 obtain ⟨o1,o2,o3⟩:=cL G3 hr
 have R0:=G3.rows i _ hr
 refine .lst (xE o1 o2 (fun p k hp hk=>?_) (fun b hb=>?_))
 ·obtain ⟨u,a,b,d⟩:=o3 p k hp hk;exact ⟨u,a,b,d.up (Nat.le_refl _) (fun _ _ _=>rfl) (fun b _ h=>.inl h) (Nat.le_refl _)⟩
 ·rcases (R0.new b hb).1 with h|h
  ·have h:w.heap.size≤b:=h
   exact ⟨fun hA'=>by have:=hA b hA';omega,fun _=>by have:=c.hn;have:=G.kept.size;omega⟩
  ·exact h.elim
theorem tJ {o:Oper} (h:qXm P N o S T K):fG N o.dst∧∃ x,K (S.set o.dst x)∧∀ (c:Ctx) (l:Env) (w:World) (ρ:Nat→Value) (xs:Nat→List Value),Good c T (lk l) w ρ xs →
  aX P l o.op o.type w (fun u w'=>RepH w' (c.A ρ T.st) c.n0 ρ u x∧Below w.heap.size w w') (fun u w'=>RepH w' (c.A ρ T.st) c.n0 ρ u x∧Below w.heap.size w w'):=by
 unfold qXm at h;split at h
 ·rename_i hd;refine ⟨dN hd,?_⟩
  cases ho:hop P T (mH o.dst) o.op with
 |go c' hv S' =>
   rw [ho] at h;unfold tK at h;dsimp only at h;split at h
   ·rename_i hq;obtain ⟨h0,h1⟩:=h;refine ⟨hv,h1,fun c l w ρ xs G=>?_⟩
    obtain ⟨v,hK,hv'⟩:=zB1 (ty:=o.type) (qEt (ty:=0) G (aS _ _) ho hq h0);exact bE (hv' w (Below.refl _ _)) fun u w' ⟨e,B⟩=>by subst e;exact ⟨hK.2.2.above B,B⟩
   ·split at h
    ·rename_i hm;simp only [Bool.and_eq_true] at hm;unfold qZ4 at h;split at h
     ·rename_i c2 i S2 hm2;split at h
      ·rename_i nw t sz els hr;exact ⟨_,h.2,fun c l w ρ xs G=>qVz G hm.2 hm2 hr h.1⟩
      ·exact h.elim
     ·exact h.elim
    ·exact h.elim
 |call f args =>
   rw [ho] at h;obtain ⟨hf,x,hK,hc⟩:=h;refine ⟨x,hK,fun c l w ρ xs G=>?_⟩
   obtain ⟨y,ay,ats,e,hfn,has⟩:=xZ ho;rw [e];obtain ⟨vs,e1,e2,e3⟩:=G.evs (aS _ _) has;unfold aX;simp only [aK,bG,e1,G.fn (aS _ _) hfn];exact ⟨hf,hc c (lk l) w ρ xs vs G ⟨e2,e3⟩⟩
 |eqn t x y neg =>
   rw [ho] at h;obtain ⟨r,h1,h2⟩:=h;refine ⟨_,h2,fun c l w ρ xs G=>?_⟩
   exact bE (qEu G (aS _ l) ho h1) fun v w' ⟨e,_,r⟩=>by subst e;exact ⟨r,Below.refl _ _⟩
 |bytes ok s=>rw [ho] at h;exact h.elim
 |bad=>rw [ho] at h;exact h.elim
 ·exact h.elim
def FrOk (ops:List Oper) (E0:aR) (hs:Nat→HV) (i:Nat) (E:aR):Prop:=∀ t h,hlk E t=some h→(∃ j,j < i∧aG ops j=some t∧hs j=h)∨((∀ j,j < i→aG ops j≠some t)∧hlk E0 t=some h)
theorem FrOk.congr {ops:List Oper} {E0 E:aR} {hs hs':Nat→HV} {i:Nat} (h:FrOk ops E0 hs i E) (he:∀ j,j < i→hs' j=hs j):FrOk ops E0 hs' i E:=fun t x hx=>by
 rcases h t x hx with ⟨j,a,b,d⟩|r
 ·exact .inl ⟨j,a,b,by rw [he j a];exact d⟩
 ·exact .inr r
theorem FrOk.env {ops:List Oper} {E0 E E':aR} {hs:Nat→HV} {i:Nat} (h:FrOk ops E0 hs i E) (he:∀ t x,hlk E' t=some x→hlk E t=some x):FrOk ops E0 hs i E':=fun t x hx=>h t x (he t x hx)
theorem FrOk.set {ops:List Oper} {E0:aR} {hs:Nat→HV} {i:Nat} {S:HS} (h:FrOk ops E0 hs i S.env) {o:Oper} (ho:ops[i]?=some o):FrOk ops E0 hs (i + 1) (S.set o.dst (hs i)).env:=by
 have hd:aG ops i=o.dst:=by unfold aG;rw [ho];rfl
 intro t x hx
 cases e:o.dst with
|none =>
  rw [e] at hx hd
  rcases h t x hx with ⟨j,a,b,d⟩|⟨a,b⟩
  ·exact .inl ⟨j,by omega,b,d⟩
  ·refine .inr ⟨fun j hj=>?_,b⟩
   by_cases ej:j=i
   ·subst ej;rw [hd];simp
   ·exact a j (by omega)
|some d =>
  rw [e] at hx hd;simp only [HS.set,hlk] at hx
  by_cases et:d=t
  ·rw [if_pos et] at hx;simp only [Option.some.injEq] at hx;exact .inl ⟨i,by omega,by rw [hd,et],hx⟩
  ·rw [if_neg et] at hx
   rcases h t x hx with ⟨j,a,b,d'⟩|⟨a,b⟩
   ·exact .inl ⟨j,by omega,b,d'⟩
   ·refine .inr ⟨fun j hj=>?_,b⟩
    by_cases ej:j=i
    ·subst ej;rw [hd];simpa using et
    ·exact a j (by omega)
structure HeadOk (P:Program) (N:Nat) (ops:List Oper) (E0:aR) (st:aC) (hs:Nat→HV) (i:Nat) (o:Oper):Prop where
 lt:fG N o.dst
 head:∃ T:aR,FrOk ops E0 hs i T∧(∀ t h,hlk T t=some h→t ∈ fE (bQ ops) o.guard ++ bJ o.op)∧∀ (c:Ctx) (l:Env) (w:World) (ρ:Nat→Value) (xs:Nat→List Value),Good c ⟨T,st⟩ (lk l) w ρ xs →
  ∃ b,gd l (bQ ops) o.guard (·=b)∧(b=true→aX P l o.op o.type w (fun u w'=>RepH w' (c.A ρ st) c.n0 ρ u (hs i)∧Below w.heap.size w w') (fun u w'=>RepH w' (c.A ρ st) c.n0 ρ u (hs i)∧Below w.heap.size w w'))∧(b=false→hs i=.v undef)
theorem qK {d:Option Nat} (h:iR N d S K):fG N d∧K (S.set d (.v undef)):=by
 unfold iR at h;split at h
 ·rename_i hd;exact ⟨dN hd,h⟩
 ·exact h.elim
theorem pN {ops:List Oper} {E0:aR} {st:aC}:∀ (rest:List Oper) (i:Nat) (S:HS) (hs0:Nat→HV),(∀ k o,rest[k]?=some o→ops[i + k]?=some o)→S.st=st→FrOk ops E0 hs0 i S.env→HVr P N (bQ ops) K rest S →
  ∃ hs,(∀ j,j < i→hs j=hs0 j)∧(∀ k o,rest[k]?=some o→HeadOk P N ops E0 st hs (i + k) o)∧∃ S',S'.st=st∧FrOk ops E0 hs (i + rest.length) S'.env∧K S'
|[],i,S,hs0,hops,hst,F,h=>⟨hs0,fun _ _=>rfl,fun k o hk=>by simp at hk,S,hst,F,h⟩
|o :: rest,i,S,hs0,hops,hst,F,h=>by
  have hoi:ops[i]?=some o:=hops 0 o (by simp)
  rw [HVr] at h;generalize hT:dW S.env (fE (bQ ops) o.guard ++ bJ o.op)=T at h
  have TF:∀ t x,hlk T t=some x→t ∈ fE (bQ ops) o.guard ++ bJ o.op∧hlk S.env t=some x:=fun t x hx=>by subst hT;exact jB hx
  have key:∀ (S1:HS) (x:HV),S1.st=st→FrOk ops E0 hs0 i S1.env→HVr P N (bQ ops) K rest (S1.set o.dst x)→fG N o.dst →
    (∀ (c:Ctx) (l:Env) (w:World) (ρ:Nat→Value) (xs:Nat→List Value),Good c ⟨T,st⟩ (lk l) w ρ xs →
     ∃ b,gd l (bQ ops) o.guard (·=b)∧(b=true→aX P l o.op o.type w (fun u w'=>RepH w' (c.A ρ st) c.n0 ρ u x∧Below w.heap.size w w') (fun u w'=>RepH w' (c.A ρ st) c.n0 ρ u x∧Below w.heap.size w w'))∧(b=false→x=.v undef)) →
    ∃ hs,(∀ j,j < i→hs j=hs0 j)∧(∀ k o',(o :: rest)[k]?=some o'→HeadOk P N ops E0 st hs (i + k) o')∧∃ S',S'.st=st∧FrOk ops E0 hs (i + (o :: rest).length) S'.env∧K S':=by
   intro S1 x hst1 F1 hK hlt hrun
   let hs1:Nat→HV:=fun j=>if j=i then x else hs0 j
   have e1:hs1 i=x:=if_pos rfl
   have e2:∀ j,j < i→hs1 j=hs0 j:=fun j hj=>if_neg (by omega)
   have F2:FrOk ops E0 hs1 (i + 1) (S1.set o.dst x).env:=by
    have:=(F1.congr e2).set hoi
    rw [e1] at this;exact this
   obtain ⟨hs,a,b,S',d,e,f⟩:=pN rest (i + 1) (S1.set o.dst x) hs1 (fun k o' hk=>by
    have:=hops (k + 1) o' (by simpa using hk)
    rw [show i + 1 + k=i + (k + 1) by omega];exact this) (by cases o.dst <;> exact hst1) F2 hK
   have ei:hs i=x:=by rw [a i (by omega),e1]
   have ej:∀ j,j < i→hs j=hs0 j:=fun j hj=>by rw [a j (by omega),e2 j hj]
   refine ⟨hs,ej,fun k o' hk=>?_,S',d,?_,f⟩
   ·cases k with
   |zero =>
     simp only [List.getElem?_cons_zero,Option.some.injEq] at hk;subst hk;exact ⟨hlt,T,(F.congr ej).env (fun t x hx=>(TF t x hx).2),fun t x hx=>(TF t x hx).1,by rw [Nat.add_zero,ei];exact hrun⟩
   |succ k =>
     have:=b k o' (by simpa using hk)
     rw [show i + 1 + k=i + (k + 1) by omega] at this;exact this
   ·rw [List.length_cons,show i + (rest.length + 1)=i + 1 + rest.length by omega];exact e
  cases hg:hG T (bQ ops) o.guard with
 |yes =>
   rw [hg] at h;obtain ⟨hlt,x,hK,hv⟩:=tJ h;refine key S x hst F hK hlt fun c l w ρ xs G=>⟨true,qJ5 (S:=⟨T,st⟩) hg rfl,fun _=>?_,fun e=>by cases e⟩
   have:=hv c l w ρ xs (by rw [hst];exact G)
   rw [hst] at this;exact this
 |no =>
   rw [hg] at h;obtain ⟨hlt,hK⟩:=qK h;exact key S _ hst F hK hlt fun c l w ρ xs G=>⟨false,qZj (S:=⟨T,st⟩) ⟨ρ,xs,G⟩ hg rfl,fun e=>(by cases e),fun _=>rfl⟩
 |ask d b want =>
   rw [hg] at h;obtain ⟨j,hj,hd,hb⟩:=qW5 (S:=⟨T,st⟩) hg
   have hbS:=(TF d _ hb).2
   simp only [fR] at h;split at h
   ·rename_i e
    have e':b=want:=by simpa using e
    subst e';obtain ⟨hlt,x,hK,hv⟩:=tJ h;refine key (S.rep d (.v (.bool b))) x hst (F.env fun t x hx=>by rw [← jH hbS t];exact hx) hK hlt fun c l w ρ xs G=>⟨true,(qF (S:=⟨T,st⟩) ⟨ρ,xs,G⟩ hg (k:=(·=true)) e).1,fun _=>?_,fun e=>by cases e⟩
    have:=hv c l w ρ xs (by rw [hst];exact G.sameEnv (jH hb))
    simp only [HS.rep] at this;rw [hst] at this;exact this
   ·rename_i e
    have e':b=!want:=by cases b <;> cases want <;> simp_all
    subst e';obtain ⟨hlt,hK⟩:=qK h;exact key (S.rep d (.v (.bool (!want)))) _ hst (F.env fun t x hx=>by rw [← jH hbS t];exact hx) hK hlt fun c l w ρ xs G=>⟨false,(qF (S:=⟨T,st⟩) ⟨ρ,xs,G⟩ hg (k:=(·=false)) e).1,fun e=>(by cases e),fun _=>rfl⟩
 |bad=>rw [hg] at h;exact h.elim
end
end Go.Eng
end

section
namespace Go.Eng
open Go Go.RowKit
section
variable {P:Program} {N:Nat} {c:Ctx} {S T:HS} {Q:dS} {l:Env} {look:Nat→Option Value} {w w':World} {ρ:Nat→Value} {xs:Nat→List Value} {K:HS→Prop}
theorem iC {ops:List Oper} {o:Oper} {t:Nat} (h:t ∈ fE (bQ ops) o.guard ++ bJ o.op):t ∈ o.looksAt ops.toArray:=by
 rcases List.mem_append.1 h with h|h
 ·cases hg:o.guard with
 |none=>rw [hg] at h;simp [fE] at h
 |some p =>
   obtain ⟨g,b⟩:=p;rw [hg] at h;simp only [fE] at h;split at h
   ·rename_i d hd;simp only [List.mem_singleton] at h;subst h;refine dX hg ?_;unfold aG;simp only [bQ,List.getElem?_map,Option.map_eq_some_iff] at hd;obtain ⟨x,hx,hx'⟩:=hd;simp [hx,hx']
   ·simp at h
 ·exact fW (qR4 h)
theorem dU {x:HV} {k:Nat}:∀ {e:aR},hlk e k=some x→k ∈ aV e
|[],h=>by simp [hlk] at h
|(j,y) :: r,h=>by
  simp only [hlk] at h
  by_cases ej:j=k
  ·simp [aV,ej]
  ·rw [if_neg ej] at h
   have:=dU h
   simp only [aV,List.map_cons,List.mem_cons];exact .inr this
theorem zG2 {id:Nat} {ops:List Oper} (n:Nat) (hm:P.follows .mixedOrders=true) (hok:oG (aV S.env) ops n=true)
  (h:∀ K:HS→Prop,(∀ S',Q .normal S'→K S')→HVr P N (bQ ops) (fun S'=>iQ (HV2 P N (bQ ops) K (ops.drop n)) S') (ops.take n) S):HW P N (.region id ops.toArray true) Q S:=fun c l w I=>by
 have hks:∀ k ∈ aV S.env,∃ v,lk l k=some v:=fun k hk=>by
  obtain ⟨x,hx⟩:=eM hk;obtain ⟨ρ,xs,G⟩:=I;obtain ⟨v,h1,-⟩:=G.env k x hx;exact ⟨v,h1⟩
 refine sM (aV S.env) ?_
 have I':Inv c S (lk (keep (aV S.env) l)) w:=I.agree fun k x hk=>iG (dU hk)
 have hkk:kV (keep (aV S.env) l)=aV S.env:=hU hks
 generalize keep (aV S.env) l=l' at I' hkk;obtain ⟨ρ,xs,G⟩:=I'
 have ok:=gX hok
 have hlen:(ops.take n).length=n:=by rw [List.length_take];have:=ok.hn;omega
 have get_take:∀ {i:Nat} {o:Oper},(ops.take n)[i]?=some o→i < n∧ops[i]?=some o:=fun {i o} h=>by
  have hi:=(List.getElem?_eq_some_iff.1 h).1
  rw [hlen] at hi;rw [List.getElem?_take_of_lt hi] at h;exact ⟨hi,h⟩
 obtain ⟨hs,-,heads,S1,e1,F1,h1⟩:=pN (E0:=S.env) (st:=S.st) (ops.take n) 0 S (fun _=>.junk) (fun k o hk=>by rw [Nat.zero_add];exact (get_take hk).2) rfl (fun t x hx=>.inr ⟨fun j hj=>absurd hj (Nat.not_lt_zero _),hx⟩) (h (Q .normal) fun _ h=>h)
 rw [hlen,Nat.zero_add] at F1
 have head:∀ i o,i < n→ops[i]?=some o→HeadOk P N ops S.env S.st hs i o:=fun i o hi ho=>by
  have:=heads i o (by rw [List.getElem?_take_of_lt hi];exact ho)
  rw [Nat.zero_add] at this;exact this
 have uniq:∀ i j t,i < n→j < n→aG ops i=some t→aG ops j=some t→i=j:=by
  intro i j t hi hj h1 h2
  rcases Nat.lt_trichotomy i j with h|h|h
  ·rcases ok.uniq j i hj h with e|e
   ·rw [h2] at e;cases e
   ·exact absurd (h2.trans h1.symm) e
  ·exact h
  ·rcases ok.uniq i j hi h with e|e
   ·rw [h1] at e;cases e
   ·exact absurd (h1.trans h2.symm) e
 have hlt:DLt N ops n:=fun i t hi hd=>by
  obtain ⟨o,ho,hod⟩:=jL hd
  have:=(head i o hi ho).lt
  rw [hod] at this;exact this
 -- what a frame of the heads' names reads
 have frame:∀ (vs:Nat→Value) (w':World) (i:Nat) (E:aR),i≤n→Below w.heap.size w w'→FrOk ops S.env hs i E →
   (∀ j t x,j < i→aG ops j=some t→hlk E t=some x→RepH w' (c.A ρ S.st) c.n0 ρ (vs j) (hs j))→Good c ⟨E,S.st⟩ (lk (cH l' ops vs i)) w' ρ xs:=fun vs w' i E hi hB F hv=>by
  have GB:=G.below hB
  refine ⟨GB.rows,GB.apart,fun k x hk=>?_,GB.kept,GB.a0⟩
  rcases F k x hk with ⟨j,a,b,d⟩|⟨a,b⟩
  ·refine ⟨vs j,(eP (l:=l') (vs:=vs) hlt (base:=Array.replicate N undef) (by simp) b (fun q hq hne e=>hne (uniq q j k hq (by omega) e b)) i hi a).1,?_⟩
   rw [← d];exact hv j k x a b hk
  ·obtain ⟨v,v1,v2⟩:=GB.env k x b;exact ⟨v,by rw [(eN (l:=l') (vs:=vs) #[] k i a).1];exact v1,v2⟩
 refine zFk (aV S.env) n hm hkk hok hlt (C:=fun w'=>Below w.heap.size w w') (R:=fun j u w'=>RepH w' (c.A ρ S.st) c.n0 ρ u (hs j)) (Below.refl _ _).drew (fun i u w1 w2 _ hr hB=>hr.above hB) ?_ ?_
 ·intro i o hi ho vs w1 hC hR;obtain ⟨T,TF,TS,run⟩:=(head i o hi ho).head
  have GT:Good c ⟨T,S.st⟩ (lk (cH l' ops vs i)) w1 ρ xs:=frame vs w1 i T (by omega) hC TF fun j t x hj hd hx=>hR j t hj hd (iC (TS t x hx))
  obtain ⟨b,b1,b2,b3⟩:=run c _ w1 ρ xs GT;refine ⟨b,b1,fun hb=>?_,fun hb=>?_⟩
  ·exact (eU (fun x X hx=>by simp [evD,hx]) (b2 hb)).mono fun u w2 ⟨hu,hB⟩=>⟨hu,hC.trans (hB.mono hC.size),hB⟩
  ·rw [b3 hb];exact .v _
 ·intro vs w1 hC hR;obtain ⟨E1,st1⟩:=S1
  have e1:st1=S.st:=e1
  subst e1
  have G1:=frame vs w1 n E1 (Nat.le_refl _) hC F1 fun j t x hj _ _=>hR j hj
  exact HW_drw.V2.mono' (sQ _ _ _ _ h1 ⟨ρ,xs,G1⟩) fun l2 w2 h2=>h2
theorem qDe {f:FuncId} {args args':List HV} {x:Value} {K:HV→Prop} (hc:aL P f=true) (H:HFun P f args' (fun h st=>h=.v x)) (hl:Lends T.st args args') (hK:K (.v x)):zJy P f args T K :=
 ⟨hc,.v x,hK,fun c look w ρ xs vs G R=>Ret.mono (H w vs (tA G R hl)) fun v w' ⟨B,h,st,h8,q,ρ',xs',G',hr⟩=>⟨by subst q;have:=bB hr;subst this;exact .v _,B⟩⟩
end
end Go.Eng
end

section
namespace Go.Eng
open Go Go.RowKit
section
variable {P:Program} {T:HS}
end
end Go.Eng
end

section
namespace Go.Eng
open Go Go.RowKit
theorem zS (t:Nat):hlk [] t=none:=nr rfl
theorem zM (k:Nat) (v:HV) (r:aR) (t:Nat):hlk ((k,v) :: r) t=if k=t then some v else hlk r t:=nr rfl
theorem zX (t:Nat):rlk [] t=none:=nr rfl
theorem zU (k:Nat) (v:Row) (r:aC) (t:Nat):rlk ((k,v) :: r) t=if k=t then some v else rlk r t:=nr rfl
theorem qY9 (l:aR) (t:Nat):hev l (.tmp t)=hlk l t:=nr rfl
theorem qNn (l:aR) (v:Value):hev l (.const v)=some (.v v):=nr rfl
theorem qHk (l:aR) (g:Nat):hev l (.global g)=some (.v (.pointer (some ⟨g,0,none⟩))):=nr rfl
theorem qTz (l:aR) (f:FuncId):hev l (.func f)=some (.v (.func (.func f) #[] #[])):=nr rfl
theorem qTy (l:aR):fP l []=some []:=nr rfl
theorem qNm (l:aR) (x:Operand) (r:List Operand):fP l (x :: r)=match hev l x with|some v=>(match fP l r with|some vs=>some (v :: vs)|none=>none)|none=>none:=nr rfl
theorem zDe (x:Value):qBj (some (.v x))=some x:=nr rfl
theorem qMq  : qBj none=none:=nr rfl
theorem qS2 (fr:Bool) (xs:List (List FV)):qBj (some (.lst fr xs))=none:=nr rfl
theorem qS1 (i:Nat):qBj (some (.own i))=none:=nr rfl
theorem qS0 (i s j k:Nat):qBj (some (.ptr i s j k))=none:=nr rfl
theorem qS3 (fr:Bool) (xs:List (List FV)) (s j k:Nat):qBj (some (.elt fr xs s j k))=none:=nr rfl
theorem qS4 (cs:List HV):qBj (some (.agg cs))=none:=nr rfl
theorem qSz (cs:List HV):qBj (some (.tup cs))=none:=nr rfl
theorem qYi (i s o n:Nat):qBj (some (.vw i s o n))=none:=nr rfl
theorem qMr  : qBj (some .junk)=none:=nr rfl
theorem qJd (S:HS) (id:Nat) (P:Program) (o:Op) (c:Prop) (v:Value):kW S id P o (some (c,v))=.go c (.v v) S:=nr rfl
theorem qJe (S:HS) (id:Nat) (P:Program) (o:Op):kW S id P o none=eD P S id o:=nr rfl
theorem zDq (P:Program) (S:HS) (id:Nat) (o:Op):hop P S id o=kW S id P o (aK P (lo S.env) o):=nr rfl
theorem qNq (P:Program) (S:HS) (id:Nat) (x:Operand):eD P S id (.move x)=qQ S (hev S.env x):=nr rfl
theorem qDc (P:Program) (S:HS) (id:Nat) (x:Operand):eD P S id (.assign x)=qQ S (hev S.env x):=nr rfl
theorem qNo (P:Program) (S:HS) (id:Nat) (c a b:Operand):eD P S id (.pick c a b)=qAd S (hev S.env c) (hev S.env a) (hev S.env b):=nr rfl
theorem qAb (P:Program) (S:HS) (id:Nat) (x:Operand) (i:Nat):eD P S id (.extract x i)=iJ S i (hev S.env x):=nr rfl
theorem qHq (P:Program) (S:HS) (id:Nat) (t:TypeId) (x:Operand) (f:Nat):eD P S id (.field t x f)=oD S (sD P t f) (hev S.env x):=nr rfl
theorem qHr (P:Program) (S:HS) (id:Nat) (t:TypeId) (x:Operand) (f:Nat):eD P S id (.fieldAddr t x f)=oE S (gH P t f) (hev S.env x):=nr rfl
theorem qNp (P:Program) (S:HS) (id:Nat) (x:Operand):eD P S id (.nilCheck x)=qK3 S (hev S.env x):=nr rfl
theorem qHp (P:Program) (S:HS) (id:Nat) (t:TypeId) (x i:Operand):eD P S id (.indexAddr t x i)=jJ S (bV P t) (qQa P t) (hev S.env x) (hev S.env i):=nr rfl
theorem qHm (P:Program) (S:HS) (id:Nat) (t:TypeId) (x:Operand) (l h:Option Operand):eD P S id (.slice t x l h none)=mL S (bV P t) l h (hev S.env x):=nr rfl
theorem qNr (P:Program) (S:HS) (id:Nat) (t:TypeId) (x:Operand):eD P S id (.load t x)=nM S (bU P t) (hev S.env x):=nr rfl
theorem qHl (P:Program) (S:HS) (id:Nat) (t:TypeId) (x y:Operand):eD P S id (.store t x y)=oB S (bU P t) (hev S.env x) (hev S.env y):=nr rfl
theorem qHv (P:Program) (S:HS) (id:Nat) (t:TypeId):eD P S id (.alloc t)=kU S id t (eT P t):=nr rfl
theorem qT3 (P:Program) (S:HS) (id:Nat) (t:TypeId) (x:Operand):eD P S id (.box t x)=qUl S id t (hev S.env x):=nr rfl
theorem qHu (P:Program) (S:HS) (id:Nat) (t:TypeId) (ps:Array (Nat × Operand)):eD P S id (.build t ps)=qD S (cY P t) (dE P t) (eT P t) (fJ S.env ps.toList):=nr rfl
theorem qDb (P:Program) (S:HS) (id:Nat) (t n:TypeId) (ps:Array (Nat × Operand)):eD P S id (.buildSlice t n ps)=gU S id n (mV P t) (fJ S.env ps.toList):=nr rfl
theorem qHn (P:Program) (S:HS) (id:Nat) (t:TypeId) (x y:Operand):eD P S id (.makeSlice t x y)=qDl S id (mV P t) (hev S.env x) (hev S.env y):=nr rfl
theorem qT1 (P:Program) (S:HS) (id:Nat) (args:Array Operand) (ats:Array TypeId):eD P S id (.call ⟨.builtin .len,args,ats⟩)=match fP S.env args.toList with|some [h]=>qJk S (bH ((bV P (cK ats)).isSome=true∧ats.size=1)) (some h)|_=>.bad:=nr rfl
theorem qT4 (P:Program) (S:HS) (id:Nat) (args:Array Operand) (ats:Array TypeId):eD P S id (.call ⟨.builtin .append,args,ats⟩)=fZ S id (ats == #[cK ats,cK ats]) (qVw P ats) (mV P (cK ats)) (fP S.env args.toList):=nr rfl
theorem qHt (P:Program) (S:HS) (id:Nat) (f:FuncId) (args:Array Operand) (ats:Array TypeId):eD P S id (.call ⟨.value (.func f),args,ats⟩)=qDq f (fP S.env args.toList):=nr rfl
theorem qT2 (P:Program) (S:HS) (id:Nat) (t:TypeId) (x y:Operand) (u:TypeId):eD P S id (.binOp .eql t x y u)=hEq S (qD2 P t) t false (hev S.env x) (hev S.env y):=nr rfl
theorem qT0 (P:Program) (S:HS) (id:Nat) (t:TypeId) (x y:Operand) (u:TypeId):eD P S id (.binOp .neq t x y u)=hEq S (qD2 P t) t true (hev S.env x) (hev S.env y):=nr rfl
theorem qNt (P:Program) (S:HS) (id:Nat) (s d:TypeId) (x:Operand):eD P S id (.convert s d x)=nS S (wF P s d) (qPn P s d) (hev S.env x):=nr rfl
theorem qUb (S:HS) (h:HV):qQ S (some h)=.go True h S:=nr rfl
theorem qT8 (S:HS) (t:Bool) (a b:HV):qAd S (some (.v (.bool t))) (some a) (some b)=.go True (bif t then a else b) S:=nr rfl
theorem qDn (S:HS) (i:Nat) (hs:List HV):iJ S i (some (.tup hs))=match hs[i]? with|some h=>.go True h S|none=>.bad:=nr rfl
theorem qHo (P:Program) (S:HS) (id:Nat) (t:TypeId) (x i:Operand):eD P S id (.index t x i)=jT S (qPw P t) (hev S.env x) (hev S.env i):=nr rfl
theorem qAf (S:HS) (m q:Nat) (hs:List HV) (k:IntKind) (n:Int):jT S (some (m,some q)) (some (.agg hs)) (some (.v (.int k n)))=.go (bH (0≤n∧n < m)) (.agg ((hs.drop (n.toNat * q)).take q)) S:=nr rfl
theorem qDm (S:HS) (m:Nat) (hs:List HV) (k:IntKind) (n:Int):jT S (some (m,none)) (some (.agg hs)) (some (.v (.int k n)))=match hs[n.toNat]? with|some h=>.go (bH (0≤n∧n < m)) h S|none=>.bad:=nr rfl
theorem qJw (S:HS) (off:Nat) (hs:List HV):oD S (some (off,none)) (some (.agg hs))=match hs[off]? with|some h=>.go True h S|none=>.bad:=nr rfl
theorem qJv (S:HS) (off n:Nat) (hs:List HV):oD S (some (off,some n)) (some (.agg hs))=.go (bH (off + n≤hs.length)) (.agg ((hs.drop off).take n)) S:=nr rfl
theorem qJx (S:HS) (off id sz i k:Nat):oE S (some off) (some (.ptr id sz i k))=.go True (.ptr id sz i (k + off)) S:=nr rfl
theorem qJy (S:HS) (off:Nat) (fr:Bool) (xs:List (List FV)) (sz i k:Nat):oE S (some off) (some (.elt fr xs sz i k))=.go True (.elt fr xs sz i (k + off)) S:=nr rfl
theorem qT9 (S:HS) (id sz i k:Nat):qK3 S (some (.ptr id sz i k))=.go True (.ptr id sz i k) S:=nr rfl
theorem qUa (S:HS) (fr:Bool) (xs:List (List FV)) (sz i k:Nat):qK3 S (some (.elt fr xs sz i k))=.go True (.elt fr xs sz i k) S:=nr rfl
theorem qJm (S:HS) (id:Nat) (us ua:Option (Nat × Nat)) (kk:IntKind) (n:Int):jJ S us ua (some (.own id)) (some (.v (.int kk n)))=lF S id n us (rlk S.st id):=nr rfl
theorem qJn (S:HS) (fr:Bool) (xs:List (List FV)) (us ua:Option (Nat × Nat)) (kk:IntKind) (n:Int):jJ S us ua (some (.lst fr xs)) (some (.v (.int kk n)))=nQ S fr xs n us:=nr rfl
theorem qJl (S:HS) (id sz i k:Nat) (us ua:Option (Nat × Nat)) (kk:IntKind) (n:Int):jJ S us ua (some (.ptr id sz i k)) (some (.v (.int kk n)))=nP S id sz i k n ua:=nr rfl
theorem qJo (S:HS) (fr:Bool) (xs:List (List FV)) (sz i k:Nat) (us ua:Option (Nat × Nat)) (kk:IntKind) (n:Int):jJ S us ua (some (.elt fr xs sz i k)) (some (.v (.int kk n)))=nR S fr xs sz i k n ua:=nr rfl
theorem qJr (S:HS) (id:Nat) (n:Int) (e sz:Nat) (nw:Bool) (ty s:Nat) (els:List (List FV)):lF S id n (some (e,sz)) (some (.sl nw ty s els))=.go (bH (sz=s∧0≤n∧n < els.length)) (.ptr id s n.toNat 0) S:=nr rfl
theorem qJt (S:HS) (fr:Bool) (xs:List (List FV)) (n:Int) (e sz:Nat):nQ S fr xs n (some (e,sz))=.go (bH (0≤n∧n < xs.length)∧Wid sz xs) (.elt fr xs sz n.toNat 0) S:=nr rfl
theorem qJs (S:HS) (id sz i k:Nat) (n:Int) (len size:Nat):nP S id sz i k n (some (len,size))=.go (bH (0≤n∧n < len)) (.ptr id sz i (k + n.toNat * size)) S:=nr rfl
theorem qJu (S:HS) (fr:Bool) (xs:List (List FV)) (sz i k:Nat) (n:Int) (len size:Nat):nR S fr xs sz i k n (some (len,size))=.go (bH (0≤n∧n < len)) (.elt fr xs sz i (k + n.toNat * size)) S:=nr rfl
theorem qZa (S:HS) (c:Prop) (i s o n:Nat):qJk S c (some (.vw i s o n))=.go c (.v (.int .i64 n)) S:=nr rfl
theorem qH9 (S:HS) (us:Option (Nat × Nat)) (l h:Option Operand) (id:Nat):mL S us l h (some (.own id))=nK S id (gY (lo S.env) l 0) (gY (lo S.env) h (zF8 (rlk S.st id))) us (rlk S.st id):=nr rfl
theorem qNy (S:HS) (us:Option (Nat × Nat)) (l h:Option Operand) (id sz off n:Nat):mL S us l h (some (.vw id sz off n))=nJ S id sz off (gY (lo S.env) l 0) (gY (lo S.env) h n) us (rlk S.st id):=nr rfl
theorem qJb (S:HS) (id:Nat) (a b:Int) (e sz:Nat) (nw:Bool) (ty s:Nat) (els:List (List FV)):nK S id (some a) (some b) (some (e,sz)) (some (.sl nw ty s els))=.go (bH (sz=s∧0≤a∧a≤b∧b≤els.length)) (.vw id s a.toNat (b.toNat - a.toNat)) S:=nr rfl
theorem qJa (S:HS) (id sz off:Nat) (a b:Int) (e sz':Nat) (nw:Bool) (ty s:Nat) (els:List (List FV)):nJ S id sz off (some a) (some b) (some (e,sz')) (some (.sl nw ty s els))=.go (bH (sz'=sz∧s=sz∧0≤a∧a≤b∧off + b≤els.length)) (.vw id sz (off + a.toNat) (b.toNat - a.toNat)) S:=nr rfl
theorem qXw (nw:Bool) (ty s:Nat) (els:List (List FV)):zF8 (some (.sl nw ty s els))=els.length:=nr rfl
theorem qN5 (S:HS) (id s off m:Nat) (us ua:Option (Nat × Nat)) (kk:IntKind) (n:Int):jJ S us ua (some (.vw id s off m)) (some (.v (.int kk n)))=nN S id s off m n us (rlk S.st id):=nr rfl
theorem qJp (S:HS) (id s off m:Nat) (n:Int) (e sz:Nat) (nw:Bool) (ty s':Nat) (els:List (List FV)):nN S id s off m n (some (e,sz)) (some (.sl nw ty s' els))=.go (bH (sz=s∧s'=s∧0≤n∧n < m)) (.ptr id s (off + n.toNat) 0) S:=nr rfl
theorem qMj (st:aC) (sz id s off n:Nat):gZ st sz (.vw id s off n)=match rlk st id with|some (.sl _ _ s' els)=>some (bH (s=sz∧s'=sz),(els.drop off).take n)|_=>none:=nr rfl
theorem qNu (i s o n:Nat):cM (.vw i s o n)=some [.vw i s o n]:=nr rfl
theorem qY1 (i s o n:Nat):(HV.vw i s o n).one=true:=nr rfl
theorem rY (p:Nat→Bool) (i s o n:Nat):HV.kill p (.vw i s o n)=bif p i then .junk else .vw i s o n:=by rw [HV.kill]
theorem qYy (m:Nat→Option Nat) (i s o n:Nat):HV.ren m (.vw i s o n)=match m i with|some j=>.vw j s o n|none=>.junk:=by rw [HV.ren];cases m i <;> rfl
theorem qRb (id:Nat) (x0:HV) (i s o n:Nat):HV.sub id x0 (.vw i s o n)=if i=id then zBy x0 s o n else .vw i s o n:=by rw [HV.sub]
theorem qL9 (i s o n:Nat):pZ (.vw i s o n)=[]:=nr rfl
theorem qF7 (i s o n:Nat):sX (.vw i s o n)=[]:=nr rfl
theorem qUd (S:HS) (c:Prop) (id:Nat):qJk S c (some (.own id))=qAe S c (rlk S.st id):=nr rfl
theorem qUe (S:HS) (c:Prop) (fr:Bool) (xs:List (List FV)):qJk S c (some (.lst fr xs))=.go c (.v (.int .i64 xs.length)) S:=nr rfl
theorem qUf (S:HS) (c:Prop) (nw:Bool) (ty s:Nat) (els:List (List HV)):qAe S c (some (.hl nw ty s els))=.go c (.v (.int .i64 els.length)) S:=nr rfl
theorem qJq (S:HS) (id:Nat) (n:Int) (e sz:Nat) (nw:Bool) (ty s:Nat) (els:List (List HV)):lF S id n (some (e,sz)) (some (.hl nw ty s els))=.go (bH (sz=s∧0≤n∧n < els.length)) (.ptr id s n.toNat 0) S:=nr rfl
theorem qUg (S:HS) (c:Prop) (nw:Bool) (ty s:Nat) (els:List (List FV)):qAe S c (some (.sl nw ty s els))=.go c (.v (.int .i64 els.length)) S:=nr rfl
theorem qNz (S:HS) (us:Option (Nat × Nat)) (l h:Option Operand) (fr:Bool) (xs:List (List FV)):mL S us l h (some (.lst fr xs))=nL S fr xs (gY (lo S.env) l 0) (gY (lo S.env) h xs.length) us:=nr rfl
theorem qJc (S:HS) (fr:Bool) (xs:List (List FV)) (a b:Int) (e sz:Nat):nL S fr xs (some a) (some b) (some (e,sz))=.go (bH (0≤a∧a≤b∧b≤xs.length)∧Wid sz xs) (.lst fr ((xs.take b.toNat).drop a.toNat)) S:=nr rfl
theorem qN0 (S:HS) (kt:Option (Option Nat)) (id sz i k:Nat):nM S kt (some (.ptr id sz i k))=iH S sz i k kt (rlk S.st id):=nr rfl
theorem qN1 (S:HS) (kt:Option (Option Nat)) (fr:Bool) (xs:List (List FV)) (sz i k:Nat):nM S kt (some (.elt fr xs sz i k))=oC S xs i k kt:=nr rfl
theorem qN2 (S:HS) (sz i k:Nat) (nw:Bool) (ty s:Nat) (els:List (List FV)):iH S sz i k (some none) (some (.sl nw ty s els))=.go (bH (sz=s∧i < els.length∧k < (els.getD i []).length)) ((els.getD i []).getD k default).h S:=nr rfl
theorem qJf (S:HS) (sz i k n:Nat) (nw:Bool) (ty s:Nat) (els:List (List FV)):iH S sz i k (some (some n)) (some (.sl nw ty s els))=.go (bH (sz=s∧i < els.length∧k + n≤(els.getD i []).length)) (.agg ((((els.getD i []).drop k).take n).map FV.h)) S:=nr rfl
theorem qN4 (S:HS) (sz i k:Nat) (nw:Bool) (ty:Nat) (cells:List HV):iH S sz i k (some none) (some (.bx nw ty cells))=.go (bH (i=0∧k < cells.length)) (cells.getD k .junk) S:=nr rfl
theorem qJh (S:HS) (sz i k n:Nat) (nw:Bool) (ty:Nat) (cells:List HV):iH S sz i k (some (some n)) (some (.bx nw ty cells))=.go (bH (i=0∧k + n≤cells.length)) (.agg ((cells.drop k).take n)) S:=nr rfl
theorem qN3 (S:HS) (sz i k:Nat) (nw:Bool) (ty s:Nat) (els:List (List HV)):iH S sz i k (some none) (some (.hl nw ty s els))=.go (bH (sz=s∧i < els.length∧k < (els.getD i []).length)) ((els.getD i []).getD k .junk) S:=nr rfl
theorem qJg (S:HS) (sz i k n:Nat) (nw:Bool) (ty s:Nat) (els:List (List HV)):iH S sz i k (some (some n)) (some (.hl nw ty s els))=.go (bH (sz=s∧i < els.length∧k + n≤(els.getD i []).length)) (.agg (((els.getD i []).drop k).take n)) S:=nr rfl
theorem qH7 (S:HS) (id sz i k:Nat) (kt:Option (Option Nat)) (h:HV) (nw:Bool) (ty s:Nat) (els:List (List HV)):jS S id sz i k kt h (some (.hl nw ty s els))=lD S id sz i k nw ty s els kt h:=nr rfl
theorem qDh (S:HS) (id sz i k:Nat) (nw:Bool) (ty s:Nat) (els:List (List HV)) (h:HV):lD S id sz i k nw ty s els (some none) h=.go (bH (sz=s∧i < els.length∧k < (els.getD i []).length∧h.one=true)) (.v undef) ⟨S.env,gW id (.hl nw ty s (els.set i ((els.getD i []).set k h))) S.st⟩:=nr (by cases h <;> rfl)
theorem qDi (S:HS) (id sz i k n:Nat) (nw:Bool) (ty s:Nat) (els:List (List HV)) (hs:List HV):lD S id sz i k nw ty s els (some (some n)) (.agg hs)=.go (bH (sz=s∧i < els.length∧hs.length=n∧k + n≤(els.getD i []).length)) (.v undef) ⟨S.env,gW id (.hl nw ty s (els.set i (splice (els.getD i []) k hs))) S.st⟩:=nr rfl
theorem qJi (S:HS) (xs:List (List FV)) (i k:Nat):oC S xs i k (some none)=.go (bH (i < xs.length∧k < (xs.getD i []).length)) ((xs.getD i []).getD k default).h S:=nr rfl
theorem qJj (S:HS) (xs:List (List FV)) (i k n:Nat):oC S xs i k (some (some n))=.go (bH (i < xs.length∧k + n≤(xs.getD i []).length)) (.agg ((((xs.getD i []).drop k).take n).map FV.h)) S:=nr rfl
theorem qNx (S:HS) (kt:Option (Option Nat)) (id sz i k:Nat) (h:HV):oB S kt (some (.ptr id sz i k)) (some h)=jS S id sz i k kt h (rlk S.st id):=nr rfl
theorem qH6 (S:HS) (id sz i k:Nat) (kt:Option (Option Nat)) (h:HV) (nw:Bool) (ty s:Nat) (els:List (List FV)):jS S id sz i k kt h (some (.sl nw ty s els))=lC S id sz i k nw ty s els kt h:=nr rfl
theorem qH8 (S:HS) (id sz i k:Nat) (kt:Option (Option Nat)) (h:HV) (nw:Bool) (ty:Nat) (cells:List HV):jS S id sz i k kt h (some (.bx nw ty cells))=lE S id i k nw ty cells kt h:=nr rfl
theorem qDf (S:HS) (id sz i k:Nat) (nw:Bool) (ty s:Nat) (els:List (List FV)) (h:HV):lC S id sz i k nw ty s els (some none) h=match h.f with|some f=>.go (bH (sz=s∧i < els.length∧k < (els.getD i []).length∧f.one=true)) (.v undef) ⟨S.env,gW id (.sl nw ty s (els.set i ((els.getD i []).set k f))) S.st⟩|none=>.bad:=nr rfl
theorem qDg (S:HS) (id sz i k n:Nat) (nw:Bool) (ty s:Nat) (els:List (List FV)) (hs:List HV):lC S id sz i k nw ty s els (some (some n)) (.agg hs)=match HV.fs hs with|some fs=>.go (bH (sz=s∧i < els.length∧fs.length=n∧k + n≤(els.getD i []).length)) (.v undef) ⟨S.env,gW id (.sl nw ty s (els.set i (splice (els.getD i []) k fs))) S.st⟩|none=>.bad:=nr rfl
theorem qDj (S:HS) (id i k:Nat) (nw:Bool) (ty:Nat) (cells:List HV) (h:HV):lE S id i k nw ty cells (some none) h=.go (bH (i=0∧k < cells.length∧h.one=true)) (.v undef) ⟨S.env,gW id (.bx nw ty (cells.set k h)) S.st⟩:=nr (by cases h <;> rfl)
theorem qDk (S:HS) (id i k n:Nat) (nw:Bool) (ty:Nat) (cells:List HV) (hs:List HV):lE S id i k nw ty cells (some (some n)) (.agg hs)=.go (bH (i=0∧hs.length=n∧k + n≤cells.length)) (.v undef) ⟨S.env,gW id (.bx nw ty (splice cells k hs)) S.st⟩:=nr rfl
theorem qPe (S:HS) (id:Nat) (t:TypeId) (z:Array Value):kU S id t (some z)=.go (bH (nX z=true)) (.ptr id z.size 0 0) ((S.kill (only id)).row id (.bx true t (z.toList.map .v))):=nr rfl
theorem qZh (S:HS) (id:Nat) (t:TypeId) (h:HV):qUl S id t (some h)=qJ4 S id t (cM h):=nr rfl
theorem qUk (S:HS) (id:Nat) (t:TypeId) (cs:List HV):qJ4 S id t (some cs)=.go True (.ptr id cs.length 0 0) ((S.kill (only id)).row id (.bx true t (cs.map (HV.kill (only id))))):=nr rfl
theorem qF3 (l:aR):fJ l []=some []:=nr rfl
theorem qC1 (l:aR) (i:Nat) (x:Operand) (r:List (Nat × Operand)):fJ l ((i,x) :: r)=match hev l x with|some v=>(match fJ l r with|some vs=>some ((i,v) :: vs)|none=>none)|none=>none:=nr rfl
theorem qNl (kA:Nat→Option (Nat × Nat)) (cells:List HV):qAa kA cells []=some (True,cells):=nr rfl
theorem qHj (kA:Nat→Option (Nat × Nat)) (cells:List HV) (i:Nat) (h:HV) (r:List (Nat × HV)):qAa kA cells ((i,h) :: r)=match kA i with|some (off,n)=>(match cM h with|some cs=>(match qAa kA (splice cells off cs) r with|some (c,out)=>some (bH (cs.length=n∧off + n≤cells.length)∧c,out)|none=>none)|none=>none)|none=>none:=nr rfl
theorem qPd (S:HS) (ok:Bool) (kA:Nat→Option (Nat × Nat)) (z:Array Value) (ps:List (Nat × HV)):qD S ok kA (some z) (some ps)=nT S (ok && nX z) (qAa kA (z.toList.map .v) ps):=nr rfl
theorem qJ3 (S:HS) (ok:Bool) (c:Prop) (cs:List HV):nT S ok (some (c,cs))=.go (bH (ok=true)∧c) (.agg cs) S:=nr rfl
theorem qTt (sz:Nat) (els:List (List FV)):qRc sz els []=some (True,els):=nr rfl
theorem qNg (sz:Nat) (els:List (List FV)) (i:Nat) (h:HV) (r:List (Nat × HV)):qRc sz els ((i,h) :: r)=match cM h with|some cs=>(match HV.fs cs with|some fs=>(match qRc sz (els.set i fs) r with|some (c,out)=>some (bH (fs.length=sz∧i < els.length)∧c,out)|none=>none)|none=>none)|none=>none:=nr rfl
theorem qJ0 (S:HS) (id n e sz by':Nat) (z:Array Value) (ps:List (Nat × HV)):gU S id n (some (e,sz,by',z)) (some ps)=match nX z && z.size == sz with|true=>gQ S id e sz n z ps (qVf ps)|false=>.bad:=nr rfl
theorem qVe  : qVf []=true:=nr rfl
theorem qPv (i:Nat) (h:HV) (r:List (Nat × HV)):qVf ((i,h) :: r)=match cM h with|some cs=>((HV.fs cs).isSome && qVf r)|none=>qVf r:=nr rfl
theorem qNh (sz:Nat) (els:List (List HV)):yZ sz els []=some (True,els):=nr rfl
theorem qHh (sz:Nat) (els:List (List HV)) (i:Nat) (h:HV) (r:List (Nat × HV)):yZ sz els ((i,h) :: r)=match cM h with|some cs=>(match yZ sz (els.set i cs) r with|some (c,out)=>some (bH (cs.length=sz∧i < els.length)∧c,out)|none=>none)|none=>none:=nr rfl
theorem zDt (id:Nat) (els:List (List HV)):hkl id els=els.map (List.map (HV.kill (only id))):=nr rfl
theorem qJ1 (S:HS) (id e sz n:Nat) (z:Array Value) (ps:List (Nat × HV)):gQ S id e sz n z ps true=iL S id e sz n (qRc sz (List.replicate n (z.toList.map .v)) ps):=nr rfl
theorem qJ2 (S:HS) (id e sz n:Nat) (z:Array Value) (ps:List (Nat × HV)):gQ S id e sz n z ps false=iK S id e sz n (yZ sz (List.replicate n (z.toList.map .v)) ps):=nr rfl
theorem qDr (S:HS) (id e sz n:Nat) (c:Prop) (els:List (List HV)):iK S id e sz n (some (c,els))=.go (bH (n * sz≤16777216∧n≤16777216)∧c) (.own id) ((S.kill (only id)).row id (.hl true e sz (hkl id els))):=nr rfl
theorem qDs (S:HS) (id e sz n:Nat) (c:Prop) (els:List (List FV)):iL S id e sz n (some (c,els))=.go (bH (n * sz≤16777216∧n≤16777216)∧c) (.own id) ((S.kill (only id)).row id (.sl true e sz els)):=nr rfl
theorem qUc (S:HS) (id e sz by':Nat) (z:Array Value) (n m:Int):qDl S id (some (e,sz,by',z)) (some (.v (.int .i64 n))) (some (.v (.int .i64 m)))=match nX z && z.size == sz with|true=>.go (bH (n=m∧0≤n∧by' * n.toNat≤281474976710656∧n.toNat≤maxLen)) (.own id) ((S.kill (only id)).row id (.sl true e sz (List.replicate n.toNat (z.toList.map .v))))|false=>.bad:=nr rfl
theorem qGd (st:aC) (sz id:Nat):gZ st sz (.own id)=match rlk st id with|some (.sl _ _ s els)=>some (bH (s=sz),els)|_=>none:=nr rfl
theorem qGf (st:aC) (sz:Nat) (fr:Bool) (xs:List (List FV)):gZ st sz (.lst fr xs)=some (Wid sz xs,xs):=nr rfl
theorem qGe (st:aC) (sz:Nat):gZ st sz (.v (.slice none 0 0))=some (True,[]):=nr rfl
theorem qHs (P:Program) (S:HS) (id:Nat) (t:Nat) (args:Array Operand) (ats:Array TypeId):eD P S id (.call ⟨.value (.tmp t),args,ats⟩)=wA (fnH (hlk S.env t)) (fP S.env args.toList):=nr rfl
theorem zHo (f:FuncId):fnH (some (.v (.func (.func f) #[] #[])))=some f:=nr rfl
theorem qDp (f:FuncId) (a:Option (List HV)):wA (some f) a=qDq f a:=nr rfl
theorem qNs (P:Program) (S:HS) (id:Nat) (args:Array Operand) (ats:Array TypeId):eD P S id (.call ⟨.builtin .copy,args,ats⟩)=oX S (ats == #[cK ats,cK ats]) (bV P (cK ats)) (fP S.env args.toList):=nr rfl
theorem qN6 (S:HS) (us:Option (Nat × Nat)) (id:Nat) (x:HV):oX S true us (some [.own id,x])=mM S id 0 none none x us (rlk S.st id):=nr rfl
theorem qUi (S:HS) (us:Option (Nat × Nat)) (id s off n:Nat) (x:HV):oX S true us (some [.vw id s off n,x])=mM S id off (some s) (some n) x us (rlk S.st id):=nr rfl
theorem qJz (S:HS) (id off:Nat) (x:HV) (e sz:Nat) (nw:Bool) (ty s:Nat) (els:List (List FV)):mM S id off none none x (some (e,sz)) (some (.sl nw ty s els))=match decide (sz=s) with|true=>sA S id s off els.length (s=s) nw ty els (gZ S.st s x)|false=>.bad:=nr rfl
theorem qN7 (S:HS) (id off s0 n:Nat) (x:HV) (e sz:Nat) (nw:Bool) (ty s:Nat) (els:List (List FV)):mM S id off (some s0) (some n) x (some (e,sz)) (some (.sl nw ty s els))=match decide (sz=s) with|true=>sA S id s off n (s0=s) nw ty els (gZ S.st s x)|false=>.bad:=nr rfl
def cpy (els:List (List FV)) (off:Nat) (news:List (List FV)) (n:Nat):List (List FV):=splice els off (news.take n)
def cpn (news:List (List FV)) (n:Nat):Nat:=min news.length n
theorem qDo (S:HS) (id sz off n:Nat) (ok:Prop) (nw:Bool) (ty:Nat) (els:List (List FV)) (c:Prop) (news:List (List FV)):sA S id sz off n ok nw ty els (some (c,news))=.go (c∧bH (off + n≤els.length∧0 < sz∧ok)) (.v (.int .i64 (cpn news n:Nat))) ⟨S.env,gW id (.sl nw ty sz (cpy els off news n)) S.st⟩:=nr rfl
theorem qDt (S:HS) (nid:Nat) (same str:Bool) (e sz by':Nat) (z:Array Value) (id:Nat) (x:HV):fZ S nid same str (some (e,sz,by',z)) (some [.own id,x])=match (same || str) && z.size == sz with|true=>qAg S id e sz by' same x (qMn same str S.st sz x) (rlk S.st id)|false=>.bad:=nr rfl
theorem qMk (st:aC) (sz id:Nat):qGg st sz (.own id)=match rlk st id with|some (.sl _ _ s els)=>some (bH (s=sz),els.map (List.map FV.h))|some (.hl _ _ s els)=>some (bH (s=sz),els)|_=>none:=nr rfl
theorem qMm (st:aC) (sz:Nat) (fr:Bool) (xs:List (List FV)):qGg st sz (.lst fr xs)=some (Wid sz xs,xs.map (List.map FV.h)):=nr rfl
theorem qMl (st:aC) (sz:Nat):qGg st sz (.v (.slice none 0 0))=some (True,[]):=nr rfl
theorem qZz (a b c d:Nat):(#[a,b] == #[c,d])=(a == c && b == d):=by rw [Bool.eq_iff_iff];simp
theorem qYc (str:Bool) (st:aC) (sz:Nat) (x:HV):qMn true str st sz x=gZ st sz x:=nr rfl
theorem qYd (st:aC) (sz:Nat) (x:HV):qMn false true st sz x=qSu x:=nr rfl
theorem qMi (s:ByteArray):qSu (.v (.string s))=some (True,gF s):=nr rfl
theorem qDu (S:HS) (nid:Nat) (same str:Bool) (e sz by':Nat) (z:Array Value) (x:HV):fZ S nid same str (some (e,sz,by',z)) (some [.v (.slice none 0 0),x])=match same && z.size == sz with|true=>sB S nid e sz by' true [] (gZ S.st sz x)|false=>.bad:=nr rfl
theorem qUm (S:HS) (id e sz by':Nat) (same:Bool) (x:HV) (news:Option (Prop × List (List FV))) (nw:Bool) (ty s:Nat) (els:List (List HV)):qAg S id e sz by' same x news (some (.hl nw ty s els))=match same && (decide (ty=e) && decide (s=sz)) with|true=>qDv S id e sz by' nw els (qGg S.st sz x)|false=>.bad:=nr rfl
theorem qUp (S:HS) (id e sz by':Nat) (nw:Bool) (els news:List (List HV)) (c:Prop):qDv S id e sz by' nw els (some (c,news))=.go (c∧bH ((els.length + news.length) * by'≤140737488355328∧0 < by'∧0 < sz)) (.own id) ((S.kill (only id)).row id (.hl nw e sz (hkl id (els ++ news)))):=nr rfl
theorem qUn (S:HS) (id e sz by':Nat) (same:Bool) (x:HV) (news:Option (Prop × List (List FV))) (nw:Bool) (ty s:Nat) (els:List (List FV)):qAg S id e sz by' same x news (some (.sl nw ty s els))=match decide (ty=e) && decide (s=sz) with|true=>sB S id e sz by' nw els news|false=>.bad:=nr rfl
theorem qUo (S:HS) (id e sz by':Nat) (nw:Bool) (els:List (List FV)) (c:Prop) (news:List (List FV)):sB S id e sz by' nw els (some (c,news))=.go (c∧bH ((els.length + news.length) * by'≤140737488355328∧0 < by'∧0 < sz)) (.own id) ((S.kill (only id)).row id (.sl nw e sz (els ++ news))):=nr rfl
theorem qMp  : oL []=some []:=nr rfl
theorem qGn (x:Value) (r:List HV):oL (.v x :: r)=match oL r with|some vs=>some (x :: vs)|none=>none:=nr rfl
theorem zD2 (S:HS) (up:Bool) (t:TypeId) (neg:Bool) (xs ys:List HV):hEq S up t neg (some (.agg xs)) (some (.agg ys))=qRd t neg (oL xs) (oL ys):=nr rfl
theorem qZe (S:HS) (up:Bool) (t:TypeId) (neg:Bool) (a b c d:Nat):hEq S up t neg (some (.ptr a b c d)) (some (.v (.pointer none)))=.go (bH (up=true)) (.v (.bool neg)) S:=nr rfl
theorem qZf (S:HS) (up:Bool) (t:TypeId) (neg fr:Bool) (xs:List (List FV)) (a b c:Nat):hEq S up t neg (some (.elt fr xs a b c)) (some (.v (.pointer none)))=.go (bH (up=true)) (.v (.bool neg)) S:=nr rfl
theorem qN8 (S:HS) (ok okB:Bool) (s:ByteArray):nS S ok okB (some (.v (.string s)))=.bytes okB s:=nr rfl
theorem qN9 (S:HS) (ok okB:Bool) (id:Nat):nS S ok okB (some (.own id))=vZ S ok (rlk S.st id):=nr rfl
theorem qPa (S:HS) (ok okB fr:Bool) (xs:List (List FV)):nS S ok okB (some (.lst fr xs))=mN S ok (mS xs):=nr rfl
theorem qPb (S:HS) (ok nw:Bool) (t s:Nat) (els:List (List FV)):vZ S ok (some (.sl nw t s els))=mN S ok (mS els):=nr rfl
theorem qPc (S:HS) (ok:Bool) (ns:List Int):mN S ok (some ns)=.go (bH (ok=true)) (.v (.string (strOfNums ns))) S:=nr rfl
theorem qKo  : mS []=some []:=nr rfl
theorem qDx (n:Int) (r:List (List FV)):mS ([.v (.int .u8 n)] :: r)=match mS r with|some ns=>some (n :: ns)|none=>none:=nr rfl
theorem qZg (t:TypeId) (neg:Bool) (xs ys:List Value):qRd t neg (some xs) (some ys)=.eqn t xs ys neg:=nr rfl
theorem qUj (f:FuncId) (hs:List HV):qDq f (some hs)=.call f hs:=nr rfl
theorem qZy (ats:Array TypeId):cK ats=ats.getD 0 0:=nr rfl
theorem qMc (z:Array Value):nX z=z.toList.all (fun v=>v.oneCell'):=nr rfl
theorem zLa (x:Value):(HV.v x).f=some (.v x):=nr rfl
theorem zDz (i:Nat):(HV.own i).f=none:=nr rfl
theorem zHn (i s o n:Nat):(HV.vw i s o n).f=none:=nr rfl
theorem zDy (i s j k:Nat):(HV.ptr i s j k).f=none:=nr rfl
theorem zD0 (fr:Bool) (xs:List (List FV)):(HV.lst fr xs).f=some (.lst fr xs):=nr rfl
theorem qY8  : HV.fs []=some []:=nr rfl
theorem qTx (h:HV) (r:List HV):HV.fs (h :: r)=match h.f,HV.fs r with|some f,some fs=>some (f :: fs)|_,_=>none:=nr rfl
theorem zD8 (x:Value):(FV.v x).one=x.oneCell':=nr rfl
theorem qUt (fr:Bool) (xs:List (List FV)):(FV.lst fr xs).one=true:=nr rfl
theorem zDr (x:Value):(HV.v x).one=x.oneCell':=nr rfl
theorem qTo (fr:Bool) (xs:List (List FV)):(HV.lst fr xs).one=true:=nr rfl
theorem qTn (i:Nat):(HV.own i).one=true:=nr rfl
theorem qTm (i s j k:Nat):(HV.ptr i s j k).one=true:=nr rfl
theorem zLd (x:Value):(FV.v x).h=.v x:=nr rfl
theorem zEy (fr:Bool) (xs:List (List FV)):(FV.lst fr xs).h=.lst fr xs:=nr rfl
theorem qX8 (k:IntKind) (n:Int):Value.oneCell' (.int k n)=true:=nr rfl
theorem qHz (k:IntKind) (n:Int):cM (.v (.int k n))=some [.v (.int k n)]:=nr rfl
theorem qSq (b:Bool):Value.oneCell' (.bool b)=true:=nr rfl
theorem qDd (b:Bool):cM (.v (.bool b))=some [.v (.bool b)]:=nr rfl
theorem qX5 (s:ByteArray):Value.oneCell' (.string s)=true:=nr rfl
theorem qHx (s:ByteArray):cM (.v (.string s))=some [.v (.string s)]:=nr rfl
theorem qMb (a:Option Addr) (n c:Nat):Value.oneCell' (.slice a n c)=true:=nr rfl
theorem qAc (a:Option Addr) (n c:Nat):cM (.v (.slice a n c))=some [.v (.slice a n c)]:=nr rfl
theorem qX6 (a:Option Addr):Value.oneCell' (.pointer a)=true:=nr rfl
theorem qHy (a:Option Addr):cM (.v (.pointer a))=some [.v (.pointer a)]:=nr rfl
theorem qH4 (cs:List HV):cM (.agg cs)=some cs:=nr rfl
theorem qH3 (fr:Bool) (xs:List (List FV)):cM (.lst fr xs)=some [.lst fr xs]:=nr rfl
theorem qH1 (i:Nat):cM (.own i)=some [.own i]:=nr rfl
theorem qH0 (i s j k:Nat):cM (.ptr i s j k)=some [.ptr i s j k]:=nr rfl
theorem qLk {α:Type} (l:List α) (k:Nat) (cs:List α):splice l k cs=l.take k ++ cs ++ l.drop (k + cs.length):=nr rfl
theorem xU (e:aR) (s:aC) (p:Nat→Bool):HS.kill ⟨e,s⟩ p=⟨gE p e,eX p s⟩:=nr rfl
theorem qE9 (e:aR) (s:aC) (id:Nat) (r:Row):HS.row ⟨e,s⟩ id r=⟨e,(id,r) :: s⟩:=nr rfl
theorem qR6 (e:aR) (s:aC) (k:Nat) (h:HV):HS.set ⟨e,s⟩ (some k) h=⟨(k,h) :: e,s⟩:=nr rfl
theorem qR7 (S:HS) (h:HV):HS.set S none h=S:=nr rfl
theorem qFe (e:aR) (s:aC) (d:Nat) (h:HV):HS.rep ⟨e,s⟩ d h=⟨qC d h e,s⟩:=nr rfl
theorem rX (d:Nat) (h:HV):qC d h []=[]:=nr rfl
theorem oP (d:Nat) (h:HV) (k:Nat) (x:HV) (r:aR):qC d h ((k,x) :: r)=if k=d then (k,h) :: r else (k,x) :: qC d h r:=nr rfl
theorem pA (p:Nat→Bool):gE p []=[]:=nr rfl
theorem mP (p:Nat→Bool) (k:Nat) (h:HV) (r:aR):gE p ((k,h) :: r)=(k,h.kill p) :: gE p r:=nr rfl
theorem oF (p:Nat→Bool):eX p []=[]:=nr rfl
theorem lY (p:Nat→Bool) (k:Nat) (h:Row) (r:aC):eX p ((k,h) :: r)=bif p k then eX p r else (k,h.kill p) :: eX p r:=nr rfl
theorem rB (p:Nat→Bool) (nw:Bool) (t s:Nat) (xs:List (List FV)):(Row.sl nw t s xs).kill p=.sl nw t s xs:=nr rfl
theorem rC (p:Nat→Bool) (nw:Bool) (t s:Nat) (xs:List (List HV)):(Row.hl nw t s xs).kill p=.hl nw t s (xs.map (List.map (HV.kill p))):=nr rfl
theorem rD (p:Nat→Bool) (nw:Bool) (t:Nat) (cs:List HV):(Row.bx nw t cs).kill p=.bx nw t (cs.map (HV.kill p)):=nr rfl
theorem zF (p:Nat→Bool) (x:Value):HV.kill p (.v x)=.v x:=by rw [HV.kill]
theorem qW1 (m:Nat→Option Nat) (x:Value):HV.ren m (.v x)=.v x:=by rw [HV.ren]
theorem qWz (id:Nat) (x0:HV) (x:Value):HV.sub id x0 (.v x)=.v x:=by rw [HV.sub]
theorem oT (p:Nat→Bool) (fr:Bool) (xs:List (List FV)):HV.kill p (.lst fr xs)=.lst fr xs:=by rw [HV.kill]
theorem qG5 (m:Nat→Option Nat) (fr:Bool) (xs:List (List FV)):HV.ren m (.lst fr xs)=.lst fr xs:=by rw [HV.ren]
theorem qGv (id:Nat) (x0:HV) (fr:Bool) (xs:List (List FV)):HV.sub id x0 (.lst fr xs)=.lst fr xs:=by rw [HV.sub]
theorem oU (p:Nat→Bool) (fr:Bool) (xs:List (List FV)) (s j k:Nat):HV.kill p (.elt fr xs s j k)=.elt fr xs s j k:=by rw [HV.kill]
theorem qTj (m:Nat→Option Nat) (fr:Bool) (xs:List (List FV)) (s j k:Nat):HV.ren m (.elt fr xs s j k)=.elt fr xs s j k:=by rw [HV.ren]
theorem qGw (id:Nat) (x0:HV) (fr:Bool) (xs:List (List FV)) (s j k:Nat):HV.sub id x0 (.elt fr xs s j k)=.elt fr xs s j k:=by rw [HV.sub]
theorem mJ (p:Nat→Bool):HV.kill p .junk=.junk:=by rw [HV.kill]
theorem qM8 (m:Nat→Option Nat):HV.ren m .junk=.junk:=by rw [HV.ren]
theorem qBt (id:Nat) (x0:HV):HV.sub id x0 .junk=.junk:=by rw [HV.sub]
theorem oS (p:Nat→Bool) (i:Nat):HV.kill p (.own i)=bif p i then .junk else .own i:=by rw [HV.kill]
theorem oR (p:Nat→Bool) (i s j k:Nat):HV.kill p (.ptr i s j k)=bif p i then .junk else .ptr i s j k:=by rw [HV.kill]
theorem oV (p:Nat→Bool) (cs:List HV):HV.kill p (.agg cs)=.agg (cs.map (HV.kill p)):=by rw [HV.kill]
theorem oQ (p:Nat→Bool) (cs:List HV):HV.kill p (.tup cs)=.tup (cs.map (HV.kill p)):=by rw [HV.kill]
theorem qG4 (m:Nat→Option Nat) (i:Nat):HV.ren m (.own i)=match m i with|some j=>.own j|none=>.junk:=by rw [HV.ren];cases m i <;> rfl
theorem qTi (m:Nat→Option Nat) (i s j k:Nat):HV.ren m (.ptr i s j k)=match m i with|some i'=>.ptr i' s j k|none=>.junk:=by rw [HV.ren];cases m i <;> rfl
theorem qG6 (m:Nat→Option Nat) (cs:List HV):HV.ren m (.agg cs)=.agg (cs.map (HV.ren m)):=by rw [HV.ren]
theorem qG3 (m:Nat→Option Nat) (cs:List HV):HV.ren m (.tup cs)=.tup (cs.map (HV.ren m)):=by rw [HV.ren]
theorem qGu (id:Nat) (x0:HV) (i:Nat):HV.sub id x0 (.own i)=if i=id then x0 else .own i:=by rw [HV.sub]
theorem qGt (id:Nat) (x0:HV) (i s j k:Nat):HV.sub id x0 (.ptr i s j k)=if i=id then .junk else .ptr i s j k:=by rw [HV.sub]
theorem qGx (id:Nat) (x0:HV) (cs:List HV):HV.sub id x0 (.agg cs)=.agg (cs.map (HV.sub id x0)):=by rw [HV.sub]
theorem qGs (id:Nat) (x0:HV) (cs:List HV):HV.sub id x0 (.tup cs)=.tup (cs.map (HV.sub id x0)):=by rw [HV.sub]
theorem qQm (m:Nat→Option Nat) (nw:Bool) (t s:Nat) (xs:List (List FV)):(Row.sl nw t s xs).ren m=.sl nw t s xs:=nr rfl
theorem qQn (m:Nat→Option Nat) (nw:Bool) (t s:Nat) (xs:List (List HV)):(Row.hl nw t s xs).ren m=.hl nw t s (xs.map (List.map (HV.ren m))):=nr rfl
theorem qQo (m:Nat→Option Nat) (nw:Bool) (t:Nat) (cs:List HV):(Row.bx nw t cs).ren m=.bx nw t (cs.map (HV.ren m)):=nr rfl
theorem qQj (id:Nat) (x0:HV) (nw:Bool) (t s:Nat) (xs:List (List FV)):(Row.sl nw t s xs).sub id x0=.sl nw t s xs:=nr rfl
theorem qQk (id:Nat) (x0:HV) (nw:Bool) (t s:Nat) (xs:List (List HV)):(Row.hl nw t s xs).sub id x0=.hl nw t s (xs.map (List.map (HV.sub id x0))):=nr rfl
theorem qQl (id:Nat) (x0:HV) (nw:Bool) (t:Nat) (cs:List HV):(Row.bx nw t cs).sub id x0=.bx nw t (cs.map (HV.sub id x0)):=nr rfl
theorem xR (id i:Nat):only id i=(i == id):=nr rfl
theorem qU4 (n i:Nat):cE n i=(decide (n≤i) && decide (i < n + 8)):=by rw [Bool.eq_iff_iff];simp [cE]
theorem zHe (n i:Nat):sh n i=bif decide (i < 8) then some (n + i) else none:=by unfold sh;congr 1;rw [Bool.eq_iff_iff];simp
theorem qZ0 (e:aR) (s:aC) (n:Nat) (st:aC):HS.adds ⟨e,s⟩ n st=⟨gE (cE n) e,xK n st (eX (cE n) s)⟩:=nr rfl
theorem qLy (n:Nat) (b:aC):xK n [] b=b:=nr rfl
theorem qFi (n k:Nat) (r:Row) (t b:aC):xK n ((k,r) :: t) b=(n + k,r.ren (sh n)) :: xK n t b:=nr rfl
theorem qQq (e:aR) (s:aC) (id:Nat) (x:HV):HS.rest ⟨e,s⟩ id x=⟨qU3 id x e,qEq id x s⟩:=nr rfl
theorem qKb (id:Nat) (x:HV):qU3 id x []=[]:=nr rfl
theorem qBy (id:Nat) (x:HV) (k:Nat) (h:HV) (r:aR):qU3 id x ((k,h) :: r)=(k,HV.sub id x h) :: qU3 id x r:=nr rfl
theorem qEp (id:Nat) (x:HV):qEq id x []=[]:=nr rfl
theorem qAw (id:Nat) (x:HV) (k:Nat) (h:Row) (r:aC):qEq id x ((k,h) :: r)=if k=id then qEq id x r else (k,h.sub id x) :: qEq id x r:=nr rfl
theorem qRy (id:Nat) (r:Row):gW id r []=[]:=nr rfl
theorem qLj (id:Nat) (r:Row) (k:Nat) (s:Row) (t:aC):gW id r ((k,s) :: t)=if k=id then (k,r) :: t else (k,s) :: gW id r t:=nr rfl
theorem qZd (l:aR) (ds:List (Option Nat)):hG l ds none=.yes:=nr rfl
theorem qZc (l:aR) (ds:List (Option Nat)) (j:Nat) (want:Bool):hG l ds (some (j,want))=match ds[j]? with|some (some d)=>hGv d want (hlk l d)|_=>.bad:=nr rfl
theorem qUh (d:Nat) (want b:Bool):hGv d want (some (.v (.bool b)))=.ask d b want:=nr rfl
theorem qZb (d:Nat) (want:Bool) (vs:Array Value):hGv d want (some (.v (.tuple vs)))=.no:=nr rfl
theorem zDu (P:Program) (d:Option Nat) (S:HS) (K:HS→Prop) (c:Prop) (h:HV) (S':HS):qCb P d S K (.go c h S')=(c∧K (S'.set d h)):=nr rfl
theorem qTw (P:Program) (d:Option Nat) (S:HS) (K:HS→Prop) (f:FuncId) (args:List HV):qCb P d S K (.call f args)=HAt P f args S (fun h S'=>iQ K (S'.set d h)):=nr rfl
theorem qY6 (P:Program) (d:Option Nat) (S:HS) (K:HS→Prop) (t:TypeId) (x y:List Value) (neg:Bool):qCb P d S K (.eqn t x y neg)=∃ r,EqR P t x.toArray y.toArray r∧iQ K (S.set d (.v (.bool (neg ^^ r)))):=nr rfl
theorem qNk (P:Program) (d:Option Nat) (S:HS) (K:HS→Prop) (ok:Bool) (s:ByteArray):qCb P d S K (.bytes ok s)=(bH (ok=true∧s.size≤9223372036854775807)∧K (S.set d (.lst true (gF s)))):=nr rfl
theorem zDv (P:Program) (N:Nat) (o:Oper) (S:HS) (K:HS→Prop):HGo P N o S K=zG6 P N o (kF S o.op) K:=nr rfl
theorem qY7 (P:Program) (N:Nat) (o:Oper) (S:HS) (K:HS→Prop):zG6 P N o S K=match cQ N o.dst with|true=>qCb P o.dst S K (hop P S (mH o.dst) o.op)|false=>False:=nr rfl
theorem qNb (S:HS) (x:Operand):kF S (.move x)=S:=nr rfl
theorem qDa (S:HS) (x:Operand):kF S (.assign x)=S:=nr rfl
theorem qM9 (S:HS) (c a b:Operand):kF S (.pick c a b)=S:=nr rfl
theorem xY (S:HS) (x:Operand) (i:Nat):kF S (.extract x i)=S:=nr rfl
theorem qHb (S:HS) (t:TypeId) (x:Operand) (f:Nat):kF S (.field t x f)=S:=nr rfl
theorem qHc (S:HS) (t:TypeId) (x:Operand) (f:Nat):kF S (.fieldAddr t x f)=S:=nr rfl
theorem qNa (S:HS) (x:Operand):kF S (.nilCheck x)=S:=nr rfl
theorem qHa (S:HS) (t:TypeId) (x i:Operand):kF S (.indexAddr t x i)=S:=nr rfl
theorem qG8 (S:HS) (t:TypeId) (x:Operand) (l h m:Option Operand):kF S (.slice t x l h m)=S:=nr rfl
theorem qNd (S:HS) (t:TypeId) (x:Operand):kF S (.load t x)=S:=nr rfl
theorem qHd (S:HS) (t:TypeId) (ps:Array (Nat × Operand)):kF S (.build t ps)=S:=nr rfl
theorem qTl (S:HS) (b:BinOp) (t:TypeId) (x y:Operand) (u:TypeId):kF S (.binOp b t x y u)=S:=nr rfl
theorem qYz (S:HS) (u:UnOp) (t:TypeId) (x:Operand):kF S (.unOp u t x)=S:=nr rfl
theorem qNe (S:HS) (s d:TypeId) (x:Operand):kF S (.convert s d x)=S:=nr rfl
theorem qG9 (S:HS) (t:TypeId) (x i:Operand):kF S (.index t x i)=S:=nr rfl
theorem qNf (S:HS) (c:Call):kF S (.call c)=S:=nr rfl
theorem qHe (S:HS) (t:TypeId):kF S (.alloc t)=S:=nr rfl
theorem qTk (S:HS) (t:TypeId) (x:Operand):kF S (.box t x)=S:=nr rfl
theorem qNc (S:HS) (t:TypeId) (x y:Operand):kF S (.makeSlice t x y)=S:=nr rfl
theorem qG7 (S:HS) (t:TypeId) (x y:Operand):kF S (.store t x y)=restAll S (zC7 S (hev S.env x) (hev S.env y)):=nr rfl
theorem qC9 (S:HS) (t n:TypeId) (ps:Array (Nat × Operand)):kF S (.buildSlice t n ps)=restAll S (zC8 (fJ S.env ps.toList)):=nr rfl
theorem qSj (S:HS) (id sz i k:Nat) (h:HV):zC7 S (some (.ptr id sz i k)) (some h)=qSn S h (rlk S.st id):=nr rfl
theorem qSk (S:HS) (h:HV) (nw:Bool) (ty s:Nat) (els:List (List FV)):qSn S h (some (.sl nw ty s els))=pZ h:=nr rfl
theorem qSm (S:HS) (h:HV) (nw:Bool) (ty:Nat) (cs:List HV):qSn S h (some (.bx nw ty cs))=[]:=nr rfl
theorem qSo (ps:List (Nat × HV)):zC8 (some ps)=ps.flatMap fun p=>pZ p.2:=nr rfl
theorem qF4 (i:Nat):pZ (.own i)=[i]:=nr rfl
theorem qSp (x:Value):pZ (.v x)=[]:=nr rfl
theorem qF5 (fr:Bool) (xs:List (List FV)):pZ (.lst fr xs)=[]:=nr rfl
theorem qF6 (cs:List HV):pZ (.agg cs)=cs.flatMap sX:=nr rfl
theorem qC2 (i:Nat):sX (.own i)=[i]:=nr rfl
theorem qMa (x:Value):sX (.v x)=[]:=nr rfl
theorem qC3 (fr:Bool) (xs:List (List FV)):sX (.lst fr xs)=[]:=nr rfl
theorem qCs (S:HS):restAll S []=S:=nr rfl
theorem xH (S:HS) (i:Nat) (r:List Nat):restAll S (i :: r)=restAll (xG S i) r:=nr rfl
theorem qFc (e:aR) (s:aC) (i:Nat):xG ⟨e,s⟩ i=match decide (i < 1000000) with|true=>(match rlk s i with|some (.sl nw _ _ els)=>HS.rest ⟨e,s⟩ i (.lst nw els)|_=>⟨e,s⟩)|false=>⟨e,s⟩:=by unfold xG;rw [show Nat.blt i held=decide (i < 1000000) by rw [Bool.eq_iff_iff];simp [Nat.blt_eq,held]];rfl
theorem qSl (S:HS) (h:HV) (nw:Bool) (ty s:Nat) (els:List (List HV)):qSn S h (some (.hl nw ty s els))=[]:=nr rfl
theorem qTf (N:Nat) (d:Option Nat) (S:HS) (K:HS→Prop):iR N d S K=match cQ N d with|true=>K (S.set d (.v undef))|false=>False:=nr rfl
theorem qM5 (P:Program) (N:Nat) (o:Oper) (S:HS) (K:HS→Prop):qP1 P N o S K .yes=HGo P N o S K:=nr rfl
theorem qTe (P:Program) (N:Nat) (o:Oper) (S:HS) (K:HS→Prop):qP1 P N o S K .no=iR N o.dst S K:=nr rfl
theorem qM6 (P:Program) (N:Nat) (o:Oper) (S:HS) (K:HS→Prop) (d:Nat) (b want:Bool):qP1 P N o S K (.ask d b want)=match b == want with|true=>HGo P N o (S.rep d (.v (.bool want))) K|false=>iR N o.dst (S.rep d (.v (.bool (!want)))) K:=nr rfl
theorem qYx (P:Program) (N:Nat) (ds:List (Option Nat)) (K:HS→Prop) (S:HS):HV2 P N ds K [] S=K S:=nr rfl
theorem qTd (P:Program) (N:Nat) (ds:List (Option Nat)) (K:HS→Prop) (o:Oper) (rest:List Oper) (S:HS):HV2 P N ds K (o :: rest) S=qP1 P N o S (HV2 P N ds K rest) (hG S.env ds o.guard):=nr rfl
theorem qY4 (P:Program) (o:Oper) (S:HS) (K:HS→Prop) (c:Prop) (h:HV) (S':HS):qAs P o S K (.go c h S')=(cN o.op=true∧c∧K (S.set o.dst h)):=nr rfl
theorem qNj (P:Program) (o:Oper) (S:HS) (K:HS→Prop) (f:FuncId) (args:List HV):qAs P o S K (.call f args)=zL0 P f args S (fun x=>iQ K (S.set o.dst (.v x))):=nr rfl
theorem qTv (P:Program) (o:Oper) (S:HS) (K:HS→Prop) (t:TypeId) (x y:List Value) (neg:Bool):qAs P o S K (.eqn t x y neg)=∃ r,EqR P t x.toArray y.toArray r∧iQ K (S.set o.dst (.v (.bool (neg ^^ r)))):=nr rfl
theorem qY5 (P:Program) (N:Nat) (o:Oper) (S:HS) (K:HS→Prop):qVo P N o S K=match cQ N o.dst with|true=>qAs P o S K (hop P S (mH o.dst) o.op)|false=>False:=nr rfl
theorem qG0 (P:Program) (N:Nat) (o:Oper) (S:HS) (K:HS→Prop):qCa P N o S K .yes=qVo P N o S K:=nr rfl
theorem qM4 (P:Program) (N:Nat) (o:Oper) (S:HS) (K:HS→Prop):qCa P N o S K .no=iR N o.dst S K:=nr rfl
theorem qG1 (P:Program) (N:Nat) (o:Oper) (S:HS) (K:HS→Prop) (d:Nat) (b want:Bool):qCa P N o S K (.ask d b want)=match b == want with|true=>qVo P N o (S.rep d (.v (.bool want))) K|false=>iR N o.dst (S.rep d (.v (.bool (!want)))) K:=nr rfl
theorem qYs (P:Program) (N:Nat) (ds:List (Option Nat)) (K:HS→Prop) (S:HS):HVq P N ds K [] S=K S:=nr rfl
theorem qTb (P:Program) (N:Nat) (ds:List (Option Nat)) (K:HS→Prop) (o:Oper) (rest:List Oper) (S:HS):HVq P N ds K (o :: rest) S=qCa P N o S (HVq P N ds K rest) (hG S.env ds o.guard):=nr rfl
theorem qLp (t:Nat):bL (.tmp t)=[t]:=nr rfl
theorem qCp (v:Value):bL (.const v)=[]:=nr rfl
theorem xC (g:Nat):bL (.global g)=[]:=nr rfl
theorem qE2 (f:FuncId):bL (.func f)=[]:=nr rfl
theorem qEz  : pR []=[]:=nr rfl
theorem qCo (x:Operand) (r:List Operand):pR (x :: r)=bL x ++ pR r:=nr rfl
theorem qEx  : lX []=[]:=nr rfl
theorem qCm (k:Nat) (x:Operand) (r:List (Nat × Operand)):lX ((k,x) :: r)=bL x ++ lX r:=nr rfl
theorem qE3 (x:Operand):qCq (some x)=bL x:=nr rfl
theorem qE4  : qCq none=[]:=nr rfl
theorem wX (x:Operand):bJ (.move x)=bL x:=nr rfl
theorem qX (x:Operand):bJ (.assign x)=bL x:=nr rfl
theorem wW (x:Operand):bJ (.nilCheck x)=bL x:=nr rfl
theorem wV (c a b:Operand):bJ (.pick c a b)=bL c ++ (bL a ++ bL b):=nr rfl
theorem qM (x:Operand) (i:Nat):bJ (.extract x i)=bL x:=nr rfl
theorem uB (t:TypeId) (x:Operand) (f:Nat):bJ (.field t x f)=bL x:=nr rfl
theorem uC (t:TypeId) (x:Operand) (f:Nat):bJ (.fieldAddr t x f)=bL x:=nr rfl
theorem wY (t:TypeId) (x:Operand):bJ (.load t x)=bL x:=nr rfl
theorem qEy (u:UnOp) (t:TypeId) (x:Operand):bJ (.unOp u t x)=bL x:=nr rfl
theorem wZ (s d:TypeId) (x:Operand):bJ (.convert s d x)=bL x:=nr rfl
theorem uA (t:TypeId) (x i:Operand):bJ (.indexAddr t x i)=bL x ++ bL i:=nr rfl
theorem tZ (t:TypeId) (x i:Operand):bJ (.index t x i)=bL x ++ bL i:=nr rfl
theorem tX (t:TypeId) (x:Operand) (l h:Option Operand):bJ (.slice t x l h none)=bL x ++ (qCq l ++ qCq h):=nr rfl
theorem qCn (b:BinOp) (t:TypeId) (x y:Operand) (u:TypeId):bJ (.binOp b t x y u)=bL x ++ bL y:=nr rfl
theorem uD (t:TypeId) (ps:Array (Nat × Operand)):bJ (.build t ps)=lX ps.toList:=nr rfl
theorem qW (t:TypeId) (n:Nat) (ps:Array (Nat × Operand)):bJ (.buildSlice t n ps)=lX ps.toList:=nr rfl
theorem tY (t:TypeId) (x y:Operand):bJ (.makeSlice t x y)=bL x ++ bL y:=nr rfl
theorem xA (k:Callee) (args:Array Operand) (ats:Array TypeId):bJ (.call ⟨k,args,ats⟩)=qE1 k ++ pR args.toList:=nr rfl
theorem xB (x:Operand):qE1 (.value x)=bL x:=nr rfl
theorem qY (b:Builtin):qE1 (.builtin b)=[]:=nr rfl
theorem qE6 (ds:List (Option Nat)):fE ds none=[]:=nr rfl
theorem qE5 (ds:List (Option Nat)) (g:Nat) (b:Bool):fE ds (some (g,b))=match ds[g]? with|some (some d)=>[d]|_=>[]:=nr rfl
theorem qL6 (e:aR):dW e []=[]:=nr rfl
theorem qF2 (e:aR) (t:Nat) (r:List Nat):dW e (t :: r)=match hlk e t with|some h=>(t,h) :: dW e r|none=>dW e r:=nr rfl
theorem qFy  : jA []=true:=nr rfl
theorem qSf (k:Nat) (v:Value) (r:aR):jA ((k,.v v) :: r)=jA r:=nr rfl
theorem qFz (k:Nat) (b:Bool) (xs:List (List FV)) (r:aR):jA ((k,.lst b xs) :: r)=jA r:=nr rfl
theorem qF0 (k:Nat) (hs:List HV) (r:aR):jA ((k,.agg hs) :: r)=jA r:=nr rfl
theorem qTp (d:Option Nat) (S:HS) (K:HS→Prop) (c:Prop) (i:Nat) (S':HS):qZ4 d S K (.go c (.own i) S')=match rlk S'.st i with|some (.sl _ _ _ els)=>c∧K (S.set d (.lst true els))|_=>False:=nr rfl
theorem qC6 (t:TypeId) (n:Nat) (ps:Array (Nat × Operand)):zGi (.buildSlice t n ps)=true:=nr rfl
theorem qGi (t:TypeId) (x y:Operand):zGi (.makeSlice t x y)=true:=nr rfl
theorem xL (t:TypeId) (n:Nat) (ps:Array (Nat × Operand)):cN (.buildSlice t n ps)=false:=nr rfl
theorem qCu (t:TypeId) (x y:Operand):cN (.makeSlice t x y)=false:=nr rfl
theorem qY2 (P:Program) (o:Oper) (S T:HS) (K:HS→Prop) (c:Prop) (h:HV) (S':HS):tK P o S T K (.go c h S')=match cN o.op with|true=>c∧K (S.set o.dst h)|false=>(match zGi o.op && jA T.env with|true=>qZ4 o.dst S K (hop P ⟨T.env,[]⟩ (mH o.dst) o.op)|false=>False):=nr rfl
theorem qNi (P:Program) (o:Oper) (S T:HS) (K:HS→Prop) (f:FuncId) (args:List HV):tK P o S T K (.call f args)=zJy P f args T (fun x=>iQ K (S.set o.dst x)):=nr rfl
theorem qTu (P:Program) (o:Oper) (S T:HS) (K:HS→Prop) (t:TypeId) (x y:List Value) (neg:Bool):tK P o S T K (.eqn t x y neg)=∃ r,EqR P t x.toArray y.toArray r∧iQ K (S.set o.dst (.v (.bool (neg ^^ r)))):=nr rfl
theorem qY3 (P:Program) (N:Nat) (o:Oper) (S T:HS) (K:HS→Prop):qXm P N o S T K=match cQ N o.dst with|true=>tK P o S T K (hop P T (mH o.dst) o.op)|false=>False:=nr rfl
theorem qGy (P:Program) (N:Nat) (o:Oper) (S T:HS) (K:HS→Prop):fR P N o S T K .yes=qXm P N o S T K:=nr rfl
theorem qM3 (P:Program) (N:Nat) (o:Oper) (S T:HS) (K:HS→Prop):fR P N o S T K .no=iR N o.dst S K:=nr rfl
theorem qGz (P:Program) (N:Nat) (o:Oper) (S T:HS) (K:HS→Prop) (d:Nat) (b want:Bool):fR P N o S T K (.ask d b want)=match b == want with|true=>qXm P N o (S.rep d (.v (.bool want))) (T.rep d (.v (.bool want))) K|false=>iR N o.dst (S.rep d (.v (.bool (!want)))) K:=nr rfl
theorem qYr (P:Program) (N:Nat) (ds:List (Option Nat)) (K:HS→Prop) (S:HS):HVr P N ds K [] S=K S:=nr rfl
theorem qTa (P:Program) (N:Nat) (ds:List (Option Nat)) (K:HS→Prop) (o:Oper) (rest:List Oper) (S:HS):HVr P N ds K (o :: rest) S=fR P N o S ⟨dW S.env (fE ds o.guard ++ bJ o.op),S.st⟩ (HVr P N ds K rest) (hG (dW S.env (fE ds o.guard ++ bJ o.op)) ds o.guard):=nr rfl
theorem qMv (k:Nat):mH (some k)=8 * k:=nr rfl
theorem qMw  : mH none=0:=nr rfl
theorem qFl (x:Operand):cN (.move x)=true:=nr rfl
theorem xM (x:Operand):cN (.assign x)=true:=nr rfl
theorem qFj (c a b:Operand):cN (.pick c a b)=true:=nr rfl
theorem uE (x:Operand) (i:Nat):cN (.extract x i)=true:=nr rfl
theorem qCx (t:TypeId) (x:Operand) (f:Nat):cN (.field t x f)=true:=nr rfl
theorem qCy (t:TypeId) (x:Operand) (f:Nat):cN (.fieldAddr t x f)=true:=nr rfl
theorem qFk (x:Operand):cN (.nilCheck x)=true:=nr rfl
theorem qCw (t:TypeId) (x i:Operand):cN (.indexAddr t x i)=true:=nr rfl
theorem qCt (t:TypeId) (x:Operand) (l h m:Option Operand):cN (.slice t x l h m)=true:=nr rfl
theorem qFm (t:TypeId) (x:Operand):cN (.load t x)=true:=nr rfl
theorem qCz (t:TypeId) (ps:Array (Nat × Operand)):cN (.build t ps)=true:=nr rfl
theorem qL1 (b:BinOp) (t:TypeId) (x y:Operand) (u:TypeId):cN (.binOp b t x y u)=true:=nr rfl
theorem qSe (u:UnOp) (t:TypeId) (x:Operand):cN (.unOp u t x)=true:=nr rfl
theorem qFn (s d:TypeId) (x:Operand):cN (.convert s d x)=true:=nr rfl
theorem qCv (t:TypeId) (x i:Operand):cN (.index t x i)=true:=nr rfl
theorem qL0 (args:Array Operand) (ats:Array TypeId):cN (.call ⟨.builtin .len,args,ats⟩)=true:=nr rfl
theorem qLz (args:Array Operand) (ats:Array TypeId):cN (.call ⟨.builtin .min,args,ats⟩)=true:=nr rfl
theorem qPt (k:Nat):pH k []=[]:=nr rfl
theorem qKq (k:Nat) (v:HV) (r:List HV):pH k (v :: r)=(k,v) :: pH (k + 1) r:=nr rfl
theorem zZ (e:aR) (s:aC) (ks ids:List Nat):HS.keep ⟨e,s⟩ ks ids=⟨rZ ks e,rE ids s⟩:=nr rfl
theorem zR (l:aR):rZ [] l=[]:=nr rfl
theorem zP (k:Nat) (r:List Nat) (l:aR):rZ (k :: r) l=match hlk l k with|some v=>(k,v) :: rZ r l|none=>rZ r l:=nr rfl
theorem zQ (l:aC):rE [] l=[]:=nr rfl
theorem zN (k:Nat) (r:List Nat) (l:aC):rE (k :: r) l=match rlk l k with|some v=>(k,v) :: rE r l|none=>rE r l:=nr rfl
theorem yA (P:Program) (rs:List ResultVar) (Q:HV→aC→Prop) (S:HS):zDx P rs Q .normal S=kN P S rs fun hs=>qKu S (qB hs) Q:=nr rfl
theorem yM (P:Program) (rs:List ResultVar) (Q:HV→aC→Prop) (S:HS):zDx P rs Q .ret S=kN P S rs fun hs=>qKu S (qB hs) Q:=nr rfl
theorem yH (P:Program) (S:HS) (K:List HV→Prop):kN P S [] K=K []:=nr rfl
theorem aH (P:Program) (S:HS) (p ty:Nat) (r:List ResultVar) (K:List HV→Prop):kN P S (.cell p ty :: r) K=zH1 (nM S (bU P ty) (hlk S.env p)) fun h=>kN P S r fun hs=>K (h :: hs):=nr rfl
theorem aT (c:Prop) (h:HV) (S:HS) (K:HV→Prop):zH1 (.go c h S) K=(c∧K h):=nr rfl
theorem yE (P:Program) (S:HS) (t:Nat) (r:List ResultVar) (K:List HV→Prop):kN P S (.tmp t :: r) K=match hlk S.env t with|some h=>kN P S r fun hs=>K (h :: hs)|none=>False:=nr rfl
theorem yK (h:HV):qB [h]=h:=nr rfl
theorem yJ (a b:HV) (r:List HV):qB (a :: b :: r)=.tup (a :: b :: r):=nr rfl
theorem zGd (i:Nat):pos [] i=none:=nr rfl
theorem yF (k:Nat) (r:List Nat) (i:Nat):pos (k :: r) i=if k=i then some 0 else (pos r i).map (· + 1):=nr rfl
theorem zAr (m:Nat→Option Nat) (st:aC) (k:Nat):iB m st k []=[]:=nr rfl
theorem yG (m:Nat→Option Nat) (st:aC) (k id:Nat) (r:List Nat):iB m st k (id :: r)=match rlk st id with|some row=>(k,row.ren m) :: iB m st (k + 1) r|none=>iB m st (k + 1) r:=nr rfl
theorem qKm {p:Prop} (h:p):bH p=True:=eq_true h
theorem qPo:bH True=True:=rfl
theorem ltT {a b:Int} (h:a < b):decide (a < b)=true:=decide_eq_true h
theorem ltF {a b:Int} (h:b≤a):decide (a < b)=false:=decide_eq_false (by omega)
theorem leT {a b:Int} (h:a≤b):decide (a≤b)=true:=decide_eq_true h
theorem leF {a b:Int} (h:b < a):decide (a≤b)=false:=decide_eq_false (by omega)
theorem eqT {a b:Int} (h:a=b):decide (a=b)=true:=decide_eq_true h
theorem eqF {a b:Int} (h:a < b∨b < a):decide (a=b)=false:=decide_eq_false (by omega)
theorem zGn {α:Type} {l:List α} {i:Nat} {d:α} (h:i < l.length):l.getD i d=l[i]:=dH h
theorem sC {α β:Type} {f:α→β} {l:List α} {i:Nat} {d:β} (h:i < l.length):(l.map f).getD i d=f (l[i]):=by rw [zGn (by simpa using h),List.getElem_map]
theorem qJ6:(default:FV)=.v (.bool false):=rfl
theorem zKa {x:Int} (h1:-9223372036854775808≤x) (h2:x≤9223372036854775807):IntKind.i64.wrap x=x:=zJ9 ⟨by unfold zKv;exact h1,by unfold zK9;exact h2⟩
theorem qEg (n:Nat):((n:Int) + 1).toNat=n + 1:=by omega
theorem qLd (n m:Nat):((n:Int) + (m:Int)).toNat=n + m:=by omega
theorem qP3 {α:Type} {f:α→List FV} {sz:Nat} (l:List α) (h:∀ a,(f a).length=sz):Wid sz (l.map f):=fun x hx=>by
 obtain ⟨a,-,rfl⟩:=List.mem_map.1 hx;exact h a
end Go.Eng
end

section
namespace Go.Eng
open Go Go.RowKit
def qQc (s:ByteArray):List FV:=[.v (.string s)]
def bZ (a:List ByteArray):List (List FV):=a.map qQc
theorem aM (a:List ByteArray):(bZ a).length=a.length:=by simp [bZ]
theorem dD (a:List ByteArray):Wid 1 (bZ a)=True:=eq_true (qP3 a fun _=>rfl)
theorem jY {a:List ByteArray} {i:Nat} {d:List FV} (h:i < a.length):(bZ a).getD i d=[.v (.string a[i])]:=by unfold bZ;rw [sC h];rfl
theorem jX (a:List ByteArray):nY (bZ a)=bZ a:=by
 unfold nY bZ;rw [List.map_map];apply List.map_congr_left;intro s _;simp [qQc,FV.old]
theorem lU (a:List ByteArray):∀ x ∈ bZ a,∀ f ∈ x,FreshF f:=fun x hx f hf=>by
 obtain ⟨s,-,rfl⟩:=List.mem_map.1 hx;simp [qQc] at hf;subst hf;exact .v _
theorem iW (a:List ByteArray) (s:ByteArray):bZ a ++ [[.v (.string s)]]=bZ (a ++ [s]):=by simp [bZ,qQc]
theorem zAc (a:List ByteArray) (n:Nat):(bZ a).take n=bZ (a.take n):=by simp [bZ,List.map_take]
theorem zJu {P:Program} {N:Nat} {x:Code} {Q:dS} {S:HS} (k id ty sz:Nat) (hk:hlk S.env k=some (.v (.slice none 0 0))) (h:HW P N x Q (((S.kill (only id)).row id (.sl true ty sz [])).rep k (.own id))):HW P N x Q S:=fun c l w I=>by
 refine h c l w ?_;obtain ⟨ρ,xs,G⟩:=I
 have G2:=G.new id (.sl true ty sz []) [] (.slice none 0 0) (w':=w) (Below.refl _ _) (fun b hb=>by cases hb) (fun _ _ =>
  ⟨by rw [aJ];exact World.ownsRow_nil w 0 ty sz,⟨by simp,fun i k hi=>absurd hi (by simp)⟩,fun b hb=>by rw [aJ] at hb;cases hb⟩)
 refine ⟨_,_,G2.rows,G2.apart,fun j y hj=>?_,G2.kept,G2.a0⟩
 simp only [HS.rep,yX] at hj
 by_cases e:j=k
 ·subst e;rw [if_pos rfl] at hj
  have h1:hlk ((S.kill (only id)).row id (.sl true ty sz [])).env j=some (.v (.slice none 0 0)):=by
   show hlk (gE (only id) S.env) j=_
   rw [fY,hk];simp [HV.kill]
  rw [h1] at hj;simp only [Option.map_some,Option.some.injEq] at hj;subst hj;obtain ⟨v,a,b⟩:=G2.env j _ h1
  have:=bB b
  subst this;refine ⟨_,a,?_⟩
  have:=RepH.own (w:=w) (A:=c.A (eH ρ id (.slice none 0 0)) (((S.kill (only id)).row id (.sl true ty sz [])).rep j (.own id)).st) (n0:=c.n0) (ρ:=eH ρ id (.slice none 0 0)) id (by rw [aJ];rfl)
  rw [aJ] at this;exact this
 ·rw [if_neg e] at hj;exact G2.env j y hj
theorem qHi {P:Program} {f:FuncId} {args:List HV} {x:Value} (h:∀ (w:World) (vs:List Value),jR w (fun _=>False) w.heap.size (fun _=>undef) vs args→Calls P f vs.toArray w (Ret fun r w'=>r=x∧Below w.heap.size w w')):HFun P f args (fun h st=>h=.v x∧st=[]):=fun w vs R =>
 Ret.mono (h w vs R) fun v w' ⟨hv,B⟩=>⟨B,.v x,[],fun i r hi=>by simp [rlk] at hi,⟨rfl,rfl⟩,fun _=>undef,fun _=>[],⟨fun id r hr=>by simp [rlk] at hr,fun i j r s b hne hi=>by simp [rlk] at hi,fun k x hk=>by simp [hlk] at hk,⟨B.os,B.tape,B.output,B.size,fun b hlt _=>B.block b hlt⟩,fun b hb=>⟨hb,fun h=>h⟩⟩,by rw [hv];exact .v x⟩
theorem cZ {st:aC} {fr:Bool} {xs ys:List (List FV)} (h:nY xs=ys):Lend st (.lst fr xs) (.lst false ys):=h ▸ .lst fr xs
theorem qC7 {st:aC} {id ty sz:Nat} {nw:Bool} {els ys:List (List FV)} (h:nY els=ys) (hr:rlk st id=some (.sl nw ty sz els)):Lend st (.own id) (.lst false ys):=h ▸ .own hr
section
variable {S:HS} {Q:HV→aC→Prop}
theorem bD {a:Value} (q:Q (.v a) []):qKu S (.v a) Q:=⟨[],by simp,rfl,.v _,fun id h=>by simp at h,by rw [HV.ren];exact q⟩
theorem qG2 {a b c:Value} (q:Q (.tup [.v a,.v b,.v c]) []):qKu S (.tup [.v a,.v b,.v c]) Q :=
 ⟨[],by simp,rfl,.tup fun x hx=>by simp at hx;rcases hx with rfl|rfl|rfl <;> exact .v _,fun id h=>by simp at h,by rw [HV.ren];simp only [List.map_cons,List.map_nil,HV.ren];exact q⟩
theorem qW0 {id ty sz:Nat} {els:List (List FV)} (hr:rlk S.st id=some (.sl true ty sz els)) (hf:∀ x ∈ els,∀ f ∈ x,FreshF f) (q:Q (.own 0) [(0,.sl true ty sz els)]):qKu S (.own id) Q :=
 ⟨[id],by simp,by simp [dup],.own _,fun i h r hr'=>by
  simp at h;subst h;rw [hr] at hr';simp only [Option.some.injEq] at hr';subst hr';exact ⟨rfl,hf⟩,by
  rw [HV.ren];simp only [pos,if_true,iB,hr,Row.ren];exact q⟩
end
end Go.Eng
end

section
namespace Go.Eng
open Go Go.RowKit
theorem qSt (j:Nat):qBg [] j=none:=nr rfl
theorem qMe (k:Nat) (r:List Nat) (j:Nat):qBg (k :: r) j=if j=0 then some k else qBg r (j - 1):=by cases j <;> simp [qBg]
theorem zB9 (ids:List Nat) (n j:Nat):sh2 ids n j=match qBg ids j with|some i=>some i|none=>bif decide (j < 8) then some (n + j) else none:=by
 unfold sh2;split <;> rename_i h <;> rw [h];congr 1;rw [Bool.eq_iff_iff];simp [Nat.blt_eq]
theorem qYp (i:Nat):inL [] i=false:=nr rfl
theorem qS8 (k:Nat) (r:List Nat) (i:Nat):inL (k :: r) i=(k == i || inL r i):=nr rfl
theorem qMt:qS6 none=true:=nr rfl
theorem qYk (nw:Bool) (t s:Nat) (xs:List (List FV)):qS6 (some (.sl nw t s xs))=true:=nr rfl
theorem qYm (nw:Bool) (t:Nat) (cs:List HV):qS6 (some (.bx nw t cs))=false:=nr rfl
theorem qYl (nw:Bool) (t s:Nat) (xs:List (List HV)):qS6 (some (.hl nw t s xs))=true:=nr rfl
theorem qYo (nw:Bool) (t s:Nat) (xs:List (List HV)):jG (some (.hl nw t s xs))=False:=nr rfl
theorem qMu:jG none=False:=nr rfl
theorem qYn (nw:Bool) (t s:Nat) (xs:List (List FV)):jG (some (.sl nw t s xs))=False:=nr rfl
theorem zDo (t:Nat) (cs:List HV):jG (some (.bx true t cs))=False:=nr rfl
theorem zDp (t:Nat) (cs:List HV):jG (some (.bx false t cs))=True:=nr rfl
theorem qLc (ids:List Nat) (st:aC) (n i:Nat):fC ids st n i=(cE n i || (inL ids i && qS6 (rlk st i))):=nr rfl
theorem qZi (ids:List Nat) (n i:Nat):kH ids n i=(cE n i || inL ids i):=nr rfl
theorem qMd (ids:List Nat) (st:aC) (j:Nat):cR ids st j=match qBg ids j with|some i=>rlk st i|none=>none:=nr rfl
theorem qZs (nw:Bool) (t s:Nat) (xs:List (List FV)):(Row.sl nw t s xs).dark=.sl nw t s xs:=nr rfl
theorem qZu (nw:Bool) (t:Nat) (cs:List HV):(Row.bx nw t cs).dark=.bx false t cs:=nr rfl
theorem qZt (nw:Bool) (t s:Nat) (xs:List (List HV)):(Row.hl nw t s xs).dark=.hl nw t s xs:=nr rfl
theorem qZo (o:Option Row) (nw:Bool) (t s:Nat) (xs:List (List HV)):(Row.hl nw t s xs).flag o=.hl nw t s xs:=by
 cases o with
|none=>rfl
|some o=>cases o <;> rfl
theorem qUx (r:Row) (nw:Bool) (t s:Nat) (xs:List (List HV)):r.flag (some (.hl nw t s xs))=r:=by cases r <;> rfl
theorem qPg (r:Row):r.flag none=r:=nr rfl
theorem qZn (o:Option Row) (nw:Bool) (t s:Nat) (xs:List (List FV)):(Row.sl nw t s xs).flag o=.sl nw t s xs:=by
 cases o with
|none=>rfl
|some o=>cases o <;> rfl
theorem qZp (nw n2:Bool) (t t2:Nat) (cs c2:List HV):(Row.bx n2 t2 c2).flag (some (.bx nw t cs))=.bx nw t2 c2:=nr rfl
theorem qUw (r:Row) (nw:Bool) (t s:Nat) (xs:List (List FV)):r.flag (some (.sl nw t s xs))=r:=by cases r <;> rfl
theorem qPm (m:Nat→Option Nat) (st:aC) (k:Nat):eQ m st k []=[]:=nr rfl
theorem qKj (m:Nat→Option Nat) (st:aC) (k id:Nat) (r:List Nat):eQ m st k (id :: r)=match rlk st id with|some row=>(k,(row.ren m).dark) :: eQ m st (k + 1) r|none=>eQ m st (k + 1) r:=nr rfl
theorem qXt (S0:aC) (ids:List Nat) (n:Nat) (b:aC):swp S0 ids n [] b=b:=nr rfl
theorem qRu (S0:aC) (ids:List Nat) (n j:Nat) (r:Row) (t b:aC):swp S0 ids n ((j,r) :: t) b=((sh2 ids n j).getD 0,(r.ren (sh2 ids n)).flag (cR ids S0 j)) :: swp S0 ids n t b:=nr rfl
theorem qXu (e:aR) (s:aC) (ids:List Nat) (n:Nat) (st:aC):HS.swap ⟨e,s⟩ ids n st=⟨gE (fC ids s n) e,swp s ids n st (lZ (kH ids n) (fC ids s n) s)⟩:=nr rfl
theorem qE7 (g p:Nat→Bool):lZ g p []=[]:=nr rfl
theorem qCr (g p:Nat→Bool) (k:Nat) (h:Row) (r:aC):lZ g p ((k,h) :: r)=bif g k then lZ g p r else (k,h.kill p) :: lZ g p r:=nr rfl
theorem zBs (st:aC) (k:Nat):qDy st k []=True:=nr rfl
theorem yL (st:aC) (k id:Nat) (r:List Nat):qDy st k (id :: r)=((jG (rlk st id)→k=id)∧qDy st (k + 1) r):=nr rfl
theorem zA9 (ids:List Nat) (st:aC):mF ids st []=True:=nr rfl
theorem zDk (ids:List Nat) (st:aC) (j:Nat) (nw:Bool) (t s:Nat) (xs:List (List FV)) (r:aC):mF ids st ((j,.sl nw t s xs) :: r)=mF ids st r:=nr rfl
theorem zDl (ids:List Nat) (st:aC) (j:Nat) (nw:Bool) (t s:Nat) (xs:List (List HV)) (r:aC):mF ids st ((j,.hl nw t s xs) :: r)=mF ids st r:=nr rfl
theorem zDm (ids:List Nat) (st:aC) (j:Nat) (t:Nat) (cs:List HV) (r:aC):mF ids st ((j,.bx true t cs) :: r)=mF ids st r:=nr rfl
theorem zDn (ids:List Nat) (st:aC) (j:Nat) (t:Nat) (cs:List HV) (r:aC):mF ids st ((j,.bx false t cs) :: r)=((qBg ids j=some j∧jG (rlk st j))∧mF ids st r):=by
 rw [eV];rfl
theorem dJ (P:Program) (rs:List ResultVar) (st0:aC) (Q:HV→aC→Prop) (S:HS):qW2 P rs st0 Q .normal S=kN P S rs fun hs=>qDz st0 S (qB hs) Q:=rfl
theorem fN (P:Program) (rs:List ResultVar) (st0:aC) (Q:HV→aC→Prop) (S:HS):qW2 P rs st0 Q .ret S=kN P S rs fun hs=>qDz st0 S (qB hs) Q:=rfl
theorem qC8 (ids:List Nat) {st0:aC} {S:HS} {h:HV} {Q:HV→aC→Prop} (h1:ids.length≤8) (h2:dup ids=false) (h3:qDy S.st 0 ids) (h4:mF ids S.st st0) {h':HV} {st':aC} (h5:h.ren (pos ids)=h') (h6:iB (pos ids) S.st 0 ids=st') (q:Q h' st'):qDz st0 S h Q :=
 ⟨ids,h1,h2,h3,h4,by rw [h5,h6];exact q⟩
theorem aW:qB []=.tup []:=nr rfl
section
variable {P:Program} {N:Nat} {x:Code} {Q:dS} {S S':HS}
end
section
variable {P:Program} {N:Nat} {x:Code} {Q:dS} {S:HS} {id:Nat} {R:HS→Prop}
end
end Go.Eng
end

section
namespace Go.Eng
open Go Go.RowKit
def zJa (R:HS→Prop) (Q:dS):dS
|.normal,S=>R S
|e,S=>Q e S
section
variable {P:Program} {N:Nat} {x:Code} {Q:dS} {S:HS} {R:HS→Prop}
theorem zG0 {ι:Type} (E:ι→HS) (I:ι→Prop) (ks ids:List Nat) (hx:HW P N x (zJa (fun S'=>∃ j,S'.keep ks ids=E j∧I j) Q) S) (hy:∀ S' j,S'.keep ks ids=E j→I j→Q .normal S'):HW P N x Q S :=
 hx.mono fun e S' h=>by
  cases e with
 |normal=>obtain ⟨j,hE,hI⟩:=h;exact hy S' j hE hI
 |_=>exact h
end
theorem zGz {P:Program} {N:Nat} {x:Code} {Q:dS} {S S':HS} (k id ty sz:Nat) (hk:hlk S.env k=some (.v (.slice none 0 0))) (hs:((S.kill (only id)).row id (.sl true ty sz [])).rep k (.own id)=S') (h:HW P N x Q S'):HW P N x Q S:=zJu k id ty sz hk (hs ▸ h)
end Go.Eng
end

section
namespace Go.Eng
open Go Go.RowKit
section
variable {P:Program} {N:Nat} {ds:List (Option Nat)} {K:HS→Prop} {S:HS} {Q:dS}
end
end Go.Eng
end

section
namespace Go.Eng
open Go Go.RowKit
def nm (a b:Nat):Nat→Option Nat:=fun i=>if i=a then some b else if i=b then none else some i
def zGr (m:Nat→Option Nat):aR→aR
|[]=>[]
|(k,h) :: r=>(k,h.ren m) :: zGr m r
def zB6 (a b:Nat):aC→aC
|[]=>[]
|(k,r) :: t=>(if k=a then b else k,r.ren (nm a b)) :: zB6 a b t
def HS.name (S:HS) (a b:Nat):HS:=⟨zGr (nm a b) S.env,zB6 a b S.st⟩
theorem qTs (m:Nat→Option Nat):∀ (l:aR) (k:Nat),hlk (zGr m l) k=(hlk l k).map (HV.ren m)
|[],k=>rfl
|(j,h) :: r,k=>by
  simp only [zGr,hlk];split
  ·rfl
  ·exact qTs m r k
theorem qR9 {a b:Nat} (hab:a≠b):∀ (l:aC) (_:rlk l b=none) (k:Nat),rlk (zB6 a b l) k=if k=b then (rlk l a).map (Row.ren (nm a b)) else if k=a then none else (rlk l k).map (Row.ren (nm a b))
|[],_,k=>by simp [zB6,rlk]
|(j,r) :: t,h,k=>by
  simp only [rlk] at h
  by_cases hj:j=b
  ·rw [if_pos hj] at h;cases h
  ·rw [if_neg hj] at h
   have ih:=qR9 hab t h k
   simp only [zB6,rlk]
   by_cases e:j=a
   ·subst e;rw [if_pos rfl,if_pos rfl]
    by_cases e2:k=b
    ·subst e2;rw [if_pos rfl,if_pos rfl];rfl
    ·rw [if_neg (by omega),ih,if_neg e2,if_neg e2]
     by_cases e3:k=j
     ·rw [if_pos e3,if_pos e3]
     ·rw [if_neg e3,if_neg e3,if_neg (by omega)]
   ·rw [if_neg e,if_neg e]
    by_cases e2:j=k
    ·subst e2;rw [if_pos rfl,if_neg hj,if_neg e,if_pos rfl];rfl
    ·rw [if_neg e2,ih,if_neg e2]
section
variable {P:Program} {N:Nat} {x:Code} {Q:dS} {c:Ctx} {S S':HS} {look:Nat→Option Value} {w:World}
theorem Inv.name (I:Inv c S look w) {a b ty sz:Nat} {nw:Bool} {els:List (List FV)} (hab:a≠b) (hb:rlk S.st b=none) (ha:rlk S.st a=some (.sl nw ty sz els)):Inv c (S.name a b) look w:=by
 obtain ⟨ρ,xs,G⟩:=I
 let ρ':Nat→Value:=fun i=>if i=b then ρ a else ρ i
 let xs':Nat→List Value:=fun i=>if i=b then xs a else xs i
 have hm:∀ i j,nm a b i=some j→ρ' j=ρ i:=fun i j h=>by
  unfold nm at h
  by_cases e:i=a
  ·rw [if_pos e] at h;simp only [Option.some.injEq] at h;subst h;subst e;show (if b=b then _ else _)=_;rw [if_pos rfl]
  ·rw [if_neg e] at h
   by_cases e2:i=b
   ·rw [if_pos e2] at h;cases h
   ·rw [if_neg e2] at h;simp only [Option.some.injEq] at h;subst h;show (if i=b then _ else _)=_;rw [if_neg e2]
 have back:∀ i r,rlk (S.name a b).st i=some r→∃ j r0,nm a b j=some i∧rlk S.st j=some r0∧r=r0.ren (nm a b)∧xs' i=xs j:=by
  intro i r hi;simp only [HS.name,qR9 hab _ hb] at hi
  by_cases e:i=b
  ·subst e;rw [if_pos rfl,ha] at hi;simp only [Option.map_some,Option.some.injEq] at hi;exact ⟨a,_,by simp [nm],ha,hi.symm,by show (if i=i then _ else _)=_;rw [if_pos rfl]⟩
  ·rw [if_neg e] at hi
   by_cases e2:i=a
   ·rw [if_pos e2] at hi;cases hi
   ·rw [if_neg e2] at hi
    cases hs:rlk S.st i with
   |none=>rw [hs] at hi;cases hi
   |some r0 =>
     rw [hs] at hi;simp only [Option.map_some,Option.some.injEq] at hi;exact ⟨i,r0,by simp [nm,e,e2],hs,hi.symm,by show (if i=b then _ else _)=_;rw [if_neg e]⟩
 have hA:∀ g,c.A ρ' (S.name a b).st g→c.A ρ S.st g:=by
  rintro g (h0|⟨i,r,hi,hg⟩)
  ·exact .inl h0
  ·obtain ⟨j,r0,h1,h2,-,-⟩:=back i r hi;rw [hm j i h1] at hg;exact .inr ⟨j,r0,h2,hg⟩
 have tr:∀ v y,RepH w (c.A ρ S.st) c.n0 ρ v y→RepH w (c.A ρ' (S.name a b).st) c.n0 ρ' v (y.ren (nm a b)):=fun v y h=>(h.up (Nat.le_refl _) (fun _ _ _=>rfl) (fun b _=>hA b) (Nat.le_refl _)).ren hm
 refine ⟨ρ',xs',fun i r hi=>?_,fun i j r s g hne hi hj hgi hgj=>?_,fun k y hk=>?_,G.kept,G.a0⟩
 ·obtain ⟨j,r0,h1,h2,rfl,h4⟩:=back i r hi
  have R:=G.rows j r0 h2
  obtain ⟨f1,f2,f3,f4⟩:=Row.ren_facts (nm a b) r0;rw [h4];refine ⟨by rw [f1,f2,f3,hm j i h1];exact R.own,?_,fun g hg=>by rw [f4];rw [hm j i h1] at hg;exact R.new g hg⟩
  have rp:=R.rep
  cases r0 with
 |sl nw ty sz els =>
   refine ⟨rp.1,fun p k hp hk=>?_⟩
   obtain ⟨u,u1,u2,u3⟩:=rp.2 p k hp hk;exact ⟨u,u1,u2,u3.up (Nat.le_refl _) (fun _ _ _=>rfl) (fun b _=>hA b) (Nat.le_refl _)⟩
 |bx nw ty cells =>
   refine ⟨?_,fun k hk=>?_⟩
   ·have hji:j=i:=by
     unfold nm at h1
     by_cases e:j=a
     ·subst e;rw [ha] at h2;cases h2
     ·rw [if_neg e] at h1
      by_cases e2:j=b
      ·rw [if_pos e2] at h1;cases h1
      ·rw [if_neg e2] at h1;exact Option.some.inj h1
    rw [hm j i h1];rw [← hji];exact rp.1
   ·rw [List.length_map] at hk;obtain ⟨u,u1,u2,u3⟩:=rp.2 k hk;refine ⟨u,u1,u2,?_⟩;rw [List.getElem_map];exact tr _ _ u3
 |hl nw ty sz els =>
   refine ⟨fun y hy=>?_,fun p k hp hk=>?_⟩
   ·obtain ⟨z,hz,rfl⟩:=List.mem_map.1 hy;rw [List.length_map];exact rp.1 z hz
   ·simp only [List.length_map] at hp;simp only [List.getElem_map,List.length_map] at hk ⊢;obtain ⟨u,u1,u2,u3⟩:=rp.2 p k hp hk;exact ⟨u,u1,u2,tr _ _ u3⟩
 ·obtain ⟨i',r0,h1,h2,-,-⟩:=back i r hi;obtain ⟨j',s0,h3,h4,-,-⟩:=back j s hj;rw [hm i' i h1] at hgi;rw [hm j' j h3] at hgj;exact G.apart i' j' r0 s0 g (fun e=>hne (by subst e;rw [h1] at h3;exact Option.some.inj h3)) h2 h4 hgi hgj
 ·simp only [HS.name,qTs] at hk
  cases hx0:hlk S.env k with
 |none=>rw [hx0] at hk;cases hk
 |some x0 =>
   rw [hx0] at hk;simp only [Option.map_some,Option.some.injEq] at hk;subst hk;obtain ⟨v,h1,h2⟩:=G.env k x0 hx0;exact ⟨v,h1,tr v x0 h2⟩
end
end Go.Eng
end
