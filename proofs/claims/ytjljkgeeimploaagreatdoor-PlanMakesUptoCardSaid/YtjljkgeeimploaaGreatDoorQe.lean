/- What the walk of the law stands on. -/
import Derived.Test.YtjljkgeeimploaaGreatDoorQd
set_option linter.defProp false
set_option maxRecDepth 20000
namespace Go.Eng
open Go Go.RowKit
section
variable {P:Program} {N:Nat} {C:World→Prop} {ops:List Oper} {n:Nat} {l:Env} {R:Nat→Value→World→Prop}
def iG (l:Env) (ops:List Oper) (vs:Nat→Value):Nat→Env
|0=>l
|i + 1=>stp (aZ ops i) (vs i) (iG l ops vs i)
def DLt (N:Nat) (ops:List Oper) (n:Nat):Prop:=∀ i t,i < n→aZ ops i=some t→t < N
variable {vs:Nat→Value}
theorem qCf (hl:DLt N ops n) (hk:cC N l=true):∀ i,i≤n→cC N (iG l ops vs i)=true
|0,_=>hk
|i + 1,hi=>jX (qCf hl hk i (by omega)) (fun k e=>hl i k (by omega) e)
theorem pN (base:Array Value) (t:Nat):∀ i,(∀ j,j < i→aZ ops j≠some t) →
  lk (iG l ops vs i) t=lk l t∧(kW base (iG l ops vs i))[t]?=(kW base l)[t]?
|0,_=>⟨rfl,rfl⟩
|i + 1,h=>by
  obtain ⟨h1,h2⟩:=pN base t i (fun j hj=>h j (by omega))
  have hne:=h i (by omega)
  simp only [iG]
  cases hd:aZ ops i with
 |none=>exact ⟨h1,h2⟩
 |some d =>
   have:d≠t:=fun e=>hne (by rw [hd,e])
   simp only [stp,lk,kW,b7 this];exact ⟨h1,by rw [r7 this];exact h2⟩
theorem nN (hl:DLt N ops n) {base:Array Value} (hbase:base.size=N) {t j:Nat} (hj:aZ ops j=some t) (huniq:∀ k,k < n→k≠j→aZ ops k≠some t):∀ i,i≤n→j < i →
  lk (iG l ops vs i) t=some (vs j)∧(kW base (iG l ops vs i))[t]?=some (vs j)
|0,_,h=>absurd h (y5 _)
|i + 1,hi,h=>by
  simp only [iG]
  by_cases e:j=i
  ·subst e;rw [hj];simp only [stp,lk,kW,bBm,bD8];rw [r9 (by rw [mN,hbase];exact hl j t (by omega) hj)]
  ·obtain ⟨h1,h2⟩:=nN hl hbase hj huniq i (by omega) (by omega)
   have hne:=huniq i (by omega) (bE1 e)
   cases hd:aZ ops i with
  |none=>exact ⟨h1,h2⟩
  |some d =>
    have:d≠t:=fun e=>hne (by rw [hd,e])
    simp only [stp,lk,kW,b7 this];exact ⟨h1,by rw [r7 this];exact h2⟩
theorem qPw {keys:List Nat} (ok:RegOk keys ops n) (F:Fr N) (hk:cC N l=true) (cN:∀ t ∈ keys,∃ v,lk l t=some v) (hlt:DLt N ops n)
  {Le:Nat→World→World→Prop} (hLe:∀ i w,Le i w w) (hS:∀ j i u w w',j < n→i < n→j≠i→C w→R j u w→Le i w w'→R j u w')
  (H:∀ i o,i < n→ops[i]?=some o→∀ (vs:Nat→Value) (w:World),C w→(∀ j t,j < i→aZ ops j=some t→t ∈ o.looksAt ops.toArray→R j (vs j) w) →
   ∃ b,gd (iG l ops vs i) (cJ ops) o.guard (·=b)∧(b=true→Yields P (execOp (evD (iG l ops vs i)) o) w fun u w'=>R i u w'∧C w'∧Le i w w')∧(b=false→R i undef w))
  {Q:Exit→Act→World→Prop} (hT:∀ (vs:Nat→Value) (w:World),C w→(∀ j,j < n→R j (vs j) w)→wpListIn (FW F.ds.2) 0 P ops.toArray Q (ops.drop n) (mk F (iG l ops vs n)) w) :
  ∀ (fuel:Nat) (listed:Array Bool) (a:Act) (w:World) (vs:Nat→Value),unl listed=fuel→Mid N C ops n (kW F.base l) F.ds.1 vs listed a w→(∀ j,j < n→listed.getD j false=true→R j (vs j) w)→wpAnyIn (FW F.ds.2) 0 P .any ops.toArray Q fuel listed a w:=by
 have uniq:∀ i j t,i < n→j < n→aZ ops i=some t→aZ ops j=some t→i=j:=by
  intro i j t hi hj h1 h2
  rcases bAw i j with h|h|h
  ·rcases ok.uniq j i hj h with e|e
   ·rw [h2] at e;cases e
   ·exact absurd (h2.trans h1.symm) e
  ·exact h
  ·rcases ok.uniq i j hi h with e|e
   ·rw [h1] at e;cases e
   ·exact absurd (h1.trans h2.symm) e
 have final:∀ (listed:Array Bool) (a:Act) (w:World) (vs:Nat→Value),Mid N C ops n (kW F.base l) F.ds.1 vs listed a w→(∀ j,j < n→listed.getD j false=true)→a=mk F (iG l ops vs n):=by
  intro listed a w vs M hall;obtain ⟨tm,df⟩:=a
  have hd:df=F.ds.1:=M.defers
  subst hd;show Act.mk _ _=Act.mk _ _
  congr 1
  apply bC0
  intro t
  by_cases h:∃ j,j < n∧aZ ops j=some t
  ·obtain ⟨j,hj,hd⟩:=h
   have h1:=M.new j t hj (hall j hj) hd
   have h2:=(nN (l:=l) (vs:=vs) hlt F.hN hd (fun k hk hne e=>hne (uniq k j t hk hj e hd)) n (a7 _) hj).2
   exact h1.trans h2.symm
  ·have h':∀ j,j < n→aZ ops j≠some t:=fun j hj e=>h ⟨j,hj,e⟩
   have h1:=M.old t (fun j hj _=>h' j hj)
   have h2:=(pN (l:=l) (vs:=vs) F.base t n h').2
   exact h1.trans h2.symm
 have slot:∀ (listed:Array Bool) (a:Act) (w:World) (vs:Nat→Value) (i:Nat) (o:Oper) (t:Nat),Mid N C ops n (kW F.base l) F.ds.1 vs listed a w→i < n→ops[i]?=some o→i ∈ Region.ready .any ops.toArray listed→t ∈ o.looksAt ops.toArray →
   ∃ X,a.tmps[t]?=some X∧lk (iG l ops vs i) t=some X:=by
  intro listed a w vs i o t M hi ho hr ht;obtain ⟨l1,l2⟩:=ok.looks i o t hi ho ht
  by_cases h:∃ j,j < n∧aZ ops j=some t
  ·obtain ⟨j,hj,hd⟩:=h;obtain ⟨hji,he⟩:=l1 j hj hd;exact ⟨vs j,M.new j t hj (eR hr he) hd,(nN (l:=l) (vs:=vs) hlt F.hN hd (fun k hk hne e=>hne (uniq k j t hk hj e hd)) i (by omega) hji).1⟩
  ·have h':∀ j,j < n→aZ ops j≠some t:=fun j hj e=>h ⟨j,hj,e⟩
   rcases l2 with ⟨j,hj,hd⟩|hkey
   ·exact absurd hd (h' j (by omega))
   ·obtain ⟨v,hv⟩:=cN t hkey;refine ⟨v,?_,?_⟩
    ·rw [M.old t (fun j hj _=>h' j hj)];exact lL F hk hv
    ·rw [(pN (l:=l) (vs:=vs) F.base t i (fun j hj=>h' j (by omega))).1];exact hv
 intro fuel
 induction fuel with
|zero =>
  intro listed a w vs hu M MR
  have hall:∀ j,j < ops.length→listed.getD j false=true:=fun j hj=>qJ2 hu (by rw [M.size];exact hj)
  have hn:n=ops.length:=by
   rcases s4 n ops.length with h|h
   ·have:=M.heads n (hall n h);omega
   ·have:=ok.hn;omega
  have ha:=final listed a w vs M (fun j hj=>hall j (by omega))
  subst ha;exact sG ok 0 n listed _ w (by omega) (a7 _) M.size (fun i hi=>⟨fun _=>by omega,fun _=>hall i hi⟩) (hT vs w M.cls fun j hj=>MR j hj (hall j (by omega)))
|succ fuel ih =>
  intro listed a w vs hu M MR
  by_cases hdone:∀ j,j < n→listed.getD j false=true
  ·have ha:=final listed a w vs M hdone
   subst ha
   have hcount:∀ (m:Nat) (x:Array Bool),x.size=ops.length→(∀ i,i < ops.length→(x.getD i false=true↔i < m))→m≤ops.length→m + unl x=ops.length:=by
    intro m;generalize hd:ops.length - m=d
    induction d generalizing m with
   |zero =>
     intro x hx hl hm
     have:unl x=0:=by
      unfold unl;rw [bBi,bB1];intro b hb;obtain ⟨i,hi,rfl⟩:=p9 hb
      have hi':i < x.size:=by simpa using hi
      have:=(hl i (by omega)).2 (by omega)
      simp only [Array.getD,hi',bCr] at this;simp [show x.toList[i]=true from this]
     omega
   |succ d ihd =>
     intro x hx hl hm
     have hmlt:m < ops.length:=by omega
     have h0:x.getD m true=false:=by
      have:¬ x.getD m false=true:=fun e=>by have:=(hl m hmlt).1 e;omega
      have hm':m < x.size:=by omega
      simp only [Array.getD,hm',bCr] at this ⊢
      simpa using this
     have:=ihd (m + 1) (by omega) (x.setIfInBounds m true) (by simpa using hx) (fun i hi=>by
      by_cases e:m=i
      ·subst e
       have:m < x.size:=by omega
       simp [this]
      ·rw [bCo false e,hl i hi];omega) (by omega)
     have:=qBj h0
     omega
   have hl:∀ i,i < ops.length→(listed.getD i false=true↔i < n):=fun i hi=>⟨M.heads i,hdone i⟩
   have:=hcount n listed M.size hl ok.hn
   exact sG ok (fuel + 1) n listed _ w (by omega) (a7 _) M.size hl (hT vs w M.cls fun j hj=>MR j hj (hdone j hj))
  ·have hex:∃ j,j < n∧listed.getD j false≠true:=by
    refine v7 fun hne=>hdone fun j hj=>?_
    refine v7 fun h=>hne ⟨j,hj,h⟩
   have hn:=ok.hn
   have hready:∃ j,j ∈ Region.ready .any ops.toArray listed:=by
    obtain ⟨j,hj,hjl⟩:=hex
    have:∀ d j,j=d→j < n→listed.getD j false≠true→∃ j,j ∈ Region.ready .any ops.toArray listed:=by
     intro d
     induction d using Nat.strongRecOn with
    |_ d ihd =>
      intro j hd hj hjl;subst hd
      have ho:ops[j]?=some (ops[j]'(by omega)):=c9 _
      by_cases hall:∀ e ∈ (ops[j]'(by omega)).after,Region.binds .any e=true→listed.getD e.on false=true
      ·refine ⟨j,bCg.2 ⟨?_,ops[j]'(by omega),by simp,hall⟩⟩
       have h2:j < listed.size:=by rw [M.size];omega
       simp only [Array.getD,h2,bCr] at hjl ⊢
       simpa using hjl
      ·have:∃ e ∈ (ops[j]'(by omega)).after,Region.binds .any e=true∧listed.getD e.on false≠true:=by
        refine v7 fun hne=>hall fun e he hb=>?_
        refine v7 fun h=>hne ⟨e,he,hb,h⟩
       obtain ⟨e,he,hb,hl⟩:=this
       have hlt:=ok.down j _ e ho he hb
       exact ihd e.on hlt e.on rfl (by omega) hl
    exact this j j rfl hj hjl
   obtain ⟨j0,hj0⟩:=hready;refine ⟨fun h0=>absurd hj0 (by rw [h0];simp),fun i hi=>?_⟩
   obtain ⟨hun,o,ho,hall⟩:=bCg.1 hi
   have ho':ops[i]?=some o:=by simpa using ho
   have hilt:i < ops.length:=(i5.1 ho').1
   have hin:i < n:=by
    rcases s4 i n with h|h
    ·exact h
    ·exfalso
     apply hdone
     have key:∀ d j,i - j=d→j < i→listed.getD j false=true:=by
      intro d
      induction d using Nat.strongRecOn with
     |_ d ihd =>
       intro j hd hji;obtain ⟨k,hk1,hk2,hk3⟩:=ok.tail i j hilt h hji
       rcases s4 k i with hki|hki
       ·exact M.clos k j (ihd (i - k) (by omega) k rfl hki) hk3
       ·have:k=i:=by omega
        subst this;exact eR hi hk3
     exact fun j hj=>key _ j rfl (by omega)
   have hu':unl (listed.setIfInBounds i true)=fuel:=by have:=qBj hun;omega
   have hdi:aZ ops i=o.dst:=by unfold aZ;rw [ho'];rfl
   have hlt':jP N o.dst:=by
    cases hd:o.dst with
   |none=>trivial
   |some t=>exact hlt i t hin (hdi.trans hd)
   let nxt:Value→Nat→Value:=fun u j=>if j=i then u else vs j
   have nxt_i:∀ u,nxt u i=u:=fun u=>g8 rfl
   have nxt_ne:∀ u j,j≠i→nxt u j=vs j:=fun u j h=>b7 h
   have rest:∀ u w',R i u w'→Le i w w'→∀ j,j < n→(listed.setIfInBounds i true).getD j false=true→R j (nxt u j) w':=by
    intro u w' hu hB j hj hl
    by_cases e:j=i
    ·subst e;rw [nxt_i];exact hu
    ·rw [nxt_ne u j e];rw [bCo false (bE1 e)] at hl;exact hS j i _ w w' hj hin e M.cls (MR j hj hl) hB
   have step:∀ u w',C w'→Mid N C ops n (kW F.base l) F.ds.1 (nxt u) (listed.setIfInBounds i true) (a.put o.dst u) w':=by
    intro u w' hC
    have hlt:=hlt'
    have hset:∀ j,(listed.setIfInBounds i true).getD j false=true→j=i∨listed.getD j false=true:=by
     intro j h
     by_cases e:i=j
     ·exact .inl e.symm
     ·rw [bCo false e] at h;exact .inr h
    have hseti:(listed.setIfInBounds i true).getD i false=true:=by
     have:i < listed.size:=by rw [M.size];exact hilt
     simp [this]
    refine ⟨by simpa using M.size,?_,?_,?_,?_,?_,?_,hC⟩
    ·intro k j hk he
     rcases hset k hk with rfl|hk
     ·exact bB5 (eR hi he)
     ·exact bB5 (M.clos k j hk he)
    ·intro k hk
     rcases hset k hk with rfl|hk
     ·exact hin
     ·exact M.heads k hk
    ·cases hd:o.dst <;> exact M.defers
    ·cases hd:o.dst with
    |none=>exact M.tsize
    |some d=>simp only [Act.put,bCf];exact M.tsize
    ·intro j t hj hjl hd
     rcases hset j hjl with rfl|hjl'
     ·rw [hdi] at hd;rw [hd] at hlt ⊢;simp only [Act.put];rw [r9 (by rw [M.tsize];exact hlt),nxt_i]
     ·by_cases e:j=i
      ·subst e;rw [hdi] at hd;rw [hd] at hlt ⊢;simp only [Act.put];rw [r9 (by rw [M.tsize];exact hlt),nxt_i]
      ·rw [nxt_ne u j e]
       have h1:=M.new j t hj hjl' hd
       cases hdo:o.dst with
      |none=>exact h1
      |some d =>
        have hne:d≠t:=fun e'=>e (uniq j i t hj hin hd (by rw [hdi,hdo,e']))
        simp only [Act.put];rw [r7 hne];exact h1
    ·intro t ht
     have h1:=M.old t (fun j hj hjl=>ht j hj (bB5 hjl))
     have h2:=ht i hin hseti
     rw [hdi] at h2
     cases hdo:o.dst with
    |none=>exact h1
    |some d =>
      have hne:d≠t:=fun e'=>h2 (by rw [hdo,e'])
      simp only [Act.put];rw [r7 hne];exact h1
   obtain ⟨b,hb,hbt,hbf⟩:=H i o hin ho' vs w M.cls fun j t hj hd ht=>by
    obtain ⟨l1,-⟩:=ok.looks i o t hin ho' ht;exact MR j (by omega) (eR hi (l1 j (by omega) hd).2)
   have hw:Region.wanted o (yielded ops.toArray a.tmps)=b:=by
    unfold gd at hb;split at hb
    ·rename_i hg;simp only [Region.wanted,hg];exact hb
    ·rename_i g want hg;split at hb
     ·rename_i d hd;split at hb
      ·rename_i bb hbb
       have hdd:aZ ops g=some d:=by
        unfold aZ;simp only [cJ,y9,bAg] at hd;obtain ⟨x,hx,hx'⟩:=hd;simp [hx,hx']
       obtain ⟨X,hX1,hX2⟩:=slot listed a w vs i o d M hin ho' hi (jW hg hdd);rw [hbb] at hX2
       cases hX2
       have:yielded ops.toArray a.tmps g=some bb:=by
        unfold yielded;unfold aZ at hdd;simp only [r8,hdd,bBc,hX1]
       simp only [Region.wanted,hg,this];rw [← hb]
       cases bb <;> cases want <;> rfl
      ·rename_i bb hnb hbb
       have hdd:aZ ops g=some d:=by
        unfold aZ;simp only [cJ,y9,bAg] at hd;obtain ⟨x,hx,hx'⟩:=hd;simp [hx,hx']
       obtain ⟨X,hX1,hX2⟩:=slot listed a w vs i o d M hin ho' hi (jW hg hdd);rw [hbb] at hX2
       cases hX2
       have:yielded ops.toArray a.tmps g=none:=by
        unfold yielded;unfold aZ at hdd;simp only [r8,hdd,bBc,hX1];split
        ·rename_i b' e;cases e;exact (hnb b' rfl).elim
        ·rfl
       simp only [Region.wanted,hg,this];rw [← hb];rfl
      ·exact hb.elim
     ·exact hb.elim
   unfold wpOpIn;simp only [ho,hw]
   cases b with
  |true =>
    simp only [bBm];refine (fD ?_)
    have hcong:execOp a.eval o=execOp (evD (iG l ops vs i)) o:=by
     refine execOp_congr o (ok.sel i o ho') (fun x hx=>?_)
     cases x with
    |tmp t =>
      obtain ⟨X,hX1,hX2⟩:=slot listed a w vs i o t M hin ho' hi (vQ hx);simp [Act.eval,evD,ev,hX1,hX2]
    |const c=>rfl
    |global g=>rfl
    |func f=>rfl
    rw [hcong];exact (hbt rfl).mono fun u w' ⟨hu,hC,hB⟩=>ih _ _ _ _ hu' (step u w' hC) (rest u w' hu hB)
  |false =>
    simp only [bA0,bCz];exact ⟨fun _ _=>trivial,ih _ _ _ _ hu' (step undef w M.cls) (rest undef w (hbf rfl) (hLe i w))⟩
end
section
variable {P:Program} {N:Nat} {Q:qBa} {l:Env} {w:World}
theorem zTq {id:Nat} {ops:List Oper} (keys:List Nat) (n:Nat) (hm:P.follows .mixedOrders=true) (cN:tN l=keys) (hok:yY keys ops n=true) (hlt:DLt N ops n)
  {C:World→Prop} {R:Nat→Value→World→Prop} (hC:C w.drew) {Le:Nat→World→World→Prop} (hLe:∀ i w,Le i w w) (hS:∀ j i u w w',j < n→i < n→j≠i→C w→R j u w→Le i w w'→R j u w')
  (H:∀ i o,i < n→ops[i]?=some o→∀ (vs:Nat→Value) (w:World),C w→(∀ j t,j < i→aZ ops j=some t→t ∈ o.looksAt ops.toArray→R j (vs j) w) →
   ∃ b,gd (iG l ops vs i) (cJ ops) o.guard (·=b)∧(b=true→Yields P (execOp (evD (iG l ops vs i)) o) w fun u w'=>R i u w'∧C w'∧Le i w w')∧(b=false→R i undef w))
  (hT:∀ (vs:Nat→Value) (w:World),C w→(∀ j,j < n→R j (vs j) w)→VC P N (cJ ops) (fun l' w'=>Q .normal l' w') (ops.drop n) (iG l ops vs n) w):W P N (.region id ops.toArray true) Q l w:=fun hk F=>by
 have ok:=rK hok
 refine bEg hm ?_
 have:=qPw ok F hk (fun t ht=>vS (by rw [cN];exact ht)) hlt hLe hS H (Q:=qZw N F.ds Q)
  (fun vs w' hw' hR=>wX F (K:=fun l w=>Q .normal l w) (fun l' w' hk' hK=>⟨F,l',rfl,rfl,hk',hK⟩) _ _ _ (qCf hlt hk n (a7 _)) (hT vs w' hw' hR))
  ops.length (Array.replicate ops.length false) (mk F l) w.drew (fun _=>undef) (oW _)
  ⟨by simp,(fun i j hi=>by rw [x9] at hi;cases hi),(fun i hi=>by rw [x9] at hi;cases hi),rfl,by simp [mk,mN,F.hN],(fun j t _ hl=>by rw [x9] at hl;cases hl),fun t _=>rfl,hC⟩
  (fun j _ hl=>by rw [x9] at hl;cases hl)
 simpa using this
theorem zTp {id:Nat} {ops:List Oper} (keys:List Nat) (n:Nat) (hm:P.follows .mixedOrders=true) (cN:tN l=keys) (hok:yY keys ops n=true) (hlt:DLt N ops n)
  {C:World→Prop} {R:Nat→Value→World→Prop} (hC:C w.drew) (hS:∀ i u w w',C w→R i u w→Below w.heap.size w w'→R i u w')
  (H:∀ i o,i < n→ops[i]?=some o→∀ (vs:Nat→Value) (w:World),C w→(∀ j t,j < i→aZ ops j=some t→t ∈ o.looksAt ops.toArray→R j (vs j) w) →
   ∃ b,gd (iG l ops vs i) (cJ ops) o.guard (·=b)∧(b=true→Yields P (execOp (evD (iG l ops vs i)) o) w fun u w'=>R i u w'∧C w'∧Below w.heap.size w w')∧(b=false→R i undef w))
  (hT:∀ (vs:Nat→Value) (w:World),C w→(∀ j,j < n→R j (vs j) w)→VC P N (cJ ops) (fun l' w'=>Q .normal l' w') (ops.drop n) (iG l ops vs n) w):W P N (.region id ops.toArray true) Q l w :=
 zTq keys n hm cN hok hlt hC (Le:=fun _ w w'=>Below w.heap.size w w') (fun _ w=>Below.refl _ _) (fun j _ u w w' _ _ _ hc hr hb=>hS j u w w' hc hr hb) H hT
end
def cM:Operand→List Nat
|.tmp t=>[t]
|_=>[]
def xC:List Operand→List Nat
|[]=>[]
|x :: r=>cM x ++ xC r
def pT:List (Nat × Operand)→List Nat
|[]=>[]
|(_,x) :: r=>cM x ++ pT r
def qHd:Option Operand→List Nat
|some x=>cM x
|none=>[]
def qKi:Callee→List Nat
|.value x=>cM x
|_=>[]
def cH:Op→List Nat
|.move x=>cM x
|.assign x=>cM x
|.nilCheck x=>cM x
|.pick c a b=>cM c ++ (cM a ++ cM b)
|.extract x _=>cM x
|.field _ x _=>cM x
|.fieldAddr _ x _=>cM x
|.load _ x=>cM x
|.unOp _ _ x=>cM x
|.convert _ _ x=>cM x
|.indexAddr _ x i=>cM x ++ cM i
|.index _ x i=>cM x ++ cM i
|.slice _ x l h none=>cM x ++ (qHd l ++ qHd h)
|.binOp _ _ x y _=>cM x ++ cM y
|.build _ ps=>pT ps.toList
|.buildSlice _ _ ps=>pT ps.toList
|.makeSlice _ x y=>cM x ++ cM y
|.call ⟨k,args,_⟩=>qKi k ++ xC args.toList
|_=>[]
def iZ {x:Operand} {t:Nat} (h:t ∈ cM x):x=.tmp t:=by
 cases x <;> simp [cM] at h
 subst h;rfl
def qKg:∀ {l:List Operand} {t:Nat},t ∈ xC l→Operand.tmp t ∈ l
|[],t,h=>by simp [xC] at h
|x :: r,t,h=>by
  simp only [xC,m8] at h
  rcases h with h|h
  ·rw [iZ h];exact bAz ..
  ·exact u9 _ (qKg h)
def qDc:∀ {l:List (Nat × Operand)} {t:Nat},t ∈ pT l→Operand.tmp t ∈ l.map (·.2)
|[],t,h=>by simp [pT] at h
|(k,x) :: r,t,h=>by
  simp only [pT,m8] at h
  rcases h with h|h
  ·rw [d8,iZ h];exact bAz ..
  ·rw [d8];exact u9 _ (qDc h)
def qNv {x:Option Operand} {t:Nat} (h:t ∈ qHd x):x=some (.tmp t):=by
 cases x with
|none=>simp [qHd] at h
|some x=>rw [iZ h]
def qTh {o:Op} {t:Nat} (h:t ∈ cH o):Operand.tmp t ∈ o.operands:=by
 unfold cH at h;split at h
 all_goals try simp only [m8] at h
 case h_13=>
  simp only [Op.operands]
  rcases h with h|h|h
  ·rw [iZ h];simp
  ·rw [qNv h];simp
  ·rw [qNv h];simp
 case h_15=>simpa [Op.operands] using qDc h
 case h_16=>simpa [Op.operands] using qDc h
 case h_18 =>
  simp only [Op.operands,Call.operands,Array.mem_append]
  rcases h with h|h
  ·refine .inl ?_;unfold qKi at h;split at h
   ·rw [iZ h];simp
   ·simp at h
  ·exact .inr (by simpa using qKg h)
 case h_19=>simp at h
 all_goals
  simp only [Op.operands]
  first
 |(rw [iZ h];simp;done)
 |(rcases h with h|h <;> (rw [iZ h];simp))
 |(rcases h with h|h|h <;> (rw [iZ h];simp))
def iV (ds:List (Option Nat)):Option (Nat × Bool)→List Nat
|none=>[]
|some (g,_)=>match ds[g]? with
 |some (some d)=>[d]
 |_=>[]
def lG (e:aT):List Nat→aT
|[]=>[]
|t :: r=>match hlk e t with
 |some h=>(t,h) :: lG e r
 |none=>lG e r
def vK {e:aT}:∀ {l:List Nat} {t:Nat} {h:HV},hlk (lG e l) t=some h→t ∈ l∧hlk e t=some h
|[],t,h,hh=>by simp [lG,hlk] at hh
|k :: r,t,h,hh=>by
  simp only [lG] at hh;split at hh
  ·rename_i x hx;simp only [hlk] at hh
   by_cases ek:k=t
   ·subst ek;rw [g8 rfl] at hh;exact ⟨bAz ..,by rw [hx];exact hh⟩
   ·rw [b7 ek] at hh;obtain ⟨a,b⟩:=vK hh;exact ⟨u9 _ a,b⟩
  ·obtain ⟨a,b⟩:=vK hh;exact ⟨u9 _ a,b⟩
def zMu (P:Program) (f:FuncId) (args:List HV) (T:HS) (K:HV→Prop):Prop :=
 aB P f=true∧∃ h,K h∧∀ (c:Ctx) (look:Nat→Option Value) (w:World) (ρ:Nat→Value) (xs:Nat→List Value) (vs:List Value),Good c T look w ρ xs→pX w (c.A ρ T.st) c.n0 ρ vs args →
  Calls P f vs.toArray w (Ret fun u w'=>RepH w' (c.A ρ T.st) c.n0 ρ u h∧Below w.heap.size w w')
def oG:aT→Bool
|[]=>true
|(_,.v _) :: r=>oG r
|(_,.lst _ _) :: r=>oG r
|(_,.agg _) :: r=>oG r
|_=>false
def zFn (d:Option Nat) (S:HS) (K:HS→Prop):HOut→Prop
|.go c (.own i) S'=>match rlk S'.st i with
 |some (.sl _ _ _ els)=>c∧K (S.set d (.lst true els))
 |_=>False
|_=>False
def zWr:Op→Bool
|.buildSlice ..=>true
|.makeSlice ..=>true
|_=>false
def qCu (P:Program) (o:Oper) (S T:HS) (K:HS→Prop):HOut→Prop
|.go c h _=>match eF o.op with
 |true=>c∧K (S.set o.dst h)
 |false=>match zWr o.op && oG T.env with
  |true=>zFn o.dst S K (hop P ⟨T.env,[]⟩ (rU o.dst) o.op)
  |false=>False
|.call f args=>zMu P f args T (fun x=>iJ K (S.set o.dst x))
|.eqn t x y neg=>∃ r,EqR P t x.toArray y.toArray r∧iJ K (S.set o.dst (.v (.bool (neg ^^ r))))
|.bytes _ _=>False
|.bad=>False
def zDt (P:Program) (N:Nat) (o:Oper) (S T:HS) (K:HS→Prop):Prop:=match eJ N o.dst with
|true=>qCu P o S T K (hop P T (rU o.dst) o.op)
|false=>False
def kD (P:Program) (N:Nat) (o:Oper) (S T:HS) (K:HS→Prop):GOut→Prop
|.yes=>zDt P N o S T K
|.no=>lN N o.dst S K
|.ask d b want=>match b == want with
 |true=>zDt P N o (S.rep d (.v (.bool want))) (T.rep d (.v (.bool want))) K
 |false=>lN N o.dst (S.rep d (.v (.bool (!want)))) K
|.bad=>False
def HVr (P:Program) (N:Nat) (ds:List (Option Nat)) (K:HS→Prop):List Oper→HS→Prop
|[],S=>K S
|o :: rest,S=>kD P N o S ⟨lG S.env (iV ds o.guard ++ cH o.op),S.st⟩ (HVr P N ds K rest) (hG (lG S.env (iV ds o.guard ++ cH o.op)) ds o.guard)
section
variable {P:Program} {N:Nat} {c:Ctx} {S T:HS} {Q:dP} {l:Env} {look:Nat→Option Value} {w w':World} {ρ:Nat→Value} {xs:Nat→List Value} {K:HS→Prop}
theorem RepH.above {A:Nat→Prop} {n0:Nat} {v:Value} {x:HV} (h:RepH w A n0 ρ v x) (B:Below w.heap.size w w'):RepH w' A n0 ρ v x:=h.up B.size (fun b hlt _=>B.block b hlt) (fun b _ h=>h) (a7 _)
theorem oL {d:Nat} {h:HV}:∀ {E:aT},hlk E d=some h→∀ k,hlk (vX d h E) k=hlk E k
|[],e,k=>by simp [hlk] at e
|(j,x) :: r,e,k=>by
  simp only [hlk] at e;simp only [vX]
  by_cases ej:j=d
  ·rw [g8 ej] at e ⊢;simp only [a6] at e;subst e;rfl
  ·rw [b7 ej] at e ⊢;simp only [hlk,oL e k]
theorem Good.sameEnv {E:aT} {st:aC} (G:Good c ⟨E,st⟩ look w ρ xs) {E':aT} (h:∀ k,hlk E' k=hlk E k):Good c ⟨E',st⟩ look w ρ xs:=⟨G.rows,G.apart,fun k x hk=>G.env k x (by rw [← h k];exact hk),G.kept,G.a0⟩
theorem qX0 (G:Good c T (lk l) w ρ xs) {id i:Nat} {o:Op} {ty:TypeId} {cnd:Prop} {S':HS} (hp:oG T.env=true) (h:hop P ⟨T.env,[]⟩ id o=.go cnd (.own i) S') {nw:Bool} {t sz:Nat} {els:List (List FV)} (hr:rlk S'.st i=some (.sl nw t sz els)) (hc:cnd) :
  bH P l o ty w (fun u w'=>RepH w' (c.A ρ T.st) c.n0 ρ u (.lst true els)∧Below w.heap.size w w') (fun u w'=>RepH w' (c.A ρ T.st) c.n0 ρ u (.lst true els)∧Below w.heap.size w w'):=by
 have hA:∀ b,c.A ρ T.st b→b < w.heap.size:=by
  rintro b (h0|⟨i,r,hi,hb⟩)
  ·have:=(G.a0 b h0).1;have:=G.kept.size;omega
  ·exact G.lt hi hb
 have G2:Good ⟨w,fun _=>False,c.A ρ T.st,c.n0,l5 c.hn G.kept.size,fun _ _=>False⟩ ⟨T.env,[]⟩ (lk l) w ρ xs:=by
  refine ⟨fun id r hr=>by simp [rlk] at hr,fun i j r s b hne hi=>by simp [rlk] at hi,fun k x hk=>?_,Kept.refl _ _,fun b hb=>⟨hA b hb,fun h=>h⟩⟩
  obtain ⟨u,h1,h2⟩:=G.env k _ hk;refine ⟨u,h1,h2.up (a7 _) (fun _ _ _=>rfl) (fun b _ hb=>?_) (a7 _)⟩
  rcases hb with hb|⟨i,r,hi,-⟩
  ·exact hb
  ·simp [rlk] at hi
 refine bS (qNs G2 (bM _ _) h hc) fun u w' ⟨ρ2,xs2,G3,r⟩=>?_
 have B:Below w.heap.size w w':=G3.kept.below (fun _ _ h=>h)
 refine ⟨?_,B⟩
 cases r
 obtain ⟨o1,o2,o3⟩:=dC G3 hr
 have R0:=G3.rows i _ hr
 refine .lst (tD o1 o2 (fun p k hp hk=>?_) (fun b hb=>?_))
 ·obtain ⟨u,a,b,d⟩:=o3 p k hp hk;exact ⟨u,a,b,d.up (a7 _) (fun _ _ _=>rfl) (fun b _ h=>.inl h) (a7 _)⟩
 ·rcases (R0.new b hb).1 with h|h
  ·have h:w.heap.size≤b:=h
   exact ⟨fun hA'=>by have:=hA b hA';omega,fun _=>by have:=c.hn;have:=G.kept.size;omega⟩
  ·exact h.elim
theorem qCt {o:Oper} (h:zDt P N o S T K):jP N o.dst∧∃ x,K (S.set o.dst x)∧∀ (c:Ctx) (l:Env) (w:World) (ρ:Nat→Value) (xs:Nat→List Value),Good c T (lk l) w ρ xs →
  bH P l o.op o.type w (fun u w'=>RepH w' (c.A ρ T.st) c.n0 ρ u x∧Below w.heap.size w w') (fun u w'=>RepH w' (c.A ρ T.st) c.n0 ρ u x∧Below w.heap.size w w'):=by
 unfold zDt at h;split at h
 ·rename_i hd;refine ⟨eQ hd,?_⟩
  cases ho:hop P T (rU o.dst) o.op with
 |go c' hv S' =>
   rw [ho] at h;unfold qCu at h;dsimp only at h;split at h
   ·rename_i hq;obtain ⟨h0,h1⟩:=h;refine ⟨hv,h1,fun c l w ρ xs G=>?_⟩
    obtain ⟨v,hK,hv'⟩:=zM2 (ty:=o.type) (qKc (ty:=0) G (bM _ _) ho hq h0);exact bS (hv' w (Below.refl _ _)) fun u w' ⟨e,B⟩=>by subst e;exact ⟨hK.2.2.above B,B⟩
   ·split at h
    ·rename_i hm;simp only [g9] at hm;unfold zFn at h;split at h
     ·rename_i c2 i S2 hm2;split at h
      ·rename_i nw t sz els hr;exact ⟨_,h.2,fun c l w ρ xs G=>qX0 G hm.2 hm2 hr h.1⟩
      ·exact h.elim
     ·exact h.elim
    ·exact h.elim
 |call f args =>
   rw [ho] at h;obtain ⟨hf,x,hK,hc⟩:=h;refine ⟨x,hK,fun c l w ρ xs G=>?_⟩
   obtain ⟨y,ay,ats,e,hfn,has⟩:=qEy ho;rw [e];obtain ⟨vs,e1,e2,e3⟩:=G.evs (bM _ _) has;unfold bH;simp only [aP,bZ,e1,G.fn (bM _ _) hfn];exact ⟨hf,hc c (lk l) w ρ xs vs G ⟨e2,e3⟩⟩
 |eqn t x y neg =>
   rw [ho] at h;obtain ⟨r,h1,h2⟩:=h;refine ⟨_,h2,fun c l w ρ xs G=>?_⟩
   exact bS (qKd G (bM _ l) ho h1) fun v w' ⟨e,_,r⟩=>by subst e;exact ⟨r,Below.refl _ _⟩
 |bytes ok s=>rw [ho] at h;exact h.elim
 |bad=>rw [ho] at h;exact h.elim
 ·exact h.elim
def FrOk (ops:List Oper) (E0:aT) (hs:Nat→HV) (i:Nat) (E:aT):Prop:=∀ t h,hlk E t=some h→(∃ j,j < i∧aZ ops j=some t∧hs j=h)∨((∀ j,j < i→aZ ops j≠some t)∧hlk E0 t=some h)
theorem FrOk.congr {ops:List Oper} {E0 E:aT} {hs hs':Nat→HV} {i:Nat} (h:FrOk ops E0 hs i E) (he:∀ j,j < i→hs' j=hs j):FrOk ops E0 hs' i E:=fun t x hx=>by
 rcases h t x hx with ⟨j,a,b,d⟩|r
 ·exact .inl ⟨j,a,b,by rw [he j a];exact d⟩
 ·exact .inr r
theorem FrOk.env {ops:List Oper} {E0 E E':aT} {hs:Nat→HV} {i:Nat} (h:FrOk ops E0 hs i E) (he:∀ t x,hlk E' t=some x→hlk E t=some x):FrOk ops E0 hs i E':=fun t x hx=>h t x (he t x hx)
theorem FrOk.set {ops:List Oper} {E0:aT} {hs:Nat→HV} {i:Nat} {S:HS} (h:FrOk ops E0 hs i S.env) {o:Oper} (ho:ops[i]?=some o):FrOk ops E0 hs (i + 1) (S.set o.dst (hs i)).env:=by
 have hd:aZ ops i=o.dst:=by unfold aZ;rw [ho];rfl
 intro t x hx
 cases e:o.dst with
|none =>
  rw [e] at hx hd
  rcases h t x hx with ⟨j,a,b,d⟩|⟨a,b⟩
  ·exact .inl ⟨j,by omega,b,d⟩
  ·refine .inr ⟨fun j hj=>?_,b⟩
   by_cases ej:j=i
   ·subst ej;rw [hd];simp
   ·exact a j (by omega)
|some d =>
  rw [e] at hx hd;simp only [HS.set,hlk] at hx
  by_cases et:d=t
  ·rw [g8 et] at hx;simp only [a6] at hx;exact .inl ⟨i,by omega,by rw [hd,et],hx⟩
  ·rw [b7 et] at hx
   rcases h t x hx with ⟨j,a,b,d'⟩|⟨a,b⟩
   ·exact .inl ⟨j,by omega,b,d'⟩
   ·refine .inr ⟨fun j hj=>?_,b⟩
    by_cases ej:j=i
    ·subst ej;rw [hd];simpa using et
    ·exact a j (by omega)
structure HeadOk (P:Program) (N:Nat) (ops:List Oper) (E0:aT) (st:aC) (hs:Nat→HV) (i:Nat) (o:Oper):Prop where
 lt:jP N o.dst
 head:∃ T:aT,FrOk ops E0 hs i T∧(∀ t h,hlk T t=some h→t ∈ iV (cJ ops) o.guard ++ cH o.op)∧∀ (c:Ctx) (l:Env) (w:World) (ρ:Nat→Value) (xs:Nat→List Value),Good c ⟨T,st⟩ (lk l) w ρ xs →
  ∃ b,gd l (cJ ops) o.guard (·=b)∧(b=true→bH P l o.op o.type w (fun u w'=>RepH w' (c.A ρ st) c.n0 ρ u (hs i)∧Below w.heap.size w w') (fun u w'=>RepH w' (c.A ρ st) c.n0 ρ u (hs i)∧Below w.heap.size w w'))∧(b=false→hs i=.v undef)
theorem xY {d:Option Nat} (h:lN N d S K):jP N d∧K (S.set d (.v undef)):=by
 unfold lN at h;split at h
 ·rename_i hd;exact ⟨eQ hd,h⟩
 ·exact h.elim
theorem qG0 {ops:List Oper} {E0:aT} {st:aC}:∀ (rest:List Oper) (i:Nat) (S:HS) (hs0:Nat→HV),(∀ k o,rest[k]?=some o→ops[i + k]?=some o)→S.st=st→FrOk ops E0 hs0 i S.env→HVr P N (cJ ops) K rest S →
  ∃ hs,(∀ j,j < i→hs j=hs0 j)∧(∀ k o,rest[k]?=some o→HeadOk P N ops E0 st hs (i + k) o)∧∃ S',S'.st=st∧FrOk ops E0 hs (i + rest.length) S'.env∧K S'
|[],i,S,hs0,hops,hst,F,h=>⟨hs0,fun _ _=>rfl,fun k o hk=>by simp at hk,S,hst,F,h⟩
|o :: rest,i,S,hs0,hops,hst,F,h=>by
  have hoi:ops[i]?=some o:=hops 0 o (by simp)
  rw [HVr] at h;generalize hT:lG S.env (iV (cJ ops) o.guard ++ cH o.op)=T at h
  have TF:∀ t x,hlk T t=some x→t ∈ iV (cJ ops) o.guard ++ cH o.op∧hlk S.env t=some x:=fun t x hx=>by subst hT;exact vK hx
  have key:∀ (S1:HS) (x:HV),S1.st=st→FrOk ops E0 hs0 i S1.env→HVr P N (cJ ops) K rest (S1.set o.dst x)→jP N o.dst →
    (∀ (c:Ctx) (l:Env) (w:World) (ρ:Nat→Value) (xs:Nat→List Value),Good c ⟨T,st⟩ (lk l) w ρ xs →
     ∃ b,gd l (cJ ops) o.guard (·=b)∧(b=true→bH P l o.op o.type w (fun u w'=>RepH w' (c.A ρ st) c.n0 ρ u x∧Below w.heap.size w w') (fun u w'=>RepH w' (c.A ρ st) c.n0 ρ u x∧Below w.heap.size w w'))∧(b=false→x=.v undef)) →
    ∃ hs,(∀ j,j < i→hs j=hs0 j)∧(∀ k o',(o :: rest)[k]?=some o'→HeadOk P N ops E0 st hs (i + k) o')∧∃ S',S'.st=st∧FrOk ops E0 hs (i + (o :: rest).length) S'.env∧K S':=by
   intro S1 x hst1 F1 hK hlt hrun
   let hs1:Nat→HV:=fun j=>if j=i then x else hs0 j
   have e1:hs1 i=x:=g8 rfl
   have e2:∀ j,j < i→hs1 j=hs0 j:=fun j hj=>b7 (by omega)
   have F2:FrOk ops E0 hs1 (i + 1) (S1.set o.dst x).env:=by
    have:=(F1.congr e2).set hoi
    rw [e1] at this;exact this
   obtain ⟨hs,a,b,S',d,e,f⟩:=qG0 rest (i + 1) (S1.set o.dst x) hs1 (fun k o' hk=>by
    have:=hops (k + 1) o' (by simpa using hk)
    rw [show i + 1 + k=i + (k + 1) by omega];exact this) (by cases o.dst <;> exact hst1) F2 hK
   have ei:hs i=x:=by rw [a i (by omega),e1]
   have ej:∀ j,j < i→hs j=hs0 j:=fun j hj=>by rw [a j (by omega),e2 j hj]
   refine ⟨hs,ej,fun k o' hk=>?_,S',d,?_,f⟩
   ·cases k with
   |zero =>
     simp only [q8,a6] at hk;subst hk;exact ⟨hlt,T,(F.congr ej).env (fun t x hx=>(TF t x hx).2),fun t x hx=>(TF t x hx).1,by rw [bAy,ei];exact hrun⟩
   |succ k =>
     have:=b k o' (by simpa using hk)
     rw [show i + 1 + k=i + (k + 1) by omega] at this;exact this
   ·rw [i6,show i + (rest.length + 1)=i + 1 + rest.length by omega];exact e
  cases hg:hG T (cJ ops) o.guard with
 |yes =>
   rw [hg] at h;obtain ⟨hlt,x,hK,hv⟩:=qCt h;refine key S x hst F hK hlt fun c l w ρ xs G=>⟨true,qGp (S:=⟨T,st⟩) hg rfl,fun _=>?_,fun e=>by cases e⟩
   have:=hv c l w ρ xs (by rw [hst];exact G)
   rw [hst] at this;exact this
 |no =>
   rw [hg] at h;obtain ⟨hlt,hK⟩:=xY h;exact key S _ hst F hK hlt fun c l w ρ xs G=>⟨false,zE2 (S:=⟨T,st⟩) ⟨ρ,xs,G⟩ hg rfl,fun e=>(by cases e),fun _=>rfl⟩
 |ask d b want =>
   rw [hg] at h;obtain ⟨j,hj,hd,hb⟩:=zCj (S:=⟨T,st⟩) hg
   have hbS:=(TF d _ hb).2
   simp only [kD] at h;split at h
   ·rename_i e
    have e':b=want:=by simpa using e
    subst e';obtain ⟨hlt,x,hK,hv⟩:=qCt h;refine key (S.rep d (.v (.bool b))) x hst (F.env fun t x hx=>by rw [← oL hbS t];exact hx) hK hlt fun c l w ρ xs G=>⟨true,(uU (S:=⟨T,st⟩) ⟨ρ,xs,G⟩ hg (k:=(·=true)) e).1,fun _=>?_,fun e=>by cases e⟩
    have:=hv c l w ρ xs (by rw [hst];exact G.sameEnv (oL hb))
    simp only [HS.rep] at this;rw [hst] at this;exact this
   ·rename_i e
    have e':b=!want:=by cases b <;> cases want <;> simp_all
    subst e';obtain ⟨hlt,hK⟩:=xY h;exact key (S.rep d (.v (.bool (!want)))) _ hst (F.env fun t x hx=>by rw [← oL hbS t];exact hx) hK hlt fun c l w ρ xs G=>⟨false,(uU (S:=⟨T,st⟩) ⟨ρ,xs,G⟩ hg (k:=(·=false)) e).1,fun e=>(by cases e),fun _=>rfl⟩
 |bad=>rw [hg] at h;exact h.elim
end
section
variable {P:Program} {N:Nat} {c:Ctx} {S T:HS} {Q:dP} {l:Env} {look:Nat→Option Value} {w w':World} {ρ:Nat→Value} {xs:Nat→List Value} {K:HS→Prop}
theorem tJ {ops:List Oper} {o:Oper} {t:Nat} (h:t ∈ iV (cJ ops) o.guard ++ cH o.op):t ∈ o.looksAt ops.toArray:=by
 rcases m8.1 h with h|h
 ·cases hg:o.guard with
 |none=>rw [hg] at h;simp [iV] at h
 |some p =>
   obtain ⟨g,b⟩:=p;rw [hg] at h;simp only [iV] at h;split at h
   ·rename_i d hd;simp only [q6] at h;subst h;refine jW hg ?_;unfold aZ;simp only [cJ,y9,bAg] at hd;obtain ⟨x,hx,hx'⟩:=hd;simp [hx,hx']
   ·simp at h
 ·exact vQ (qTh h)
theorem qCb {x:HV} {k:Nat}:∀ {e:aT},hlk e k=some x→k ∈ cN e
|[],h=>by simp [hlk] at h
|(j,y) :: r,h=>by
  simp only [hlk] at h
  by_cases ej:j=k
  ·simp [cN,ej]
  ·rw [b7 ej] at h
   have:=qCb h
   simp only [cN,d8,l3];exact .inr this
theorem zZx {id:Nat} {ops:List Oper} (n:Nat) (hm:P.follows .mixedOrders=true) (hok:yY (cN S.env) ops n=true)
  (h:∀ K:HS→Prop,(∀ S',Q .normal S'→K S')→HVr P N (cJ ops) (fun S'=>iJ (HV2 P N (cJ ops) K (ops.drop n)) S') (ops.take n) S):HW P N (.region id ops.toArray true) Q S:=fun c l w I=>by
 have hks:∀ k ∈ cN S.env,∃ v,lk l k=some v:=fun k hk=>by
  obtain ⟨x,hx⟩:=wM hk;obtain ⟨ρ,xs,G⟩:=I;obtain ⟨v,h1,-⟩:=G.env k x hx;exact ⟨v,h1⟩
 refine qGz (cN S.env) ?_
 have I':Inv c S (lk (keep (cN S.env) l)) w:=I.agree fun k x hk=>oX (qCb hk)
 have hkk:tN (keep (cN S.env) l)=cN S.env:=xR hks
 generalize keep (cN S.env) l=l' at I' hkk;obtain ⟨ρ,xs,G⟩:=I'
 have ok:=rK hok
 have hlen:(ops.take n).length=n:=by rw [l7];have:=ok.hn;omega
 have get_take:∀ {i:Nat} {o:Oper},(ops.take n)[i]?=some o→i < n∧ops[i]?=some o:=fun {i o} h=>by
  have hi:=(i5.1 h).1
  rw [hlen] at hi;rw [o6 hi] at h;exact ⟨hi,h⟩
 obtain ⟨hs,-,heads,S1,e1,F1,h1⟩:=qG0 (E0:=S.env) (st:=S.st) (ops.take n) 0 S (fun _=>.junk) (fun k o hk=>by rw [s7];exact (get_take hk).2) rfl (fun t x hx=>.inr ⟨fun j hj=>absurd hj (y5 _),hx⟩) (h (Q .normal) fun _ h=>h)
 rw [hlen,s7] at F1
 have head:∀ i o,i < n→ops[i]?=some o→HeadOk P N ops S.env S.st hs i o:=fun i o hi ho=>by
  have:=heads i o (by rw [o6 hi];exact ho)
  rw [s7] at this;exact this
 have uniq:∀ i j t,i < n→j < n→aZ ops i=some t→aZ ops j=some t→i=j:=by
  intro i j t hi hj h1 h2
  rcases bAw i j with h|h|h
  ·rcases ok.uniq j i hj h with e|e
   ·rw [h2] at e;cases e
   ·exact absurd (h2.trans h1.symm) e
  ·exact h
  ·rcases ok.uniq i j hi h with e|e
   ·rw [h1] at e;cases e
   ·exact absurd (h1.trans h2.symm) e
 have hlt:DLt N ops n:=fun i t hi hd=>by
  obtain ⟨o,ho,hod⟩:=xW hd
  have:=(head i o hi ho).lt
  rw [hod] at this;exact this
 -- what a frame of the heads' names reads
 have frame:∀ (vs:Nat→Value) (w':World) (i:Nat) (E:aT),i≤n→Below w.heap.size w w'→FrOk ops S.env hs i E →
   (∀ j t x,j < i→aZ ops j=some t→hlk E t=some x→RepH w' (c.A ρ S.st) c.n0 ρ (vs j) (hs j))→Good c ⟨E,S.st⟩ (lk (iG l' ops vs i)) w' ρ xs:=fun vs w' i E hi hB F hv=>by
  have GB:=G.below hB
  refine ⟨GB.rows,GB.apart,fun k x hk=>?_,GB.kept,GB.a0⟩
  rcases F k x hk with ⟨j,a,b,d⟩|⟨a,b⟩
  ·refine ⟨vs j,(nN (l:=l') (vs:=vs) hlt (base:=Array.replicate N undef) (by simp) b (fun q hq hne e=>hne (uniq q j k hq (by omega) e b)) i hi a).1,?_⟩
   rw [← d];exact hv j k x a b hk
  ·obtain ⟨v,v1,v2⟩:=GB.env k x b;exact ⟨v,by rw [(pN (l:=l') (vs:=vs) #[] k i a).1];exact v1,v2⟩
 refine zTp (cN S.env) n hm hkk hok hlt (C:=fun w'=>Below w.heap.size w w') (R:=fun j u w'=>RepH w' (c.A ρ S.st) c.n0 ρ u (hs j)) (Below.refl _ _).drew (fun i u w1 w2 _ hr hB=>hr.above hB) ?_ ?_
 ·intro i o hi ho vs w1 hC hR;obtain ⟨T,TF,TS,run⟩:=(head i o hi ho).head
  have GT:Good c ⟨T,S.st⟩ (lk (iG l' ops vs i)) w1 ρ xs:=frame vs w1 i T (by omega) hC TF fun j t x hj hd hx=>hR j t hj hd (tJ (TS t x hx))
  obtain ⟨b,b1,b2,b3⟩:=run c _ w1 ρ xs GT;refine ⟨b,b1,fun hb=>?_,fun hb=>?_⟩
  ·exact (oV (fun x X hx=>by simp [evD,hx]) (b2 hb)).mono fun u w2 ⟨hu,hB⟩=>⟨hu,hC.trans (hB.mono hC.size),hB⟩
  ·rw [b3 hb];exact .v _
 ·intro vs w1 hC hR;obtain ⟨E1,st1⟩:=S1
  have e1:st1=S.st:=e1
  subst e1
  have G1:=frame vs w1 n E1 (a7 _) hC F1 fun j t x hj _ _=>hR j hj
  exact HW_drw.V2.mono' (uX _ _ _ _ h1 ⟨ρ,xs,G1⟩) fun l2 w2 h2=>h2
theorem yGm {f:FuncId} {args args':List HV} {x:HV} {K:HV→Prop} (hc:aB P f=true) (H:HFun P f args' (fun h st=>h=x∧st=[])) (hf:FreshH x) (hn:∀ ρ ρ':Nat→Value,∀ (w:World) (A:Nat→Prop) (n:Nat) (v:Value),RepH w A n ρ v x→RepH w A n ρ' v x) (hl:Lends T.st args args') (hK:K x):zMu P f args T K :=
 ⟨hc,x,hK,fun c look w ρ xs vs G R=>Ret.mono (H w vs (mR G R hl)) fun v w' ⟨B,h,st,h8,⟨e1,e2⟩,ρ',xs',G',hr⟩=>⟨by
  subst e1;subst e2
  have hw:c.n0≤w.heap.size:=l5 c.hn G.kept.size
  refine hn ρ' ρ _ _ _ _ (hr.up (a7 _) (fun _ _ _=>rfl) (fun b _ hA=>?_) hw)
  left
  show b < w.heap.size
  rcases hA with h0|⟨i,r,hi,hb⟩
  ·have:=(G.a0 b h0).1;have:=G.kept.size;omega
  ·exact G.lt hi hb,B⟩⟩
theorem zE0 {f:FuncId} {args args':List HV} {x:Value} {K:HV→Prop} (hc:aB P f=true) (H:HFun P f args' (fun h st=>h=.v x)) (hl:Lends T.st args args') (hK:K (.v x)):zMu P f args T K :=
 ⟨hc,.v x,hK,fun c look w ρ xs vs G R=>Ret.mono (H w vs (mR G R hl)) fun v w' ⟨B,h,st,h8,q,ρ',xs',G',hr⟩=>⟨by subst q;have:=bL hr;subst this;exact .v _,B⟩⟩
end
section
variable {P:Program} {T:HS}
theorem qC5 {f:FuncId} {args args':List HV} {ty sz:Nat} {els:List (List FV)} {K:HV→Prop} (hc:aB P f=true) (H:HFun P f args' (fun h st=>h=.own 0∧st=[(0,.sl true ty sz els)])) (hl:Lends T.st args args') (hK:K (.lst true els)):zMu P f args T K :=
 ⟨hc,_,hK,fun c look w ρ xs vs G R=>Ret.mono (H w vs (mR G R hl)) fun v w' ⟨B,h,st,h8,⟨e1,e2⟩,ρ',xs',G',hr⟩=>⟨by
  subst e1;subst e2
  have hw:c.n0≤w.heap.size:=l5 c.hn G.kept.size
  have hA:∀ b,c.A ρ T.st b→b < w.heap.size:=by
   rintro b (h0|⟨i,r,hi,hb⟩)
   ·have:=(G.a0 b h0).1;have:=G.kept.size;omega
   ·exact G.lt hi hb
  have e0:rlk (HS.st ⟨[],[(0,Row.sl true ty sz els)]⟩) 0=some (.sl true ty sz els):=rfl
  cases hr
  obtain ⟨o1,o2,o3⟩:=dC G' e0
  have R0:=G'.rows 0 _ e0
  refine .lst (tD o1 o2 (fun p k hp hk=>?_) (fun b hb=>?_))
  ·obtain ⟨u,a,b,d⟩:=o3 p k hp hk;exact ⟨u,a,b,d.up (a7 _) (fun _ _ _=>rfl) (fun b _ h=>.inl (hA b h)) hw⟩
  ·rcases (R0.new b hb).1 with h|h
   ·have h:w.heap.size≤b:=h
    exact ⟨fun hA'=>by have:=hA b hA';omega,fun _=>by omega⟩
   ·exact h.elim,B⟩⟩
end
theorem zS (t:Nat):hlk [] t=none:=nr rfl
theorem zM (k:Nat) (v:HV) (r:aT) (t:Nat):hlk ((k,v) :: r) t=if k=t then some v else hlk r t:=nr rfl
theorem zX (t:Nat):rlk [] t=none:=nr rfl
theorem zU (k:Nat) (v:Row) (r:aC) (t:Nat):rlk ((k,v) :: r) t=if k=t then some v else rlk r t:=nr rfl
theorem zXt (l:aT) (t:Nat):hev l (.tmp t)=hlk l t:=nr rfl
theorem zKw (l:aT) (v:Value):hev l (.const v)=some (.v v):=nr rfl
theorem zA7 (l:aT) (g:Nat):hev l (.global g)=some (.v (.pointer (some ⟨g,0,none⟩))):=nr rfl
theorem zRj (l:aT) (f:FuncId):hev l (.func f)=some (.v (.func (.func f) #[] #[])):=nr rfl
theorem zRi (l:aT):jF l []=some []:=nr rfl
theorem zKv (l:aT) (x:Operand) (r:List Operand):jF l (x :: r)=match hev l x with|some v=>(match jF l r with|some vs=>some (v :: vs)|none=>none)|none=>none:=nr rfl
theorem yB6 (x:Value):leaf (some (.v x))=some x:=nr rfl
theorem zJb  : leaf none=none:=nr rfl
theorem zQf (fr:Bool) (xs:List (List FV)):leaf (some (.lst fr xs))=none:=nr rfl
theorem zQe (i:Nat):leaf (some (.own i))=none:=nr rfl
theorem zQd (i s j k:Nat):leaf (some (.ptr i s j k))=none:=nr rfl
theorem zQg (fr:Bool) (xs:List (List FV)) (s j k:Nat):leaf (some (.elt fr xs s j k))=none:=nr rfl
theorem zQh (cs:List HV):leaf (some (.agg cs))=none:=nr rfl
theorem zQc (cs:List HV):leaf (some (.tup cs))=none:=nr rfl
theorem zWt (i s o n:Nat):leaf (some (.vw i s o n))=none:=nr rfl
theorem zJc  : leaf (some .junk)=none:=nr rfl
theorem zB2 (S:HS) (id:Nat) (P:Program) (o:Op) (c:Prop) (v:Value):pZ S id P o (some (c,v))=.go c (.v v) S:=nr rfl
theorem zB3 (S:HS) (id:Nat) (P:Program) (o:Op):pZ S id P o none=iK P S id o:=nr rfl
theorem yCf (P:Program) (S:HS) (id:Nat) (o:Op):hop P S id o=pZ S id P o (aP P (lo S.env) o):=nr rfl
theorem zKz (P:Program) (S:HS) (id:Nat) (x:Operand):iK P S id (.move x)=qAb S (hev S.env x):=nr rfl
theorem qVn (P:Program) (S:HS) (id:Nat) (x:Operand):iK P S id (.assign x)=qAb S (hev S.env x):=nr rfl
theorem zKx (P:Program) (S:HS) (id:Nat) (c a b:Operand):iK P S id (.pick c a b)=qE3 S (hev S.env c) (hev S.env a) (hev S.env b):=nr rfl
theorem qR1 (P:Program) (S:HS) (id:Nat) (x:Operand) (i:Nat):iK P S id (.extract x i)=nK S i (hev S.env x):=nr rfl
theorem zBe (P:Program) (S:HS) (id:Nat) (t:TypeId) (x:Operand) (f:Nat):iK P S id (.field t x f)=uS S (qE8 P t f) (hev S.env x):=nr rfl
theorem zBf (P:Program) (S:HS) (id:Nat) (t:TypeId) (x:Operand) (f:Nat):iK P S id (.fieldAddr t x f)=uT S (eV P t f) (hev S.env x):=nr rfl
theorem zKy (P:Program) (S:HS) (id:Nat) (x:Operand):iK P S id (.nilCheck x)=qNg S (hev S.env x):=nr rfl
theorem zBd (P:Program) (S:HS) (id:Nat) (t:TypeId) (x i:Operand):iK P S id (.indexAddr t x i)=oN S (bV P t) (qJ3 P t) (hev S.env x) (hev S.env i):=nr rfl
theorem zBa (P:Program) (S:HS) (id:Nat) (t:TypeId) (x:Operand) (l h:Option Operand):iK P S id (.slice t x l h none)=rW S (bV P t) l h (hev S.env x):=nr rfl
theorem zK0 (P:Program) (S:HS) (id:Nat) (t:TypeId) (x:Operand):iK P S id (.load t x)=tW S (bU P t) (hev S.env x):=nr rfl
theorem zA9 (P:Program) (S:HS) (id:Nat) (t:TypeId) (x y:Operand):iK P S id (.store t x y)=uQ S (bU P t) (hev S.env x) (hev S.env y):=nr rfl
theorem zBj (P:Program) (S:HS) (id:Nat) (t:TypeId):iK P S id (.alloc t)=pW S id t (eD P t):=nr rfl
theorem zRo (P:Program) (S:HS) (id:Nat) (t:TypeId) (x:Operand):iK P S id (.box t x)=qV2 S id t (hev S.env x):=nr rfl
theorem zBi (P:Program) (S:HS) (id:Nat) (t:TypeId) (ps:Array (Nat × Operand)):iK P S id (.build t ps)=xU S (cQ P t) (cP P t) (eD P t) (jV S.env ps.toList):=nr rfl
theorem qVm (P:Program) (S:HS) (id:Nat) (t n:TypeId) (ps:Array (Nat × Operand)):iK P S id (.buildSlice t n ps)=lV S id n (jT P t) (jV S.env ps.toList):=nr rfl
theorem zBb (P:Program) (S:HS) (id:Nat) (t:TypeId) (x y:Operand):iK P S id (.makeSlice t x y)=qHp S id (jT P t) (hev S.env x) (hev S.env y):=nr rfl
theorem zRm (P:Program) (S:HS) (id:Nat) (args:Array Operand) (ats:Array TypeId):iK P S id (.call ⟨.builtin .len,args,ats⟩)=match jF S.env args.toList with|some [h]=>qLu S (cE ((bV P (eB ats)).isSome=true∧ats.size=1)) (some h)|_=>.bad:=nr rfl
theorem zRp (P:Program) (S:HS) (id:Nat) (args:Array Operand) (ats:Array TypeId):iK P S id (.call ⟨.builtin .append,args,ats⟩)=kJ S id (ats == #[eB ats,eB ats]) (qXo P ats) (jT P (eB ats)) (jF S.env args.toList):=nr rfl
theorem zBh (P:Program) (S:HS) (id:Nat) (f:FuncId) (args:Array Operand) (ats:Array TypeId):iK P S id (.call ⟨.value (.func f),args,ats⟩)=qHq f (jF S.env args.toList):=nr rfl
theorem zRn (P:Program) (S:HS) (id:Nat) (t:TypeId) (x y:Operand) (u:TypeId):iK P S id (.binOp .eql t x y u)=hEq S (qH3 P t) t false (hev S.env x) (hev S.env y):=nr rfl
theorem zRl (P:Program) (S:HS) (id:Nat) (t:TypeId) (x y:Operand) (u:TypeId):iK P S id (.binOp .neq t x y u)=hEq S (qH3 P t) t true (hev S.env x) (hev S.env y):=nr rfl
theorem zK2 (P:Program) (S:HS) (id:Nat) (s d:TypeId) (x:Operand):iK P S id (.convert s d x)=uB S (qDs P s d) (qL9 P s d) (hev S.env x):=nr rfl
theorem zRw (S:HS) (h:HV):qAb S (some h)=.go True h S:=nr rfl
theorem zRt (S:HS) (t:Bool) (a b:HV):qE3 S (some (.v (.bool t))) (some a) (some b)=.go True (bif t then a else b) S:=nr rfl
theorem qVx (S:HS) (i:Nat) (hs:List HV):nK S i (some (.tup hs))=match hs[i]? with|some h=>.go True h S|none=>.bad:=nr rfl
theorem zBc (P:Program) (S:HS) (id:Nat) (t:TypeId) (x i:Operand):iK P S id (.index t x i)=oZ S (qHz P t) (hev S.env x) (hev S.env i):=nr rfl
theorem qR4 (S:HS) (m q:Nat) (hs:List HV) (k:IntKind) (n:Int):oZ S (some (m,some q)) (some (.agg hs)) (some (.v (.int k n)))=.go (cE (0≤n∧n < m)) (.agg ((hs.drop (n.toNat * q)).take q)) S:=nr rfl
theorem qVw (S:HS) (m:Nat) (hs:List HV) (k:IntKind) (n:Int):oZ S (some (m,none)) (some (.agg hs)) (some (.v (.int k n)))=match hs[n.toNat]? with|some h=>.go (cE (0≤n∧n < m)) h S|none=>.bad:=nr rfl
theorem zCl (S:HS) (off:Nat) (hs:List HV):uS S (some (off,none)) (some (.agg hs))=match hs[off]? with|some h=>.go True h S|none=>.bad:=nr rfl
theorem zCk (S:HS) (off n:Nat) (hs:List HV):uS S (some (off,some n)) (some (.agg hs))=.go (cE (off + n≤hs.length)) (.agg ((hs.drop off).take n)) S:=nr rfl
theorem zCm (S:HS) (off id sz i k:Nat):uT S (some off) (some (.ptr id sz i k))=.go True (.ptr id sz i (k + off)) S:=nr rfl
theorem zCn (S:HS) (off:Nat) (fr:Bool) (xs:List (List FV)) (sz i k:Nat):uT S (some off) (some (.elt fr xs sz i k))=.go True (.elt fr xs sz i (k + off)) S:=nr rfl
theorem zRu (S:HS) (id sz i k:Nat):qNg S (some (.ptr id sz i k))=.go True (.ptr id sz i k) S:=nr rfl
theorem zRv (S:HS) (fr:Bool) (xs:List (List FV)) (sz i k:Nat):qNg S (some (.elt fr xs sz i k))=.go True (.elt fr xs sz i k) S:=nr rfl
theorem zCa (S:HS) (id:Nat) (us ua:Option (Nat × Nat)) (kk:IntKind) (n:Int):oN S us ua (some (.own id)) (some (.v (.int kk n)))=qK S id n us (rlk S.st id):=nr rfl
theorem zCb (S:HS) (fr:Bool) (xs:List (List FV)) (us ua:Option (Nat × Nat)) (kk:IntKind) (n:Int):oN S us ua (some (.lst fr xs)) (some (.v (.int kk n)))=tZ S fr xs n us:=nr rfl
theorem zB9 (S:HS) (id sz i k:Nat) (us ua:Option (Nat × Nat)) (kk:IntKind) (n:Int):oN S us ua (some (.ptr id sz i k)) (some (.v (.int kk n)))=tY S id sz i k n ua:=nr rfl
theorem zCc (S:HS) (fr:Bool) (xs:List (List FV)) (sz i k:Nat) (us ua:Option (Nat × Nat)) (kk:IntKind) (n:Int):oN S us ua (some (.elt fr xs sz i k)) (some (.v (.int kk n)))=uA S fr xs sz i k n ua:=nr rfl
theorem zCf (S:HS) (id:Nat) (n:Int) (e sz:Nat) (nw:Bool) (ty s:Nat) (els:List (List FV)):qK S id n (some (e,sz)) (some (.sl nw ty s els))=.go (cE (sz=s∧0≤n∧n < els.length)) (.ptr id s n.toNat 0) S:=nr rfl
theorem zCh (S:HS) (fr:Bool) (xs:List (List FV)) (n:Int) (e sz:Nat):tZ S fr xs n (some (e,sz))=.go (cE (0≤n∧n < xs.length)∧Wid sz xs) (.elt fr xs sz n.toNat 0) S:=nr rfl
theorem zCg (S:HS) (id sz i k:Nat) (n:Int) (len size:Nat):tY S id sz i k n (some (len,size))=.go (cE (0≤n∧n < len)) (.ptr id sz i (k + n.toNat * size)) S:=nr rfl
theorem zCi (S:HS) (fr:Bool) (xs:List (List FV)) (sz i k:Nat) (n:Int) (len size:Nat):uA S fr xs sz i k n (some (len,size))=.go (cE (0≤n∧n < len)) (.elt fr xs sz i (k + n.toNat * size)) S:=nr rfl
theorem zXu (S:HS) (c:Prop) (i s o n:Nat):qLu S c (some (.vw i s o n))=.go c (.v (.int .i64 n)) S:=nr rfl
theorem zBy (S:HS) (us:Option (Nat × Nat)) (l h:Option Operand) (id:Nat):rW S us l h (some (.own id))=tU S id (mE (lo S.env) l 0) (mE (lo S.env) h (zU7 (rlk S.st id))) us (rlk S.st id):=nr rfl
theorem zK7 (S:HS) (us:Option (Nat × Nat)) (l h:Option Operand) (id sz off n:Nat):rW S us l h (some (.vw id sz off n))=tT S id sz off (mE (lo S.env) l 0) (mE (lo S.env) h n) us (rlk S.st id):=nr rfl
theorem zB0 (S:HS) (id:Nat) (a b:Int) (e sz:Nat) (nw:Bool) (ty s:Nat) (els:List (List FV)):tU S id (some a) (some b) (some (e,sz)) (some (.sl nw ty s els))=.go (cE (sz=s∧0≤a∧a≤b∧b≤els.length)) (.vw id s a.toNat (b.toNat - a.toNat)) S:=nr rfl
theorem zBz (S:HS) (id sz off:Nat) (a b:Int) (e sz':Nat) (nw:Bool) (ty s:Nat) (els:List (List FV)):tT S id sz off (some a) (some b) (some (e,sz')) (some (.sl nw ty s els))=.go (cE (sz'=sz∧s=sz∧0≤a∧a≤b∧off + b≤els.length)) (.vw id sz (off + a.toNat) (b.toNat - a.toNat)) S:=nr rfl
theorem zU6 (nw:Bool) (ty s:Nat) (els:List (List FV)):zU7 (some (.sl nw ty s els))=els.length:=nr rfl
theorem zLe (S:HS) (id s off m:Nat) (us ua:Option (Nat × Nat)) (kk:IntKind) (n:Int):oN S us ua (some (.vw id s off m)) (some (.v (.int kk n)))=tX S id s off m n us (rlk S.st id):=nr rfl
theorem zCd (S:HS) (id s off m:Nat) (n:Int) (e sz:Nat) (nw:Bool) (ty s':Nat) (els:List (List FV)):tX S id s off m n (some (e,sz)) (some (.sl nw ty s' els))=.go (cE (sz=s∧s'=s∧0≤n∧n < m)) (.ptr id s (off + n.toNat) 0) S:=nr rfl
theorem zHx (st:aC) (sz id s off n:Nat):mF st sz (.vw id s off n)=match rlk st id with|some (.sl _ _ s' els)=>some (cE (s=sz∧s'=sz),(els.drop off).take n)|_=>none:=nr rfl
theorem zK4 (i s o n:Nat):dY (.vw i s o n)=some [.vw i s o n]:=nr rfl
theorem zXk (i s o n:Nat):(HV.vw i s o n).one=true:=nr rfl
def qAx (p:Nat→Bool) (i s o n:Nat):HV.kill p (.vw i s o n)=bif p i then .junk else .vw i s o n:=by rw [HV.kill]
def tQ (m:Nat→Option Nat) (i s o n:Nat):HV.ren m (.vw i s o n)=match m i with|some j=>.vw j s o n|none=>.junk:=by rw [HV.ren];cases m i <;> rfl
def qJo (id:Nat) (x0:HV) (i s o n:Nat):HV.sub id x0 (.vw i s o n)=if i=id then zMz x0 s o n else .vw i s o n:=by rw [HV.sub]
theorem zHi (i s o n:Nat):uL (.vw i s o n)=[]:=nr rfl
theorem qZi (i s o n:Nat):qB0 (.vw i s o n)=[]:=nr rfl
theorem zRy (S:HS) (c:Prop) (id:Nat):qLu S c (some (.own id))=qE4 S c (rlk S.st id):=nr rfl
theorem zRz (S:HS) (c:Prop) (fr:Bool) (xs:List (List FV)):qLu S c (some (.lst fr xs))=.go c (.v (.int .i64 xs.length)) S:=nr rfl
theorem zR0 (S:HS) (c:Prop) (nw:Bool) (ty s:Nat) (els:List (List HV)):qE4 S c (some (.hl nw ty s els))=.go c (.v (.int .i64 els.length)) S:=nr rfl
theorem zCe (S:HS) (id:Nat) (n:Int) (e sz:Nat) (nw:Bool) (ty s:Nat) (els:List (List HV)):qK S id n (some (e,sz)) (some (.hl nw ty s els))=.go (cE (sz=s∧0≤n∧n < els.length)) (.ptr id s n.toNat 0) S:=nr rfl
theorem zR1 (S:HS) (c:Prop) (nw:Bool) (ty s:Nat) (els:List (List FV)):qE4 S c (some (.sl nw ty s els))=.go c (.v (.int .i64 els.length)) S:=nr rfl
theorem zK8 (S:HS) (us:Option (Nat × Nat)) (l h:Option Operand) (fr:Bool) (xs:List (List FV)):rW S us l h (some (.lst fr xs))=tV S fr xs (mE (lo S.env) l 0) (mE (lo S.env) h xs.length) us:=nr rfl
theorem zB1 (S:HS) (fr:Bool) (xs:List (List FV)) (a b:Int) (e sz:Nat):tV S fr xs (some a) (some b) (some (e,sz))=.go (cE (0≤a∧a≤b∧b≤xs.length)∧Wid sz xs) (.lst fr ((xs.take b.toNat).drop a.toNat)) S:=nr rfl
theorem zK9 (S:HS) (kt:Option (Option Nat)) (id sz i k:Nat):tW S kt (some (.ptr id sz i k))=nJ S sz i k kt (rlk S.st id):=nr rfl
theorem zLa (S:HS) (kt:Option (Option Nat)) (fr:Bool) (xs:List (List FV)) (sz i k:Nat):tW S kt (some (.elt fr xs sz i k))=uR S xs i k kt:=nr rfl
theorem zLb (S:HS) (sz i k:Nat) (nw:Bool) (ty s:Nat) (els:List (List FV)):nJ S sz i k (some none) (some (.sl nw ty s els))=.go (cE (sz=s∧i < els.length∧k < (els.getD i []).length)) ((els.getD i []).getD k default).h S:=nr rfl
theorem zB4 (S:HS) (sz i k n:Nat) (nw:Bool) (ty s:Nat) (els:List (List FV)):nJ S sz i k (some (some n)) (some (.sl nw ty s els))=.go (cE (sz=s∧i < els.length∧k + n≤(els.getD i []).length)) (.agg ((((els.getD i []).drop k).take n).map FV.h)) S:=nr rfl
theorem zLd (S:HS) (sz i k:Nat) (nw:Bool) (ty:Nat) (cells:List HV):nJ S sz i k (some none) (some (.bx nw ty cells))=.go (cE (i=0∧k < cells.length)) (cells.getD k .junk) S:=nr rfl
theorem zB6 (S:HS) (sz i k n:Nat) (nw:Bool) (ty:Nat) (cells:List HV):nJ S sz i k (some (some n)) (some (.bx nw ty cells))=.go (cE (i=0∧k + n≤cells.length)) (.agg ((cells.drop k).take n)) S:=nr rfl
theorem zLc (S:HS) (sz i k:Nat) (nw:Bool) (ty s:Nat) (els:List (List HV)):nJ S sz i k (some none) (some (.hl nw ty s els))=.go (cE (sz=s∧i < els.length∧k < (els.getD i []).length)) ((els.getD i []).getD k .junk) S:=nr rfl
theorem zB5 (S:HS) (sz i k n:Nat) (nw:Bool) (ty s:Nat) (els:List (List HV)):nJ S sz i k (some (some n)) (some (.hl nw ty s els))=.go (cE (sz=s∧i < els.length∧k + n≤(els.getD i []).length)) (.agg (((els.getD i []).drop k).take n)) S:=nr rfl
theorem zBw (S:HS) (id sz i k:Nat) (kt:Option (Option Nat)) (h:HV) (nw:Bool) (ty s:Nat) (els:List (List HV)):oY S id sz i k kt h (some (.hl nw ty s els))=qH S id sz i k nw ty s els kt h:=nr rfl
def qVs (S:HS) (id sz i k:Nat) (nw:Bool) (ty s:Nat) (els:List (List HV)) (h:HV):qH S id sz i k nw ty s els (some none) h=.go (cE (sz=s∧i < els.length∧k < (els.getD i []).length∧h.one=true)) (.v undef) ⟨S.env,iC id (.hl nw ty s (els.set i ((els.getD i []).set k h))) S.st⟩:=nr (by cases h <;> rfl)
theorem qVt (S:HS) (id sz i k n:Nat) (nw:Bool) (ty s:Nat) (els:List (List HV)) (hs:List HV):qH S id sz i k nw ty s els (some (some n)) (.agg hs)=.go (cE (sz=s∧i < els.length∧hs.length=n∧k + n≤(els.getD i []).length)) (.v undef) ⟨S.env,iC id (.hl nw ty s (els.set i (splice (els.getD i []) k hs))) S.st⟩:=nr rfl
theorem zB7 (S:HS) (xs:List (List FV)) (i k:Nat):uR S xs i k (some none)=.go (cE (i < xs.length∧k < (xs.getD i []).length)) ((xs.getD i []).getD k default).h S:=nr rfl
theorem zB8 (S:HS) (xs:List (List FV)) (i k n:Nat):uR S xs i k (some (some n))=.go (cE (i < xs.length∧k + n≤(xs.getD i []).length)) (.agg ((((xs.getD i []).drop k).take n).map FV.h)) S:=nr rfl
theorem zK6 (S:HS) (kt:Option (Option Nat)) (id sz i k:Nat) (h:HV):uQ S kt (some (.ptr id sz i k)) (some h)=oY S id sz i k kt h (rlk S.st id):=nr rfl
theorem zBv (S:HS) (id sz i k:Nat) (kt:Option (Option Nat)) (h:HV) (nw:Bool) (ty s:Nat) (els:List (List FV)):oY S id sz i k kt h (some (.sl nw ty s els))=qG S id sz i k nw ty s els kt h:=nr rfl
theorem zBx (S:HS) (id sz i k:Nat) (kt:Option (Option Nat)) (h:HV) (nw:Bool) (ty:Nat) (cells:List HV):oY S id sz i k kt h (some (.bx nw ty cells))=qJ S id i k nw ty cells kt h:=nr rfl
theorem qVq (S:HS) (id sz i k:Nat) (nw:Bool) (ty s:Nat) (els:List (List FV)) (h:HV):qG S id sz i k nw ty s els (some none) h=match h.f with|some f=>.go (cE (sz=s∧i < els.length∧k < (els.getD i []).length∧f.one=true)) (.v undef) ⟨S.env,iC id (.sl nw ty s (els.set i ((els.getD i []).set k f))) S.st⟩|none=>.bad:=nr rfl
theorem qVr (S:HS) (id sz i k n:Nat) (nw:Bool) (ty s:Nat) (els:List (List FV)) (hs:List HV):qG S id sz i k nw ty s els (some (some n)) (.agg hs)=match HV.fs hs with|some fs=>.go (cE (sz=s∧i < els.length∧fs.length=n∧k + n≤(els.getD i []).length)) (.v undef) ⟨S.env,iC id (.sl nw ty s (els.set i (splice (els.getD i []) k fs))) S.st⟩|none=>.bad:=nr rfl
def qVu (S:HS) (id i k:Nat) (nw:Bool) (ty:Nat) (cells:List HV) (h:HV):qJ S id i k nw ty cells (some none) h=.go (cE (i=0∧k < cells.length∧h.one=true)) (.v undef) ⟨S.env,iC id (.bx nw ty (cells.set k h)) S.st⟩:=nr (by cases h <;> rfl)
theorem qVv (S:HS) (id i k n:Nat) (nw:Bool) (ty:Nat) (cells:List HV) (hs:List HV):qJ S id i k nw ty cells (some (some n)) (.agg hs)=.go (cE (i=0∧hs.length=n∧k + n≤cells.length)) (.v undef) ⟨S.env,iC id (.bx nw ty (splice cells k hs)) S.st⟩:=nr rfl
theorem zLn (S:HS) (id:Nat) (t:TypeId) (z:Array Value):pW S id t (some z)=.go (cE (uM z=true)) (.ptr id z.size 0 0) ((S.kill (only id)).row id (.bx true t (z.toList.map .v))):=nr rfl
theorem zX1 (S:HS) (id:Nat) (t:TypeId) (h:HV):qV2 S id t (some h)=qLv S id t (dY h):=nr rfl
theorem zR5 (S:HS) (id:Nat) (t:TypeId) (cs:List HV):qLv S id t (some cs)=.go True (.ptr id cs.length 0 0) ((S.kill (only id)).row id (.bx true t (cs.map (HV.kill (only id))))):=nr rfl
theorem qZd (l:aT):jV l []=some []:=nr rfl
theorem qUk (l:aT) (i:Nat) (x:Operand) (r:List (Nat × Operand)):jV l ((i,x) :: r)=match hev l x with|some v=>(match jV l r with|some vs=>some ((i,v) :: vs)|none=>none)|none=>none:=nr rfl
theorem zKu (dE:Nat→Option (Nat × Nat)) (cells:List HV):qE2 dE cells []=some (True,cells):=nr rfl
theorem zA6 (dE:Nat→Option (Nat × Nat)) (cells:List HV) (i:Nat) (h:HV) (r:List (Nat × HV)):qE2 dE cells ((i,h) :: r)=match dE i with|some (off,n)=>(match dY h with|some cs=>(match qE2 dE (splice cells off cs) r with|some (c,out)=>some (cE (cs.length=n∧off + n≤cells.length)∧c,out)|none=>none)|none=>none)|none=>none:=nr rfl
theorem zLm (S:HS) (ok:Bool) (dE:Nat→Option (Nat × Nat)) (z:Array Value) (ps:List (Nat × HV)):xU S ok dE (some z) (some ps)=uC S (ok && uM z) (qE2 dE (z.toList.map .v) ps):=nr rfl
theorem zCs (S:HS) (ok:Bool) (c:Prop) (cs:List HV):uC S ok (some (c,cs))=.go (cE (ok=true)∧c) (.agg cs) S:=nr rfl
theorem zRd (sz:Nat) (els:List (List FV)):qRy sz els []=some (True,els):=nr rfl
theorem zKp (sz:Nat) (els:List (List FV)) (i:Nat) (h:HV) (r:List (Nat × HV)):qRy sz els ((i,h) :: r)=match dY h with|some cs=>(match HV.fs cs with|some fs=>(match qRy sz (els.set i fs) r with|some (c,out)=>some (cE (fs.length=sz∧i < els.length)∧c,out)|none=>none)|none=>none)|none=>none:=nr rfl
theorem zCp (S:HS) (id n e sz by':Nat) (z:Array Value) (ps:List (Nat × HV)):lV S id n (some (e,sz,by',z)) (some ps)=match uM z && z.size == sz with|true=>lK S id e sz n z ps (qW2 ps)|false=>.bad:=nr rfl
theorem zTl  : qW2 []=true:=nr rfl
theorem zMq (i:Nat) (h:HV) (r:List (Nat × HV)):qW2 ((i,h) :: r)=match dY h with|some cs=>((HV.fs cs).isSome && qW2 r)|none=>qW2 r:=nr rfl
theorem zKq (sz:Nat) (els:List (List HV)):qE0 sz els []=some (True,els):=nr rfl
theorem zA5 (sz:Nat) (els:List (List HV)) (i:Nat) (h:HV) (r:List (Nat × HV)):qE0 sz els ((i,h) :: r)=match dY h with|some cs=>(match qE0 sz (els.set i cs) r with|some (c,out)=>some (cE (cs.length=sz∧i < els.length)∧c,out)|none=>none)|none=>none:=nr rfl
theorem yCj (id:Nat) (els:List (List HV)):hkl id els=els.map (List.map (HV.kill (only id))):=nr rfl
theorem zCq (S:HS) (id e sz n:Nat) (z:Array Value) (ps:List (Nat × HV)):lK S id e sz n z ps true=nM S id e sz n (qRy sz (List.replicate n (z.toList.map .v)) ps):=nr rfl
theorem zCr (S:HS) (id e sz n:Nat) (z:Array Value) (ps:List (Nat × HV)):lK S id e sz n z ps false=nL S id e sz n (qE0 sz (List.replicate n (z.toList.map .v)) ps):=nr rfl
theorem qV0 (S:HS) (id e sz n:Nat) (c:Prop) (els:List (List HV)):nL S id e sz n (some (c,els))=.go (cE (n * sz≤16777216∧n≤16777216)∧c) (.own id) ((S.kill (only id)).row id (.hl true e sz (hkl id els))):=nr rfl
theorem qV1 (S:HS) (id e sz n:Nat) (c:Prop) (els:List (List FV)):nM S id e sz n (some (c,els))=.go (cE (n * sz≤16777216∧n≤16777216)∧c) (.own id) ((S.kill (only id)).row id (.sl true e sz els)):=nr rfl
theorem zRx (S:HS) (id e sz by':Nat) (z:Array Value) (n m:Int):qHp S id (some (e,sz,by',z)) (some (.v (.int .i64 n))) (some (.v (.int .i64 m)))=match uM z && z.size == sz with|true=>.go (cE (n=m∧0≤n∧by' * n.toNat≤281474976710656∧n.toNat≤maxLen)) (.own id) ((S.kill (only id)).row id (.sl true e sz (List.replicate n.toNat (z.toList.map .v))))|false=>.bad:=nr rfl
theorem qZn (st:aC) (sz id:Nat):mF st sz (.own id)=match rlk st id with|some (.sl _ _ s els)=>some (cE (s=sz),els)|_=>none:=nr rfl
theorem qZp (st:aC) (sz:Nat) (fr:Bool) (xs:List (List FV)):mF st sz (.lst fr xs)=some (Wid sz xs,xs):=nr rfl
theorem qZo (st:aC) (sz:Nat):mF st sz (.v (.slice none 0 0))=some (True,[]):=nr rfl
theorem zBg (P:Program) (S:HS) (id:Nat) (t:Nat) (args:Array Operand) (ats:Array TypeId):iK P S id (.call ⟨.value (.tmp t),args,ats⟩)=qDl (fnH (hlk S.env t)) (jF S.env args.toList):=nr rfl
theorem yGq (f:FuncId):fnH (some (.v (.func (.func f) #[] #[])))=some f:=nr rfl
theorem qVz (f:FuncId) (a:Option (List HV)):qDl (some f) a=qHq f a:=nr rfl
theorem zK1 (P:Program) (S:HS) (id:Nat) (args:Array Operand) (ats:Array TypeId):iK P S id (.call ⟨.builtin .copy,args,ats⟩)=wP S (ats == #[eB ats,eB ats]) (bV P (eB ats)) (jF S.env args.toList):=nr rfl
theorem zLf (S:HS) (us:Option (Nat × Nat)) (id:Nat) (x:HV):wP S true us (some [.own id,x])=rX S id 0 none none x us (rlk S.st id):=nr rfl
theorem zR3 (S:HS) (us:Option (Nat × Nat)) (id s off n:Nat) (x:HV):wP S true us (some [.vw id s off n,x])=rX S id off (some s) (some n) x us (rlk S.st id):=nr rfl
theorem zCo (S:HS) (id off:Nat) (x:HV) (e sz:Nat) (nw:Bool) (ty s:Nat) (els:List (List FV)):rX S id off none none x (some (e,sz)) (some (.sl nw ty s els))=match decide (sz=s) with|true=>qAz S id s off els.length (s=s) nw ty els (mF S.st s x)|false=>.bad:=nr rfl
theorem zLg (S:HS) (id off s0 n:Nat) (x:HV) (e sz:Nat) (nw:Bool) (ty s:Nat) (els:List (List FV)):rX S id off (some s0) (some n) x (some (e,sz)) (some (.sl nw ty s els))=match decide (sz=s) with|true=>qAz S id s off n (s0=s) nw ty els (mF S.st s x)|false=>.bad:=nr rfl
def cpy (els:List (List FV)) (off:Nat) (news:List (List FV)) (n:Nat):List (List FV):=splice els off (news.take n)
def cpn (news:List (List FV)) (n:Nat):Nat:=min news.length n
theorem qVy (S:HS) (id sz off n:Nat) (ok:Prop) (nw:Bool) (ty:Nat) (els:List (List FV)) (c:Prop) (news:List (List FV)):qAz S id sz off n ok nw ty els (some (c,news))=.go (c∧cE (off + n≤els.length∧0 < sz∧ok)) (.v (.int .i64 (cpn news n:Nat))) ⟨S.env,iC id (.sl nw ty sz (cpy els off news n)) S.st⟩:=nr rfl
theorem qV3 (S:HS) (nid:Nat) (same str:Bool) (e sz by':Nat) (z:Array Value) (id:Nat) (x:HV):kJ S nid same str (some (e,sz,by',z)) (some [.own id,x])=match (same || str) && z.size == sz with|true=>qE5 S id e sz by' same x (qPa same str S.st sz x) (rlk S.st id)|false=>.bad:=nr rfl
theorem zHy (st:aC) (sz id:Nat):qK4 st sz (.own id)=match rlk st id with|some (.sl _ _ s els)=>some (cE (s=sz),els.map (List.map FV.h))|some (.hl _ _ s els)=>some (cE (s=sz),els)|_=>none:=nr rfl
theorem zH0 (st:aC) (sz:Nat) (fr:Bool) (xs:List (List FV)):qK4 st sz (.lst fr xs)=some (Wid sz xs,xs.map (List.map FV.h)):=nr rfl
theorem zHz (st:aC) (sz:Nat):qK4 st sz (.v (.slice none 0 0))=some (True,[]):=nr rfl
def zZp (a b c d:Nat):(#[a,b] == #[c,d])=(a == c && b == d):=by rw [bAv];simp
theorem zWn (str:Bool) (st:aC) (sz:Nat) (x:HV):qPa true str st sz x=mF st sz x:=nr rfl
theorem zWo (st:aC) (sz:Nat) (x:HV):qPa false true st sz x=qUs x:=nr rfl
theorem zHw (s:Ba):qUs (.v (.string s))=some (True,gM s):=nr rfl
theorem qV4 (S:HS) (nid:Nat) (same str:Bool) (e sz by':Nat) (z:Array Value) (x:HV):kJ S nid same str (some (e,sz,by',z)) (some [.v (.slice none 0 0),x])=match same && z.size == sz with|true=>qA0 S nid e sz by' true [] (mF S.st sz x)|false=>.bad:=nr rfl
theorem zR6 (S:HS) (id e sz by':Nat) (same:Bool) (x:HV) (news:Option (Prop × List (List FV))) (nw:Bool) (ty s:Nat) (els:List (List HV)):qE5 S id e sz by' same x news (some (.hl nw ty s els))=match same && (decide (ty=e) && decide (s=sz)) with|true=>qHr S id e sz by' nw els (qK4 S.st sz x)|false=>.bad:=nr rfl
theorem zR9 (S:HS) (id e sz by':Nat) (nw:Bool) (els news:List (List HV)) (c:Prop):qHr S id e sz by' nw els (some (c,news))=.go (c∧cE ((els.length + news.length) * by'≤140737488355328∧0 < by'∧0 < sz)) (.own id) ((S.kill (only id)).row id (.hl nw e sz (hkl id (els ++ news)))):=nr rfl
theorem zR7 (S:HS) (id e sz by':Nat) (same:Bool) (x:HV) (news:Option (Prop × List (List FV))) (nw:Bool) (ty s:Nat) (els:List (List FV)):qE5 S id e sz by' same x news (some (.sl nw ty s els))=match decide (ty=e) && decide (s=sz) with|true=>qA0 S id e sz by' nw els news|false=>.bad:=nr rfl
theorem zR8 (S:HS) (id e sz by':Nat) (nw:Bool) (els:List (List FV)) (c:Prop) (news:List (List FV)):qA0 S id e sz by' nw els (some (c,news))=.go (c∧cE ((els.length + news.length) * by'≤140737488355328∧0 < by'∧0 < sz)) (.own id) ((S.kill (only id)).row id (.sl nw e sz (els ++ news))):=nr rfl
theorem zH9  : vR []=some []:=nr rfl
theorem qZy (x:Value) (r:List HV):vR (.v x :: r)=match vR r with|some vs=>some (x :: vs)|none=>none:=nr rfl
theorem yCt (S:HS) (up:Bool) (t:TypeId) (neg:Bool) (xs ys:List HV):hEq S up t neg (some (.agg xs)) (some (.agg ys))=qR5 t neg (vR xs) (vR ys):=nr rfl
theorem zXy (S:HS) (up:Bool) (t:TypeId) (neg:Bool) (a b c d:Nat):hEq S up t neg (some (.ptr a b c d)) (some (.v (.pointer none)))=.go (cE (up=true)) (.v (.bool neg)) S:=nr rfl
theorem zXz (S:HS) (up:Bool) (t:TypeId) (neg fr:Bool) (xs:List (List FV)) (a b c:Nat):hEq S up t neg (some (.elt fr xs a b c)) (some (.v (.pointer none)))=.go (cE (up=true)) (.v (.bool neg)) S:=nr rfl
theorem zLh (S:HS) (ok okB:Bool) (s:Ba):uB S ok okB (some (.v (.string s)))=.bytes okB s:=nr rfl
theorem zLi (S:HS) (ok okB:Bool) (id:Nat):uB S ok okB (some (.own id))=qDk S ok (rlk S.st id):=nr rfl
theorem zLj (S:HS) (ok okB fr:Bool) (xs:List (List FV)):uB S ok okB (some (.lst fr xs))=rY S ok (sK xs):=nr rfl
theorem zLk (S:HS) (ok nw:Bool) (t s:Nat) (els:List (List FV)):qDk S ok (some (.sl nw t s els))=rY S ok (sK els):=nr rfl
theorem zLl (S:HS) (ok:Bool) (ns:List Int):rY S ok (some ns)=.go (cE (ok=true)) (.v (.string (strOfNums ns))) S:=nr rfl
theorem zDh  : sK []=some []:=nr rfl
theorem qWw (n:Int) (r:List (List FV)):sK ([.v (.int .u8 n)] :: r)=match sK r with|some ns=>some (n :: ns)|none=>none:=nr rfl
theorem zX0 (t:TypeId) (neg:Bool) (xs ys:List Value):qR5 t neg (some xs) (some ys)=.eqn t xs ys neg:=nr rfl
theorem zR4 (f:FuncId) (hs:List HV):qHq f (some hs)=.call f hs:=nr rfl
theorem zZn (ats:Array TypeId):eB ats=ats.getD 0 0:=nr rfl
theorem zHo (z:Array Value):uM z=z.toList.all (fun v=>v.oneCell'):=nr rfl
theorem yKf (x:Value):(HV.v x).f=some (.v x):=nr rfl
theorem yCq (i:Nat):(HV.own i).f=none:=nr rfl
theorem yGl (i s o n:Nat):(HV.vw i s o n).f=none:=nr rfl
theorem yCp (i s j k:Nat):(HV.ptr i s j k).f=none:=nr rfl
theorem yCr (fr:Bool) (xs:List (List FV)):(HV.lst fr xs).f=some (.lst fr xs):=nr rfl
theorem zXs  : HV.fs []=some []:=nr rfl
theorem zRh (h:HV) (r:List HV):HV.fs (h :: r)=match h.f,HV.fs r with|some f,some fs=>some (f :: fs)|_,_=>none:=nr rfl
theorem yCz (x:Value):(FV.v x).one=x.oneCell':=nr rfl
theorem zSd (fr:Bool) (xs:List (List FV)):(FV.lst fr xs).one=true:=nr rfl
theorem yCg (x:Value):(HV.v x).one=x.oneCell':=nr rfl
theorem zRb (fr:Bool) (xs:List (List FV)):(HV.lst fr xs).one=true:=nr rfl
theorem zRa (i:Nat):(HV.own i).one=true:=nr rfl
theorem zQ9 (i s j k:Nat):(HV.ptr i s j k).one=true:=nr rfl
theorem zSl (x:Value):(FV.v x).h=.v x:=nr rfl
theorem qL0 (fr:Bool) (xs:List (List FV)):(FV.lst fr xs).h=.lst fr xs:=nr rfl
theorem zWg (k:IntKind) (n:Int):Value.oneCell' (.int k n)=true:=nr rfl
theorem zBn (k:IntKind) (n:Int):dY (.v (.int k n))=some [.v (.int k n)]:=nr rfl
theorem zPx (b:Bool):Value.oneCell' (.bool b)=true:=nr rfl
theorem qVp (b:Bool):dY (.v (.bool b))=some [.v (.bool b)]:=nr rfl
theorem zWe (s:Ba):Value.oneCell' (.string s)=true:=nr rfl
theorem zBl (s:Ba):dY (.v (.string s))=some [.v (.string s)]:=nr rfl
theorem zHn (a:Option Addr) (n c:Nat):Value.oneCell' (.slice a n c)=true:=nr rfl
theorem qR3 (a:Option Addr) (n c:Nat):dY (.v (.slice a n c))=some [.v (.slice a n c)]:=nr rfl
theorem zWf (a:Option Addr):Value.oneCell' (.pointer a)=true:=nr rfl
theorem zBm (a:Option Addr):dY (.v (.pointer a))=some [.v (.pointer a)]:=nr rfl
theorem zBr (cs:List HV):dY (.agg cs)=some cs:=nr rfl
theorem zBq (fr:Bool) (xs:List (List FV)):dY (.lst fr xs)=some [.lst fr xs]:=nr rfl
theorem zBp (i:Nat):dY (.own i)=some [.own i]:=nr rfl
theorem zBo (i s j k:Nat):dY (.ptr i s j k)=some [.ptr i s j k]:=nr rfl
theorem zGe {α:Type} (l:List α) (k:Nat) (cs:List α):splice l k cs=l.take k ++ cs ++ l.drop (k + cs.length):=nr rfl
theorem zEt (e:aT) (s:aC) (p:Nat→Bool):HS.kill ⟨e,s⟩ p=⟨jN p e,dN p s⟩:=nr rfl
theorem zNq (e:aT) (s:aC) (id:Nat) (r:Row):HS.row ⟨e,s⟩ id r=⟨e,(id,r) :: s⟩:=nr rfl
theorem zNj (e:aT) (s:aC) (k:Nat) (h:HV):HS.set ⟨e,s⟩ (some k) h=⟨(k,h) :: e,s⟩:=nr rfl
theorem zNk (S:HS) (h:HV):HS.set S none h=S:=nr rfl
theorem zNw (e:aT) (s:aC) (d:Nat) (h:HV):HS.rep ⟨e,s⟩ d h=⟨vX d h e,s⟩:=nr rfl
theorem qVi (d:Nat) (h:HV):vX d h []=[]:=nr rfl
theorem qPl (d:Nat) (h:HV) (k:Nat) (x:HV) (r:aT):vX d h ((k,x) :: r)=if k=d then (k,h) :: r else (k,x) :: vX d h r:=nr rfl
theorem wR (p:Nat→Bool):jN p []=[]:=nr rfl
theorem sC (p:Nat→Bool) (k:Nat) (h:HV) (r:aT):jN p ((k,h) :: r)=(k,h.kill p) :: jN p r:=nr rfl
theorem vC (p:Nat→Bool):dN p []=[]:=nr rfl
theorem rG (p:Nat→Bool) (k:Nat) (h:Row) (r:aC):dN p ((k,h) :: r)=bif p k then dN p r else (k,h.kill p) :: dN p r:=nr rfl
theorem qAk (p:Nat→Bool) (nw:Bool) (t s:Nat) (xs:List (List FV)):(Row.sl nw t s xs).kill p=.sl nw t s xs:=nr rfl
theorem qAl (p:Nat→Bool) (nw:Bool) (t s:Nat) (xs:List (List HV)):(Row.hl nw t s xs).kill p=.hl nw t s (xs.map (List.map (HV.kill p))):=nr rfl
theorem qAm (p:Nat→Bool) (nw:Bool) (t:Nat) (cs:List HV):(Row.bx nw t cs).kill p=.bx nw t (cs.map (HV.kill p)):=nr rfl
def qE1 (p:Nat→Bool) (x:Value):HV.kill p (.v x)=.v x:=by rw [HV.kill]
def qGl (m:Nat→Option Nat) (x:Value):HV.ren m (.v x)=.v x:=by rw [HV.ren]
def qRw (id:Nat) (x0:HV) (x:Value):HV.sub id x0 (.v x)=.v x:=by rw [HV.sub]
def wK (p:Nat→Bool) (fr:Bool) (xs:List (List FV)):HV.kill p (.lst fr xs)=.lst fr xs:=by rw [HV.kill]
def wD (m:Nat→Option Nat) (fr:Bool) (xs:List (List FV)):HV.ren m (.lst fr xs)=.lst fr xs:=by rw [HV.ren]
def qEv (id:Nat) (x0:HV) (fr:Bool) (xs:List (List FV)):HV.sub id x0 (.lst fr xs)=.lst fr xs:=by rw [HV.sub]
def qPn (p:Nat→Bool) (fr:Bool) (xs:List (List FV)) (s j k:Nat):HV.kill p (.elt fr xs s j k)=.elt fr xs s j k:=by rw [HV.kill]
def zQ6 (m:Nat→Option Nat) (fr:Bool) (xs:List (List FV)) (s j k:Nat):HV.ren m (.elt fr xs s j k)=.elt fr xs s j k:=by rw [HV.ren]
def qEw (id:Nat) (x0:HV) (fr:Bool) (xs:List (List FV)) (s j k:Nat):HV.sub id x0 (.elt fr xs s j k)=.elt fr xs s j k:=by rw [HV.sub]
def rV (p:Nat→Bool):HV.kill p .junk=.junk:=by rw [HV.kill]
def wE (m:Nat→Option Nat):HV.ren m .junk=.junk:=by rw [HV.ren]
def qB8 (id:Nat) (x0:HV):HV.sub id x0 .junk=.junk:=by rw [HV.sub]
def wJ (p:Nat→Bool) (i:Nat):HV.kill p (.own i)=bif p i then .junk else .own i:=by rw [HV.kill]
def wH (p:Nat→Bool) (i s j k:Nat):HV.kill p (.ptr i s j k)=bif p i then .junk else .ptr i s j k:=by rw [HV.kill]
def wL (p:Nat→Bool) (cs:List HV):HV.kill p (.agg cs)=.agg (cs.map (HV.kill p)):=by rw [HV.kill]
def wG (p:Nat→Bool) (cs:List HV):HV.kill p (.tup cs)=.tup (cs.map (HV.kill p)):=by rw [HV.kill]
def vZ (m:Nat→Option Nat) (i:Nat):HV.ren m (.own i)=match m i with|some j=>.own j|none=>.junk:=by rw [HV.ren];cases m i <;> rfl
def qAv (m:Nat→Option Nat) (i s j k:Nat):HV.ren m (.ptr i s j k)=match m i with|some i'=>.ptr i' s j k|none=>.junk:=by rw [HV.ren];cases m i <;> rfl
def wF (m:Nat→Option Nat) (cs:List HV):HV.ren m (.agg cs)=.agg (cs.map (HV.ren m)):=by rw [HV.ren]
def vY (m:Nat→Option Nat) (cs:List HV):HV.ren m (.tup cs)=.tup (cs.map (HV.ren m)):=by rw [HV.ren]
def qEu (id:Nat) (x0:HV) (i:Nat):HV.sub id x0 (.own i)=if i=id then x0 else .own i:=by rw [HV.sub]
def qEt (id:Nat) (x0:HV) (i s j k:Nat):HV.sub id x0 (.ptr i s j k)=if i=id then .junk else .ptr i s j k:=by rw [HV.sub]
def qEx (id:Nat) (x0:HV) (cs:List HV):HV.sub id x0 (.agg cs)=.agg (cs.map (HV.sub id x0)):=by rw [HV.sub]
def qEs (id:Nat) (x0:HV) (cs:List HV):HV.sub id x0 (.tup cs)=.tup (cs.map (HV.sub id x0)):=by rw [HV.sub]
theorem qBr (m:Nat→Option Nat) (nw:Bool) (t s:Nat) (xs:List (List FV)):(Row.sl nw t s xs).ren m=.sl nw t s xs:=nr rfl
theorem qBs (m:Nat→Option Nat) (nw:Bool) (t s:Nat) (xs:List (List HV)):(Row.hl nw t s xs).ren m=.hl nw t s (xs.map (List.map (HV.ren m))):=nr rfl
theorem qBt (m:Nat→Option Nat) (nw:Bool) (t:Nat) (cs:List HV):(Row.bx nw t cs).ren m=.bx nw t (cs.map (HV.ren m)):=nr rfl
theorem qJe (id:Nat) (x0:HV) (nw:Bool) (t s:Nat) (xs:List (List FV)):(Row.sl nw t s xs).sub id x0=.sl nw t s xs:=nr rfl
theorem qJf (id:Nat) (x0:HV) (nw:Bool) (t s:Nat) (xs:List (List HV)):(Row.hl nw t s xs).sub id x0=.hl nw t s (xs.map (List.map (HV.sub id x0))):=nr rfl
theorem qJg (id:Nat) (x0:HV) (nw:Bool) (t:Nat) (cs:List HV):(Row.bx nw t cs).sub id x0=.bx nw t (cs.map (HV.sub id x0)):=nr rfl
theorem qEh (id i:Nat):only id i=(i == id):=nr rfl
def zSv (n i:Nat):cD n i=(decide (n≤i) && decide (i < n + 8)):=by rw [bAv];simp [cD]
def yFi (n i:Nat):sh n i=bif decide (i < 8) then some (n + i) else none:=by unfold sh;congr 1;rw [bAv];simp
theorem zZq (e:aT) (s:aC) (n:Nat) (st:aC):HS.adds ⟨e,s⟩ n st=⟨jN (cD n) e,qEd n st (dN (cD n) s)⟩:=nr rfl
theorem zG3 (n:Nat) (b:aC):qEd n [] b=b:=nr rfl
theorem qYo (n k:Nat) (r:Row) (t b:aC):qEd n ((k,r) :: t) b=(n + k,r.ren (sh n)) :: qEd n t b:=nr rfl
theorem qJh (e:aT) (s:aC) (id:Nat) (x:HV):HS.rest ⟨e,s⟩ id x=⟨qWd id x e,qJ9 id x s⟩:=nr rfl
theorem qFa (id:Nat) (x:HV):qWd id x []=[]:=nr rfl
theorem qCd (id:Nat) (x:HV) (k:Nat) (h:HV) (r:aT):qWd id x ((k,h) :: r)=(k,HV.sub id x h) :: qWd id x r:=nr rfl
theorem qD7 (id:Nat) (x:HV):qJ9 id x []=[]:=nr rfl
theorem qBn (id:Nat) (x:HV) (k:Nat) (h:Row) (r:aC):qJ9 id x ((k,h) :: r)=if k=id then qJ9 id x r else (k,h.sub id x) :: qJ9 id x r:=nr rfl
theorem pC (id:Nat) (r:Row):iC id r []=[]:=nr rfl
theorem mL (id:Nat) (r:Row) (k:Nat) (s:Row) (t:aC):iC id r ((k,s) :: t)=if k=id then (k,r) :: t else (k,s) :: iC id r t:=nr rfl
theorem zXx (l:aT) (ds:List (Option Nat)):hG l ds none=.yes:=nr rfl
theorem zXw (l:aT) (ds:List (Option Nat)) (j:Nat) (want:Bool):hG l ds (some (j,want))=match ds[j]? with|some (some d)=>hGv d want (hlk l d)|_=>.bad:=nr rfl
theorem zR2 (d:Nat) (want b:Bool):hGv d want (some (.v (.bool b)))=.ask d b want:=nr rfl
theorem zXv (d:Nat) (want:Bool) (vs:Array Value):hGv d want (some (.v (.tuple vs)))=.no:=nr rfl
theorem yCl (P:Program) (d:Option Nat) (S:HS) (K:HS→Prop) (c:Prop) (h:HV) (S':HS):qBg P d S K (.go c h S')=(c∧K (S'.set d h)):=nr rfl
theorem zRg (P:Program) (d:Option Nat) (S:HS) (K:HS→Prop) (f:FuncId) (args:List HV):qBg P d S K (.call f args)=HAt P f args S (fun h S'=>iJ K (S'.set d h)):=nr rfl
theorem zXq (P:Program) (d:Option Nat) (S:HS) (K:HS→Prop) (t:TypeId) (x y:List Value) (neg:Bool):qBg P d S K (.eqn t x y neg)=∃ r,EqR P t x.toArray y.toArray r∧iJ K (S.set d (.v (.bool (neg ^^ r)))):=nr rfl
theorem zKt (P:Program) (d:Option Nat) (S:HS) (K:HS→Prop) (ok:Bool) (s:Ba):qBg P d S K (.bytes ok s)=(cE (ok=true∧s.size≤9223372036854775807)∧K (S.set d (.lst true (gM s)))):=nr rfl
theorem yCm (P:Program) (N:Nat) (o:Oper) (S:HS) (K:HS→Prop):HGo P N o S K=zMt P N o (nT S o.op) K:=nr rfl
theorem zXr (P:Program) (N:Nat) (o:Oper) (S:HS) (K:HS→Prop):zMt P N o S K=match eJ N o.dst with|true=>qBg P o.dst S K (hop P S (rU o.dst) o.op)|false=>False:=nr rfl
theorem zKj (S:HS) (x:Operand):nT S (.move x)=S:=nr rfl
theorem qVk (S:HS) (x:Operand):nT S (.assign x)=S:=nr rfl
theorem zKh (S:HS) (c a b:Operand):nT S (.pick c a b)=S:=nr rfl
theorem qRx (S:HS) (x:Operand) (i:Nat):nT S (.extract x i)=S:=nr rfl
theorem zA1 (S:HS) (t:TypeId) (x:Operand) (f:Nat):nT S (.field t x f)=S:=nr rfl
theorem zA2 (S:HS) (t:TypeId) (x:Operand) (f:Nat):nT S (.fieldAddr t x f)=S:=nr rfl
theorem zKi (S:HS) (x:Operand):nT S (.nilCheck x)=S:=nr rfl
theorem zA0 (S:HS) (t:TypeId) (x i:Operand):nT S (.indexAddr t x i)=S:=nr rfl
theorem zAy (S:HS) (t:TypeId) (x:Operand) (l h m:Option Operand):nT S (.slice t x l h m)=S:=nr rfl
theorem zKl (S:HS) (t:TypeId) (x:Operand):nT S (.load t x)=S:=nr rfl
theorem zA3 (S:HS) (t:TypeId) (ps:Array (Nat × Operand)):nT S (.build t ps)=S:=nr rfl
theorem zQ8 (S:HS) (b:BinOp) (t:TypeId) (x y:Operand) (u:TypeId):nT S (.binOp b t x y u)=S:=nr rfl
theorem zXj (S:HS) (u:UnOp) (t:TypeId) (x:Operand):nT S (.unOp u t x)=S:=nr rfl
theorem zKm (S:HS) (s d:TypeId) (x:Operand):nT S (.convert s d x)=S:=nr rfl
theorem zAz (S:HS) (t:TypeId) (x i:Operand):nT S (.index t x i)=S:=nr rfl
theorem zKn (S:HS) (c:Call):nT S (.call c)=S:=nr rfl
theorem zA4 (S:HS) (t:TypeId):nT S (.alloc t)=S:=nr rfl
theorem zQ7 (S:HS) (t:TypeId) (x:Operand):nT S (.box t x)=S:=nr rfl
theorem zKk (S:HS) (t:TypeId) (x y:Operand):nT S (.makeSlice t x y)=S:=nr rfl
theorem zAx (S:HS) (t:TypeId) (x y:Operand):nT S (.store t x y)=restAll S (zPl S (hev S.env x) (hev S.env y)):=nr rfl
theorem qVj (S:HS) (t n:TypeId) (ps:Array (Nat × Operand)):nT S (.buildSlice t n ps)=restAll S (zPq (jV S.env ps.toList)):=nr rfl
theorem zPk (S:HS) (id sz i k:Nat) (h:HV):zPl S (some (.ptr id sz i k)) (some h)=qUn S h (rlk S.st id):=nr rfl
theorem zPm (S:HS) (h:HV) (nw:Bool) (ty s:Nat) (els:List (List FV)):qUn S h (some (.sl nw ty s els))=uL h:=nr rfl
theorem zPo (S:HS) (h:HV) (nw:Bool) (ty:Nat) (cs:List HV):qUn S h (some (.bx nw ty cs))=[]:=nr rfl
theorem zPp (ps:List (Nat × HV)):zPq (some ps)=ps.flatMap fun p=>uL p.2:=nr rfl
theorem qZf (i:Nat):uL (.own i)=[i]:=nr rfl
theorem zPr (x:Value):uL (.v x)=[]:=nr rfl
theorem qZg (fr:Bool) (xs:List (List FV)):uL (.lst fr xs)=[]:=nr rfl
theorem qZh (cs:List HV):uL (.agg cs)=cs.flatMap qB0:=nr rfl
theorem qUp (i:Nat):qB0 (.own i)=[i]:=nr rfl
theorem zHj (x:Value):qB0 (.v x)=[]:=nr rfl
theorem qUq (fr:Bool) (xs:List (List FV)):qB0 (.lst fr xs)=[]:=nr rfl
theorem qTu (S:HS):restAll S []=S:=nr rfl
theorem qQ5 (S:HS) (i:Nat) (r:List Nat):restAll S (i :: r)=restAll (qD9 S i) r:=nr rfl
def qYk (e:aT) (s:aC) (i:Nat):qD9 ⟨e,s⟩ i=match decide (i < 1000000) with|true=>(match rlk s i with|some (.sl nw _ _ els)=>HS.rest ⟨e,s⟩ i (.lst nw els)|_=>⟨e,s⟩)|false=>⟨e,s⟩:=by unfold qD9;rw [show Nat.blt i held=decide (i < 1000000) by rw [bAv];simp [bCt,held]];rfl
theorem zPn (S:HS) (h:HV) (nw:Bool) (ty s:Nat) (els:List (List HV)):qUn S h (some (.hl nw ty s els))=[]:=nr rfl
theorem zQ5 (N:Nat) (d:Option Nat) (S:HS) (K:HS→Prop):lN N d S K=match eJ N d with|true=>K (S.set d (.v undef))|false=>False:=nr rfl
theorem zKc (P:Program) (N:Nat) (o:Oper) (S:HS) (K:HS→Prop):qH0 P N o S K .yes=HGo P N o S K:=nr rfl
theorem zQ4 (P:Program) (N:Nat) (o:Oper) (S:HS) (K:HS→Prop):qH0 P N o S K .no=lN N o.dst S K:=nr rfl
theorem zKd (P:Program) (N:Nat) (o:Oper) (S:HS) (K:HS→Prop) (d:Nat) (b want:Bool):qH0 P N o S K (.ask d b want)=match b == want with|true=>HGo P N o (S.rep d (.v (.bool want))) K|false=>lN N o.dst (S.rep d (.v (.bool (!want)))) K:=nr rfl
theorem zXh (P:Program) (N:Nat) (ds:List (Option Nat)) (K:HS→Prop) (S:HS):HV2 P N ds K [] S=K S:=nr rfl
theorem zQ3 (P:Program) (N:Nat) (ds:List (Option Nat)) (K:HS→Prop) (o:Oper) (rest:List Oper) (S:HS):HV2 P N ds K (o :: rest) S=qH0 P N o S (HV2 P N ds K rest) (hG S.env ds o.guard):=nr rfl
theorem zXo (P:Program) (o:Oper) (S:HS) (K:HS→Prop) (c:Prop) (h:HV) (S':HS):qFo P o S K (.go c h S')=(eF o.op=true∧c∧K (S.set o.dst h)):=nr rfl
theorem zKs (P:Program) (o:Oper) (S:HS) (K:HS→Prop) (f:FuncId) (args:List HV):qFo P o S K (.call f args)=yEo P f args S (fun x=>iJ K (S.set o.dst (.v x))):=nr rfl
theorem zRf (P:Program) (o:Oper) (S:HS) (K:HS→Prop) (t:TypeId) (x y:List Value) (neg:Bool):qFo P o S K (.eqn t x y neg)=∃ r,EqR P t x.toArray y.toArray r∧iJ K (S.set o.dst (.v (.bool (neg ^^ r)))):=nr rfl
theorem zXp (P:Program) (N:Nat) (o:Oper) (S:HS) (K:HS→Prop):qXc P N o S K=match eJ N o.dst with|true=>qFo P o S K (hop P S (rU o.dst) o.op)|false=>False:=nr rfl
theorem zAv (P:Program) (N:Nat) (o:Oper) (S:HS) (K:HS→Prop):qG3 P N o S K .yes=qXc P N o S K:=nr rfl
theorem zKb (P:Program) (N:Nat) (o:Oper) (S:HS) (K:HS→Prop):qG3 P N o S K .no=lN N o.dst S K:=nr rfl
theorem zAw (P:Program) (N:Nat) (o:Oper) (S:HS) (K:HS→Prop) (d:Nat) (b want:Bool):qG3 P N o S K (.ask d b want)=match b == want with|true=>qXc P N o (S.rep d (.v (.bool want))) K|false=>lN N o.dst (S.rep d (.v (.bool (!want)))) K:=nr rfl
theorem zXc (P:Program) (N:Nat) (ds:List (Option Nat)) (K:HS→Prop) (S:HS):HVq P N ds K [] S=K S:=nr rfl
theorem zQ1 (P:Program) (N:Nat) (ds:List (Option Nat)) (K:HS→Prop) (o:Oper) (rest:List Oper) (S:HS):HVq P N ds K (o :: rest) S=qG3 P N o S (HVq P N ds K rest) (hG S.env ds o.guard):=nr rfl
theorem zGk (t:Nat):cM (.tmp t)=[t]:=nr rfl
theorem qTk (v:Value):cM (.const v)=[]:=nr rfl
theorem qQ0 (g:Nat):cM (.global g)=[]:=nr rfl
theorem qX9 (f:FuncId):cM (.func f)=[]:=nr rfl
theorem qX8  : xC []=[]:=nr rfl
theorem qTj (x:Operand) (r:List Operand):xC (x :: r)=cM x ++ xC r:=nr rfl
theorem qX6  : pT []=[]:=nr rfl
theorem qTg (k:Nat) (x:Operand) (r:List (Nat × Operand)):pT ((k,x) :: r)=cM x ++ pT r:=nr rfl
theorem qYa (x:Operand):qHd (some x)=cM x:=nr rfl
theorem qYb  : qHd none=[]:=nr rfl
theorem qQv (x:Operand):cH (.move x)=cM x:=nr rfl
theorem qKf (x:Operand):cH (.assign x)=cM x:=nr rfl
theorem qQu (x:Operand):cH (.nilCheck x)=cM x:=nr rfl
theorem qQt (c a b:Operand):cH (.pick c a b)=cM c ++ (cM a ++ cM b):=nr rfl
theorem qH4 (x:Operand) (i:Nat):cH (.extract x i)=cM x:=nr rfl
theorem qM3 (t:TypeId) (x:Operand) (f:Nat):cH (.field t x f)=cM x:=nr rfl
theorem qM4 (t:TypeId) (x:Operand) (f:Nat):cH (.fieldAddr t x f)=cM x:=nr rfl
theorem qQw (t:TypeId) (x:Operand):cH (.load t x)=cM x:=nr rfl
theorem qX7 (u:UnOp) (t:TypeId) (x:Operand):cH (.unOp u t x)=cM x:=nr rfl
theorem qQx (s d:TypeId) (x:Operand):cH (.convert s d x)=cM x:=nr rfl
theorem qM2 (t:TypeId) (x i:Operand):cH (.indexAddr t x i)=cM x ++ cM i:=nr rfl
theorem qM1 (t:TypeId) (x i:Operand):cH (.index t x i)=cM x ++ cM i:=nr rfl
theorem qMz (t:TypeId) (x:Operand) (l h:Option Operand):cH (.slice t x l h none)=cM x ++ (qHd l ++ qHd h):=nr rfl
theorem qTi (b:BinOp) (t:TypeId) (x y:Operand) (u:TypeId):cH (.binOp b t x y u)=cM x ++ cM y:=nr rfl
theorem qM5 (t:TypeId) (ps:Array (Nat × Operand)):cH (.build t ps)=pT ps.toList:=nr rfl
theorem qAj (t:TypeId) (n:Nat) (ps:Array (Nat × Operand)):cH (.buildSlice t n ps)=pT ps.toList:=nr rfl
theorem qM0 (t:TypeId) (x y:Operand):cH (.makeSlice t x y)=cM x ++ cM y:=nr rfl
theorem qQy (k:Callee) (args:Array Operand) (ats:Array TypeId):cH (.call ⟨k,args,ats⟩)=qKi k ++ xC args.toList:=nr rfl
theorem qQz (x:Operand):qKi (.value x)=cM x:=nr rfl
theorem qKh (b:Builtin):qKi (.builtin b)=[]:=nr rfl
theorem qYd (ds:List (Option Nat)):iV ds none=[]:=nr rfl
theorem qYc (ds:List (Option Nat)) (g:Nat) (b:Bool):iV ds (some (g,b))=match ds[g]? with|some (some d)=>[d]|_=>[]:=nr rfl
theorem zHf (e:aT):lG e []=[]:=nr rfl
theorem qY7 (e:aT) (t:Nat) (r:List Nat):lG e (t :: r)=match hlk e t with|some h=>(t,h) :: lG e r|none=>lG e r:=nr rfl
theorem qY4  : oG []=true:=nr rfl
theorem zPe (k:Nat) (v:Value) (r:aT):oG ((k,.v v) :: r)=oG r:=nr rfl
theorem qY5 (k:Nat) (b:Bool) (xs:List (List FV)) (r:aT):oG ((k,.lst b xs) :: r)=oG r:=nr rfl
theorem qY6 (k:Nat) (hs:List HV) (r:aT):oG ((k,.agg hs) :: r)=oG r:=nr rfl
theorem zRc (d:Option Nat) (S:HS) (K:HS→Prop) (c:Prop) (i:Nat) (S':HS):zFn d S K (.go c (.own i) S')=match rlk S'.st i with|some (.sl _ _ _ els)=>c∧K (S.set d (.lst true els))|_=>False:=nr rfl
theorem qUz (t:TypeId) (n:Nat) (ps:Array (Nat × Operand)):zWr (.buildSlice t n ps)=true:=nr rfl
theorem qZv (t:TypeId) (x y:Operand):zWr (.makeSlice t x y)=true:=nr rfl
theorem qQ6 (t:TypeId) (n:Nat) (ps:Array (Nat × Operand)):eF (.buildSlice t n ps)=false:=nr rfl
theorem qT1 (t:TypeId) (x y:Operand):eF (.makeSlice t x y)=false:=nr rfl
theorem zXm (P:Program) (o:Oper) (S T:HS) (K:HS→Prop) (c:Prop) (h:HV) (S':HS):qCu P o S T K (.go c h S')=match eF o.op with|true=>c∧K (S.set o.dst h)|false=>(match zWr o.op && oG T.env with|true=>zFn o.dst S K (hop P ⟨T.env,[]⟩ (rU o.dst) o.op)|false=>False):=nr rfl
theorem zKr (P:Program) (o:Oper) (S T:HS) (K:HS→Prop) (f:FuncId) (args:List HV):qCu P o S T K (.call f args)=zMu P f args T (fun x=>iJ K (S.set o.dst x)):=nr rfl
theorem zRe (P:Program) (o:Oper) (S T:HS) (K:HS→Prop) (t:TypeId) (x y:List Value) (neg:Bool):qCu P o S T K (.eqn t x y neg)=∃ r,EqR P t x.toArray y.toArray r∧iJ K (S.set o.dst (.v (.bool (neg ^^ r)))):=nr rfl
theorem zXn (P:Program) (N:Nat) (o:Oper) (S T:HS) (K:HS→Prop):zDt P N o S T K=match eJ N o.dst with|true=>qCu P o S T K (hop P T (rU o.dst) o.op)|false=>False:=nr rfl
theorem zAt (P:Program) (N:Nat) (o:Oper) (S T:HS) (K:HS→Prop):kD P N o S T K .yes=zDt P N o S T K:=nr rfl
theorem zKa (P:Program) (N:Nat) (o:Oper) (S T:HS) (K:HS→Prop):kD P N o S T K .no=lN N o.dst S K:=nr rfl
theorem zAu (P:Program) (N:Nat) (o:Oper) (S T:HS) (K:HS→Prop) (d:Nat) (b want:Bool):kD P N o S T K (.ask d b want)=match b == want with|true=>zDt P N o (S.rep d (.v (.bool want))) (T.rep d (.v (.bool want))) K|false=>lN N o.dst (S.rep d (.v (.bool (!want)))) K:=nr rfl
theorem zXb (P:Program) (N:Nat) (ds:List (Option Nat)) (K:HS→Prop) (S:HS):HVr P N ds K [] S=K S:=nr rfl
theorem zQ0 (P:Program) (N:Nat) (ds:List (Option Nat)) (K:HS→Prop) (o:Oper) (rest:List Oper) (S:HS):HVr P N ds K (o :: rest) S=kD P N o S ⟨lG S.env (iV ds o.guard ++ cH o.op),S.st⟩ (HVr P N ds K rest) (hG (lG S.env (iV ds o.guard ++ cH o.op)) ds o.guard):=nr rfl
theorem zJ2 (k:Nat):rU (some k)=8 * k:=nr rfl
theorem zJ3  : rU none=0:=nr rfl
theorem qYr (x:Operand):eF (.move x)=true:=nr rfl
theorem qQ7 (x:Operand):eF (.assign x)=true:=nr rfl
theorem qYp (c a b:Operand):eF (.pick c a b)=true:=nr rfl
theorem qM7 (x:Operand) (i:Nat):eF (.extract x i)=true:=nr rfl
theorem qT4 (t:TypeId) (x:Operand) (f:Nat):eF (.field t x f)=true:=nr rfl
theorem qT5 (t:TypeId) (x:Operand) (f:Nat):eF (.fieldAddr t x f)=true:=nr rfl
theorem qYq (x:Operand):eF (.nilCheck x)=true:=nr rfl
theorem qT3 (t:TypeId) (x i:Operand):eF (.indexAddr t x i)=true:=nr rfl
theorem qT0 (t:TypeId) (x:Operand) (l h m:Option Operand):eF (.slice t x l h m)=true:=nr rfl
theorem qYs (t:TypeId) (x:Operand):eF (.load t x)=true:=nr rfl
theorem qT6 (t:TypeId) (ps:Array (Nat × Operand)):eF (.build t ps)=true:=nr rfl
theorem zG6 (b:BinOp) (t:TypeId) (x y:Operand) (u:TypeId):eF (.binOp b t x y u)=true:=nr rfl
theorem zNy (u:UnOp) (t:TypeId) (x:Operand):eF (.unOp u t x)=true:=nr rfl
theorem qYt (s d:TypeId) (x:Operand):eF (.convert s d x)=true:=nr rfl
theorem qT2 (t:TypeId) (x i:Operand):eF (.index t x i)=true:=nr rfl
theorem zG5 (args:Array Operand) (ats:Array TypeId):eF (.call ⟨.builtin .len,args,ats⟩)=true:=nr rfl
theorem zG4 (args:Array Operand) (ats:Array TypeId):eF (.call ⟨.builtin .min,args,ats⟩)=true:=nr rfl
theorem zMo (k:Nat):nD k []=[]:=nr rfl
theorem zDk (k:Nat) (v:HV) (r:List HV):nD k (v :: r)=(k,v) :: nD (k + 1) r:=nr rfl
theorem zZ (e:aT) (s:aC) (ks ids:List Nat):HS.keep ⟨e,s⟩ ks ids=⟨wN ks e,yX ids s⟩:=nr rfl
theorem zR (l:aT):wN [] l=[]:=nr rfl
theorem zP (k:Nat) (r:List Nat) (l:aT):wN (k :: r) l=match hlk l k with|some v=>(k,v) :: wN r l|none=>wN r l:=nr rfl
theorem zQ (l:aC):yX [] l=[]:=nr rfl
theorem zN (k:Nat) (r:List Nat) (l:aC):yX (k :: r) l=match rlk l k with|some v=>(k,v) :: yX r l|none=>yX r l:=nr rfl
theorem yA (P:Program) (rs:List ResultVar) (Q:HV→aC→Prop) (S:HS):zEz P rs Q .normal S=mB P S rs fun hs=>qBf S (qF hs) Q:=nr rfl
theorem yM (P:Program) (rs:List ResultVar) (Q:HV→aC→Prop) (S:HS):zEz P rs Q .ret S=mB P S rs fun hs=>qBf S (qF hs) Q:=nr rfl
theorem yH (P:Program) (S:HS) (K:List HV→Prop):mB P S [] K=K []:=nr rfl
theorem oE (P:Program) (S:HS) (p ty:Nat) (r:List ResultVar) (K:List HV→Prop):mB P S (.cell p ty :: r) K=yA7 (tW S (bU P ty) (hlk S.env p)) fun h=>mB P S r fun hs=>K (h :: hs):=nr rfl
theorem xF (c:Prop) (h:HV) (S:HS) (K:HV→Prop):yA7 (.go c h S) K=(c∧K h):=nr rfl
theorem yE (P:Program) (S:HS) (t:Nat) (r:List ResultVar) (K:List HV→Prop):mB P S (.tmp t :: r) K=match hlk S.env t with|some h=>mB P S r fun hs=>K (h :: hs)|none=>False:=nr rfl
theorem yK (h:HV):qF [h]=h:=nr rfl
theorem yJ (a b:HV) (r:List HV):qF (a :: b :: r)=.tup (a :: b :: r):=nr rfl
theorem zV3 (i:Nat):pos [] i=none:=nr rfl
theorem yF (k:Nat) (r:List Nat) (i:Nat):pos (k :: r) i=if k=i then some 0 else (pos r i).map (· + 1):=nr rfl
theorem zGo (m:Nat→Option Nat) (st:aC) (k:Nat):gD m st k []=[]:=nr rfl
theorem yG (m:Nat→Option Nat) (st:aC) (k id:Nat) (r:List Nat):gD m st k (id :: r)=match rlk st id with|some row=>(k,row.ren m) :: gD m st (k + 1) r|none=>gD m st (k + 1) r:=nr rfl
def yC0 (x:Value):(FV.v x).old=.v x:=by rw [FV.old]
def zSe (fr:Bool) (xs:List (List FV)):(FV.lst fr xs).old=.lst false (mD xs):=by rw [FV.old];rfl
def zDc {p:Prop} (h:p):cE p=True:=bEe h
theorem zL6:cE True=True:=rfl
def ltT {a b:Int} (h:a < b):decide (a < b)=true:=i7 h
def ltF {a b:Int} (h:b≤a):decide (a < b)=false:=b9 (by omega)
def leT {a b:Int} (h:a≤b):decide (a≤b)=true:=i7 h
def leF {a b:Int} (h:b < a):decide (a≤b)=false:=b9 (by omega)
def eqT {a b:Int} (h:a=b):decide (a=b)=true:=i7 h
def eqF {a b:Int} (h:a < b∨b < a):decide (a=b)=false:=b9 (by omega)
def zX4 {α:Type} {l:List α} {i:Nat} {d:α} (h:i < l.length):l.getD i d=l[i]:=eU h
def fQ {α β:Type} {f:α→β} {l:List α} {i:Nat} {d:β} (h:i < l.length):(l.map f).getD i d=f (l[i]):=by rw [zX4 (by simpa using h),d9]
theorem zCx:(default:FV)=.v (.bool false):=rfl
def qD0 {x:Int} (h1:-9223372036854775808≤x) (h2:x≤9223372036854775807):IntKind.i64.wrap x=x:=yAa ⟨by unfold yB4;exact h1,by unfold yCk;exact h2⟩
def zTt {P:Program} {N:Nat} {x:Code} {Q:dP} {S:HS} (k:Nat) {fr:Bool} {xs:List (List FV)} (hk:hlk S.env k=some (.lst fr xs)) (h:xs.length≤9223372036854775807→HW P N x Q S):HW P N x Q S:=fun c l w I=>by
 refine h ?_ c l w I;obtain ⟨ρ,ys,G⟩:=I;obtain ⟨v,-,h2⟩:=G.env k _ hk
 have h3:=qTx h2
 cases h3 with
|lst sz vals hn hc hm hnil hsz ha h1 hr=>simp only [maxLen] at hm;omega
def qXj (n:Nat):((n:Int) + 1).toNat=n + 1:=by omega
def zF0 (n m:Nat):((n:Int) + (m:Int)).toNat=n + m:=by omega
def qC {α:Type} {f:α→List FV} {sz:Nat} (l:List α) (h:∀ a,(f a).length=sz):Wid sz (l.map f):=fun x hx=>by
 obtain ⟨a,-,rfl⟩:=m6.1 hx;exact h a
def uJ (s:Ba):List FV:=[.v (.string s)]
def aR (a:List Ba):List (List FV):=a.map uJ
def qRv (n:Int):List FV:=[.v (.int .i64 n)]
def fN (a:List Int):List (List FV):=a.map qRv
def zQt (r:Int × Int):List FV:=[.v (.int .i64 r.1),.v (.int .i64 r.2)]
def mT (a:List (Int × Int)):List (List FV):=a.map zQt
def aJ (a:List Ba):(aR a).length=a.length:=by simp [aR]
def dJ (a:List Int):(fN a).length=a.length:=by simp [fN]
def oK (a:List (Int × Int)):(mT a).length=a.length:=by simp [mT]
def bK (a:List Ba):Wid 1 (aR a)=True:=bEe (qC a fun _=>rfl)
def eW (a:List Int):Wid 1 (fN a)=True:=bEe (qC a fun _=>rfl)
def qV (a:List (Int × Int)):Wid 2 (mT a)=True:=bEe (qC a fun _=>rfl)
def dM {a:List Ba} {i:Nat} {d:List FV} (h:i < a.length):(aR a).getD i d=[.v (.string a[i])]:=by unfold aR;rw [fQ h];rfl
def eX {a:List Int} {i:Nat} {d:List FV} (h:i < a.length):(fN a).getD i d=[.v (.int .i64 a[i])]:=by unfold fN;rw [fQ h];rfl
def qGg {a:List (Int × Int)} {i:Nat} {d:List FV} (h:i < a.length):(mT a).getD i d=[.v (.int .i64 a[i].1),.v (.int .i64 a[i].2)]:=by unfold mT;rw [fQ h];rfl
def aU (a:List Ba):mD (aR a)=aR a:=by
 unfold mD aR;rw [bAm];apply x7;intro s _;simp [uJ,FV.old]
def zQs (a:List Int):mD (fN a)=fN a:=by
 unfold mD fN;rw [bAm];apply x7;intro s _;simp [qRv,FV.old]
def fB (a:List Ba):∀ x ∈ aR a,∀ f ∈ x,FreshF f:=fun x hx f hf=>by
 obtain ⟨s,-,rfl⟩:=m6.1 hx;simp [uJ] at hf;subst hf;exact .v _
def xT (a:List Int):∀ x ∈ fN a,∀ f ∈ x,FreshF f:=fun x hx f hf=>by
 obtain ⟨s,-,rfl⟩:=m6.1 hx;simp [qRv] at hf;subst hf;exact .v _
def qHn (a:List (Int × Int)):∀ x ∈ mT a,∀ f ∈ x,FreshF f:=fun x hx f hf=>by
 obtain ⟨s,-,rfl⟩:=m6.1 hx;simp [zQt] at hf;rcases hf with rfl|rfl <;> exact .v _
def fY (a:List Ba) (s:Ba):aR a ++ [[.v (.string s)]]=aR (a ++ [s]):=by simp [aR,uJ]
def vU (a:List Int) (s:Int):fN a ++ [[.v (.int .i64 s)]]=fN (a ++ [s]):=by simp [fN,qRv]
def qLn (a:List (Int × Int)) (x y:Int):mT a ++ [[.v (.int .i64 x),.v (.int .i64 y)]]=mT (a ++ [(x,y)]):=by simp [mT,zQt]
def zNd (a b:List Ba):aR a ++ aR b=aR (a ++ b):=by simp [aR]
def mJ (a:List Ba) (n:Nat):(aR a).take n=aR (a.take n):=by simp [aR,List.map_take]
def nY (a:List Ba) (n:Nat):(aR a).drop n=aR (a.drop n):=by simp [aR,List.map_drop]
def yEf {P:Program} {N:Nat} {x:Code} {Q:dP} {S:HS} (k id ty sz:Nat) (hk:hlk S.env k=some (.v (.slice none 0 0))) (h:HW P N x Q (((S.kill (only id)).row id (.sl true ty sz [])).rep k (.own id))):HW P N x Q S:=fun c l w I=>by
 refine h c l w ?_;obtain ⟨ρ,xs,G⟩:=I
 have G2:=G.new id (.sl true ty sz []) [] (.slice none 0 0) (w':=w) (Below.refl _ _) (fun b hb=>by cases hb) (fun _ _ =>
  ⟨by rw [aK];exact bC6 w 0 ty sz,⟨by simp,fun i k hi=>absurd hi (by simp)⟩,fun b hb=>by rw [aK] at hb;cases hb⟩)
 refine ⟨_,_,G2.rows,G2.apart,fun j y hj=>?_,G2.kept,G2.a0⟩
 simp only [HS.rep,qLp] at hj
 by_cases e:j=k
 ·subst e;rw [g8 rfl] at hj
  have h1:hlk ((S.kill (only id)).row id (.sl true ty sz [])).env j=some (.v (.slice none 0 0)):=by
   show hlk (jN (only id) S.env) j=_
   rw [jD,hk];simp [HV.kill]
  rw [h1] at hj;simp only [n8,a6] at hj;subst hj;obtain ⟨v,a,b⟩:=G2.env j _ h1
  have:=bL b
  subst this;refine ⟨_,a,?_⟩
  have:=RepH.own (w:=w) (A:=c.A (fC ρ id (.slice none 0 0)) (((S.kill (only id)).row id (.sl true ty sz [])).rep j (.own id)).st) (n0:=c.n0) (ρ:=fC ρ id (.slice none 0 0)) id (by rw [aK];rfl)
  rw [aK] at this;exact this
 ·rw [b7 e] at hj;exact G2.env j y hj
def pK {P:Program} {f:FuncId} {args:List HV} {x:Value} (h:∀ (w:World) (vs:List Value),pX w (fun _=>False) w.heap.size (fun _=>undef) vs args→Calls P f vs.toArray w (Ret fun r w'=>r=x∧Below w.heap.size w w')):HFun P f args (fun h st=>h=.v x∧st=[]):=fun w vs R =>
 Ret.mono (h w vs R) fun v w' ⟨hv,B⟩=>⟨B,.v x,[],fun i r hi=>by simp [rlk] at hi,⟨rfl,rfl⟩,fun _=>undef,fun _=>[],⟨fun id r hr=>by simp [rlk] at hr,fun i j r s b hne hi=>by simp [rlk] at hi,fun k x hk=>by simp [hlk] at hk,⟨B.os,B.tape,B.output,B.size,fun b hlt _=>B.block b hlt⟩,fun b hb=>⟨hb,fun h=>h⟩⟩,by rw [hv];exact .v x⟩
def aD {st:aC} {fr:Bool} {xs ys:List (List FV)} (h:mD xs=ys):Lend st (.lst fr xs) (.lst false ys):=h ▸ .lst fr xs
def eH {st:aC} {id ty sz:Nat} {nw:Bool} {els ys:List (List FV)} (h:mD els=ys) (hr:rlk st id=some (.sl nw ty sz els)):Lend st (.own id) (.lst false ys):=h ▸ .own hr
def zEq {st:aC} {id ty sz off n:Nat} {nw:Bool} {els ys:List (List FV)} (h:mD ((els.drop off).take n)=ys) (hr:rlk st id=some (.sl nw ty sz els)):Lend st (.vw id sz off n) (.lst false ys):=h ▸ .vw hr
section
variable {S:HS} {Q:HV→aC→Prop}
theorem aQ {a:Value} (q:Q (.v a) []):qBf S (.v a) Q:=⟨[],by simp,rfl,.v _,fun id h=>by simp at h,by rw [HV.ren];exact q⟩
theorem lU {a b:Value} (q:Q (.tup [.v a,.v b]) []):qBf S (.tup [.v a,.v b]) Q :=
 ⟨[],by simp,rfl,.tup fun x hx=>by simp at hx;rcases hx with rfl|rfl <;> exact .v _,fun id h=>by simp at h,by rw [HV.ren];simp only [d8,m4,HV.ren];exact q⟩
theorem eY {a b c:Value} (q:Q (.tup [.v a,.v b,.v c]) []):qBf S (.tup [.v a,.v b,.v c]) Q :=
 ⟨[],by simp,rfl,.tup fun x hx=>by simp at hx;rcases hx with rfl|rfl|rfl <;> exact .v _,fun id h=>by simp at h,by rw [HV.ren];simp only [d8,m4,HV.ren];exact q⟩
theorem iQ {id ty sz:Nat} {els:List (List FV)} (hr:rlk S.st id=some (.sl true ty sz els)) (hf:∀ x ∈ els,∀ f ∈ x,FreshF f) (q:Q (.own 0) [(0,.sl true ty sz els)]):qBf S (.own id) Q :=
 ⟨[id],by simp,by simp [dup],.own _,fun i h r hr'=>by
  simp at h;subst h;rw [hr] at hr';simp only [a6] at hr';subst hr';exact ⟨rfl,hf⟩,by
  rw [HV.ren];simp only [pos,bBm,gD,hr,Row.ren];exact q⟩
theorem gX {id ty sz:Nat} {els:List (List FV)} {b:Value} (hr:rlk S.st id=some (.sl true ty sz els)) (hf:∀ x ∈ els,∀ f ∈ x,FreshF f) (q:Q (.tup [.own 0,.v b]) [(0,.sl true ty sz els)]):qBf S (.tup [.own id,.v b]) Q :=
 ⟨[id],by simp,by simp [dup],.tup fun x hx=>by simp at hx;rcases hx with rfl|rfl <;> first|exact .v _|exact .own _,fun i h r hr'=>by
  simp at h;subst h;rw [hr] at hr';simp only [a6] at hr';subst hr';exact ⟨rfl,hf⟩,by
  rw [HV.ren];simp only [d8,m4,HV.ren,pos,bBm,gD,hr,Row.ren];exact q⟩
end
def zEb {P:Program} {w w':World} {ty sz:Nat} {els:List (List FV)} {v:Value} {l:List Value} (B:Below w.heap.size w w') (h:Own w' w.heap.size ty sz v els.length l) (hw:∀ x ∈ els,x.length=sz)
  (hl:∀ i k (hi:i < els.length) (hk:k < els[i].length),∃ u,l[i * sz + k]?=some u∧u.oneCell'=true∧els[i][k]=.v u) :
  ∃ ρ xs,Good (cx w (fun _=>False) (fun b=>b < w.heap.size)) ⟨[],[(0,.sl true ty sz els)]⟩ (fun _=>none) w' ρ xs∧ρ 0=v:=by
 refine ⟨fun _=>v,fun _=>l,⟨fun id r hr=>?_,fun i j r s b hne hi hj=>?_,fun k x hk=>by simp [hlk] at hk,⟨B.os,B.tape,B.output,B.size,fun b hlt _=>B.block b hlt⟩,fun b hb=>⟨hb,fun h=>h⟩⟩,rfl⟩
 ·simp only [rlk] at hr;split at hr
  ·simp only [a6] at hr;subst hr;refine ⟨⟨h.1,h.2.imp _root_.id fun ⟨g,cap,cur,a,b,d⟩=>⟨g,cap,cur,a,g7 _,d⟩⟩,⟨hw,fun i k hi hk=>?_⟩,fun b hb=>⟨.inl (h.lt b hb).1,fun _=>(h.lt b hb).1⟩⟩
   obtain ⟨u,a,b,e⟩:=hl i k hi hk;exact ⟨u,a,b,by rw [e];exact .v u⟩
  ·cases hr
 ·simp only [rlk] at hi hj;split at hi
  ·split at hj
   ·omega
   ·cases hj
  ·cases hi
theorem zP0 (j:Nat):qF6 [] j=none:=nr rfl
def zHt (k:Nat) (r:List Nat) (j:Nat):qF6 (k :: r) j=if j=0 then some k else qF6 r (j - 1):=by cases j <;> simp [qF6]
def yAz (ids:List Nat) (n j:Nat):sh2 ids n j=match qF6 ids j with|some i=>some i|none=>bif decide (j < 8) then some (n + j) else none:=by
 unfold sh2;split <;> rename_i h <;> rw [h];congr 1;rw [bAv];simp [bCt]
theorem zW6 (i:Nat):inL [] i=false:=nr rfl
theorem zQv (k:Nat) (r:List Nat) (i:Nat):inL (k :: r) i=(k == i || inL r i):=nr rfl
theorem zJn:qZ6 none=true:=nr rfl
theorem zW0 (nw:Bool) (t s:Nat) (xs:List (List FV)):qZ6 (some (.sl nw t s xs))=true:=nr rfl
theorem zW2 (nw:Bool) (t:Nat) (cs:List HV):qZ6 (some (.bx nw t cs))=false:=nr rfl
theorem zW1 (nw:Bool) (t s:Nat) (xs:List (List HV)):qZ6 (some (.hl nw t s xs))=true:=nr rfl
theorem zW4 (nw:Bool) (t s:Nat) (xs:List (List HV)):uP (some (.hl nw t s xs))=False:=nr rfl
theorem zJo:uP none=False:=nr rfl
theorem zW3 (nw:Bool) (t s:Nat) (xs:List (List FV)):uP (some (.sl nw t s xs))=False:=nr rfl
theorem yCc (t:Nat) (cs:List HV):uP (some (.bx true t cs))=False:=nr rfl
theorem yCd (t:Nat) (cs:List HV):uP (some (.bx false t cs))=True:=nr rfl
theorem zFx (ids:List Nat) (st:aC) (n i:Nat):rC ids st n i=(cD n i || (inL ids i && qZ6 (rlk st i))):=nr rfl
theorem zX2 (ids:List Nat) (n i:Nat):qE6 ids n i=(cD n i || inL ids i):=nr rfl
theorem zHp (ids:List Nat) (st:aC) (j:Nat):kZ ids st j=match qF6 ids j with|some i=>rlk st i|none=>none:=nr rfl
theorem zY4 (nw:Bool) (t s:Nat) (xs:List (List FV)):(Row.sl nw t s xs).dark=.sl nw t s xs:=nr rfl
theorem zY6 (nw:Bool) (t:Nat) (cs:List HV):(Row.bx nw t cs).dark=.bx false t cs:=nr rfl
theorem zY5 (nw:Bool) (t s:Nat) (xs:List (List HV)):(Row.hl nw t s xs).dark=.hl nw t s xs:=nr rfl
def zYs (o:Option Row) (nw:Bool) (t s:Nat) (xs:List (List HV)):(Row.hl nw t s xs).flag o=.hl nw t s xs:=by
 cases o with
|none=>rfl
|some o=>cases o <;> rfl
def zSk (r:Row) (nw:Bool) (t s:Nat) (xs:List (List HV)):r.flag (some (.hl nw t s xs))=r:=by cases r <;> rfl
theorem zLs (r:Row):r.flag none=r:=nr rfl
def zYr (o:Option Row) (nw:Bool) (t s:Nat) (xs:List (List FV)):(Row.sl nw t s xs).flag o=.sl nw t s xs:=by
 cases o with
|none=>rfl
|some o=>cases o <;> rfl
theorem zYt (nw n2:Bool) (t t2:Nat) (cs c2:List HV):(Row.bx n2 t2 c2).flag (some (.bx nw t cs))=.bx nw t2 c2:=nr rfl
def zSj (r:Row) (nw:Bool) (t s:Nat) (xs:List (List FV)):r.flag (some (.sl nw t s xs))=r:=by cases r <;> rfl
theorem zL2 (m:Nat→Option Nat) (st:aC) (k:Nat):pQ m st k []=[]:=nr rfl
theorem zDa (m:Nat→Option Nat) (st:aC) (k id:Nat) (r:List Nat):pQ m st k (id :: r)=match rlk st id with|some row=>(k,(row.ren m).dark) :: pQ m st (k + 1) r|none=>pQ m st (k + 1) r:=nr rfl
theorem zUl (S0:aC) (ids:List Nat) (n:Nat) (b:aC):swp S0 ids n [] b=b:=nr rfl
theorem zNc (S0:aC) (ids:List Nat) (n j:Nat) (r:Row) (t b:aC):swp S0 ids n ((j,r) :: t) b=((sh2 ids n j).getD 0,(r.ren (sh2 ids n)).flag (kZ ids S0 j)) :: swp S0 ids n t b:=nr rfl
theorem zUm (e:aT) (s:aC) (ids:List Nat) (n:Nat) (st:aC):HS.swap ⟨e,s⟩ ids n st=⟨jN (rC ids s n) e,swp s ids n st (rJ (qE6 ids n) (rC ids s n) s)⟩:=nr rfl
theorem qYf (g p:Nat→Bool):rJ g p []=[]:=nr rfl
theorem qTl (g p:Nat→Bool) (k:Nat) (h:Row) (r:aC):rJ g p ((k,h) :: r)=bif g k then rJ g p r else (k,h.kill p) :: rJ g p r:=nr rfl
theorem zMk (st:aC) (k:Nat):qHx st k []=True:=nr rfl
theorem yL (st:aC) (k id:Nat) (r:List Nat):qHx st k (id :: r)=((uP (rlk st id)→k=id)∧qHx st (k + 1) r):=nr rfl
theorem zJk (ids:List Nat) (st:aC):rT ids st []=True:=nr rfl
theorem zQo (ids:List Nat) (st:aC) (j:Nat) (nw:Bool) (t s:Nat) (xs:List (List FV)) (r:aC):rT ids st ((j,.sl nw t s xs) :: r)=rT ids st r:=nr rfl
theorem zQp (ids:List Nat) (st:aC) (j:Nat) (nw:Bool) (t s:Nat) (xs:List (List HV)) (r:aC):rT ids st ((j,.hl nw t s xs) :: r)=rT ids st r:=nr rfl
theorem zQq (ids:List Nat) (st:aC) (j:Nat) (t:Nat) (cs:List HV) (r:aC):rT ids st ((j,.bx true t cs) :: r)=rT ids st r:=nr rfl
def zQr (ids:List Nat) (st:aC) (j:Nat) (t:Nat) (cs:List HV) (r:aC):rT ids st ((j,.bx false t cs) :: r)=((qF6 ids j=some j∧uP (rlk st j))∧rT ids st r):=by
 rw [qE];rfl
theorem qC4 (P:Program) (rs:List ResultVar) (st0:aC) (Q:HV→aC→Prop) (S:HS):qRz P rs st0 Q .normal S=mB P S rs fun hs=>qH1 st0 S (qF hs) Q:=rfl
theorem qLr (P:Program) (rs:List ResultVar) (st0:aC) (Q:HV→aC→Prop) (S:HS):qRz P rs st0 Q .ret S=mB P S rs fun hs=>qH1 st0 S (qF hs) Q:=rfl
def yAg (ids:List Nat) {st0:aC} {S:HS} {h:HV} {Q:HV→aC→Prop} (h1:ids.length≤8) (h2:dup ids=false) (h3:qHx S.st 0 ids) (h4:rT ids S.st st0) {h':HV} {st':aC} (h5:h.ren (pos ids)=h') (h6:gD (pos ids) S.st 0 ids=st') (q:Q h' st'):qH1 st0 S h Q :=
 ⟨ids,h1,h2,h3,h4,by rw [h5,h6];exact q⟩
theorem qVg:qF []=.tup []:=nr rfl
section
variable {P:Program} {N:Nat} {x:Code} {Q:dP} {S S':HS}
theorem bR (id k nid ty sz:Nat) {nw:Bool} {bt:Nat} {cells:List HV} (hne:id≠nid) (hr:rlk S.st id=some (.bx nw bt cells)) (hk:cells[k]?=some (.v (.slice none 0 0)))
  (hs:(⟨jN (only nid) S.env,(nid,.sl true ty sz []) :: iC id (.bx nw bt ((cells.map (HV.kill (only nid))).set k (.own nid))) (dN (only nid) S.st)⟩:HS)=S') (h:HW P N x Q S'):HW P N x Q S:=fun c l w I=>by
 subst hs;refine h c l w ?_;obtain ⟨ρ,xs,G⟩:=I
 have G2:=G.new nid (.sl true ty sz []) [] (.slice none 0 0) (w':=w) (Below.refl _ _) (fun b hb=>by cases hb) (fun _ _ =>
  ⟨by rw [aK];exact bC6 w 0 ty sz,⟨by simp,fun i k hi=>absurd hi (by simp)⟩,fun b hb=>by rw [aK] at hb;cases hb⟩)
 have hr2:rlk (dN (only nid) S.st) id=some (.bx nw bt (cells.map (HV.kill (only nid)))):=by rw [eK,iP hne,o7,hr];rfl
 have hl:∀ i,rlk ((nid,Row.sl true ty sz []) :: iC id (.bx nw bt ((cells.map (HV.kill (only nid))).set k (.own nid))) (dN (only nid) S.st)) i =
   if i=id then some (.bx nw bt ((cells.map (HV.kill (only nid))).set k (.own nid))) else rlk ((nid,Row.sl true ty sz []) :: dN (only nid) S.st) i:=fun i=>by
  simp only [rlk]
  by_cases e:nid=i
  ·rw [g8 e,b7 (by omega),g8 e]
  ·rw [b7 e,iD id _ _ _ hr2]
   by_cases e2:i=id
   ·rw [g8 e2,g8 e2]
   ·rw [b7 e2,b7 e2,b7 e]
 have hid:rlk ((nid,Row.sl true ty sz []) :: dN (only nid) S.st) id=some (.bx nw bt (cells.map (HV.kill (only nid)))):=by simp only [rlk];rw [b7 (by omega)];exact hr2
 have hA:∀ b,c.A (fC ρ nid (.slice none 0 0)) ((nid,Row.sl true ty sz []) :: iC id (.bx nw bt ((cells.map (HV.kill (only nid))).set k (.own nid))) (dN (only nid) S.st)) b→c.A (fC ρ nid (.slice none 0 0)) ((nid,Row.sl true ty sz []) :: dN (only nid) S.st) b:=by
  rintro b (h0|⟨i,s,hi,hb⟩)
  ·exact .inl h0
  ·right
   rw [hl] at hi
   by_cases e:i=id
   ·subst e;exact ⟨_,_,hid,hb⟩
   ·rw [b7 e] at hi;exact ⟨i,s,hi,hb⟩
 refine ⟨fC ρ nid (.slice none 0 0),fun i=>if i=nid then [] else xs i,⟨fun i r hi=>?_,fun i j r s b hne hi hj hbi hbj=>?_,fun j y hj=>?_,G2.kept,G2.a0⟩⟩
 ·rw [hl] at hi
  by_cases e:i=id
  ·subst e;rw [g8 rfl] at hi;simp only [a6] at hi;subst hi
   have R:=G2.rows i _ hid
   refine ⟨by simpa [Row.ty,Row.sz,Row.len] using R.own,⟨R.rep.1,fun q hq=>?_⟩,R.new⟩
   have hq':q < (cells.map (HV.kill (only nid))).length:=by simpa using hq
   obtain ⟨u,u1,u2,u3⟩:=R.rep.2 q hq'
   by_cases eq:k=q
   ·subst eq;refine ⟨u,u1,u2,?_⟩;rw [bC3]
    have hc:cells[k]'(by simpa using hq')=.v (.slice none 0 0):=by
     have:=i5.1 hk
     exact this.2
    rw [d9,hc,HV.kill] at u3
    have:=bL u3
    subst this
    have:=RepH.own (w:=w) (A:=c.A (fC ρ nid (.slice none 0 0)) ((nid,Row.sl true ty sz []) :: iC i (.bx nw bt ((cells.map (HV.kill (only nid))).set k (.own nid))) (dN (only nid) S.st))) (n0:=c.n0) (ρ:=fC ρ nid (.slice none 0 0)) nid (by rw [aK];rfl)
    rw [aK] at this;exact this
   ·refine ⟨u,u1,u2,?_⟩;rw [bDi eq];exact u3.up (a7 _) (fun _ _ _=>rfl) (fun b _=>hA b) (a7 _)
  ·rw [b7 e] at hi;exact (G2.rows i r hi).up (a7 _) (fun _ _ _=>rfl) (fun b _=>hA b) (fun _ _=>rfl)
 ·have back:∀ i s,rlk ((nid,Row.sl true ty sz []) :: iC id (.bx nw bt ((cells.map (HV.kill (only nid))).set k (.own nid))) (dN (only nid) S.st)) i=some s→∃ s0,rlk ((nid,Row.sl true ty sz []) :: dN (only nid) S.st) i=some s0:=by
   intro i s hi;rw [hl] at hi
   by_cases e:i=id
   ·subst e;exact ⟨_,hid⟩
   ·rw [b7 e] at hi;exact ⟨s,hi⟩
  obtain ⟨r0,h1⟩:=back i r hi;obtain ⟨s0,h2⟩:=back j s hj;exact G2.apart i j r0 s0 b hne h1 h2 hbi hbj
 ·obtain ⟨v,h1,h2⟩:=G2.env j y hj;exact ⟨v,h1,h2.up (a7 _) (fun _ _ _=>rfl) (fun b _=>hA b) (a7 _)⟩
end
section
variable {P:Program} {N:Nat} {x:Code} {Q:dP} {S:HS} {id:Nat} {R:HS→Prop}
end
def yCh (R:HS→Prop) (Q:dP):dP
|.normal,S=>R S
|e,S=>Q e S
section
variable {P:Program} {N:Nat} {x:Code} {Q:dP} {S:HS} {R:HS→Prop}
theorem zZv {ι:Type} (E:ι→HS) (I:ι→Prop) (ks ids:List Nat) (hx:HW P N x (yCh (fun S'=>∃ j,S'.keep ks ids=E j∧I j) Q) S) (hy:∀ S' j,S'.keep ks ids=E j→I j→Q .normal S'):HW P N x Q S :=
 hx.mono fun e S' h=>by
  cases e with
 |normal=>obtain ⟨j,hE,hI⟩:=h;exact hy S' j hE hI
 |_=>exact h
end
def qCq {P:Program} {N:Nat} {ds:List (Option Nat)} {K:Env→World→Prop}:∀ {ops more:List Oper} {l:Env} {w:World},VC P N ds (fun l w=>VC P N ds K more l w) ops l w→VC P N ds K (ops ++ more) l w
|[],more,l,w,h=>by rw [VC] at h;exact h
|o :: rest,more,l,w,h=>by
  rw [u5];rw [VC] at h ⊢;obtain ⟨b,hb,hd,h⟩:=qLw h
  have conv:∀ {k:Bool→Prop},k b→gd l ds o.guard k:=by
   intro k hkb;unfold gd at hb ⊢;split
   ·rename_i hg;rw [hg] at hb;dsimp only at hb;rw [hb];exact hkb
   ·rename_i j want hg;rw [hg] at hb;dsimp only at hb;split
    ·rename_i d hd';rw [hd'] at hb;dsimp only at hb;split
     ·rename_i b' hb';rw [hb'] at hb;dsimp only at hb;rw [hb];exact hkb
     ·rename_i v hv hb';rw [hb'] at hb
      cases v <;> dsimp only at hb <;> first|(exact (hv _ rfl).elim)|(rw [hb];exact hkb)
     ·rename_i hb';rw [hb'] at hb;exact hb.elim
    ·rename_i hn;split at hb
     ·rename_i d hd';exact (hn d hd').elim
     ·exact hb.elim
  refine conv ⟨hd,?_⟩
  cases b with
 |true=>exact bS h fun v w' hv=>qCq hv
 |false=>exact qCq h
section
variable {P:Program} {N:Nat} {ds:List (Option Nat)} {K:HS→Prop} {S:HS} {Q:dP}
def zDp (P:Program) (N:Nat) (ds:List (Option Nat)) (K:HS→Prop) (ops:List Oper) (S:HS):Prop :=
 ∀ (c:Ctx) (l:Env) (w:World),Inv c S (lk l) w→VC P N ds (fun l w=>∃ S',Inv c S' (lk l) w∧K S') ops l w
theorem zT0 {ops:List Oper} (h:HV2 P N ds K ops S):zDp P N ds K ops S:=fun c l w I=>uX (c:=c) ops S l w h I
theorem zT1 {ops:List Oper} (n:Nat) (ks ids:List Nat) (h:HV2 P N ds (fun S'=>iJ (zDp P N ds K (ops.drop n)) (S'.keep ks ids)) (ops.take n) S):zDp P N ds K ops S:=fun c l w I=>by
 have:=uX (c:=c) (ops.take n) S l w h I
 rw [← x5 n ops];exact qCq (zJ.V.mono this fun l' w' ⟨S',I',q⟩=>(show zDp P N ds K (ops.drop n) (S'.keep ks ids) from q) c l' w' (I'.keep ks ids))
theorem zZt {id:Nat} {ops:List Oper} (h:∀ K:HS→Prop,(∀ S',Q .normal S'→K S')→zDp P N (cJ ops) K ops S):HW P N (.region id ops.toArray false) Q S:=fun c l w I =>
 qA9 fun K hK=>by
  have:=h (Q .normal) (fun _ h=>h) c l w I
  exact (zJ.V.mono this fun l' w' h=>hK l' w' h)
end
def nm (a b:Nat):Nat→Option Nat:=fun i=>if i=a then some b else if i=b then none else some i
def qWe (m:Nat→Option Nat):aT→aT
|[]=>[]
|(k,h) :: r=>(k,h.ren m) :: qWe m r
def qQl (a b:Nat):aC→aC
|[]=>[]
|(k,r) :: t=>(if k=a then b else k,r.ren (nm a b)) :: qQl a b t
def HS.name (S:HS) (a b:Nat):HS:=⟨qWe (nm a b) S.env,qQl a b S.st⟩
def qVl (m:Nat→Option Nat):∀ (l:aT) (k:Nat),hlk (qWe m l) k=(hlk l k).map (HV.ren m)
|[],k=>rfl
|(j,h) :: r,k=>by
  simp only [qWe,hlk];split
  ·rfl
  ·exact qVl m r k
def qTr {a b:Nat} (hab:a≠b):∀ (l:aC) (_:rlk l b=none) (k:Nat),rlk (qQl a b l) k=if k=b then (rlk l a).map (Row.ren (nm a b)) else if k=a then none else (rlk l k).map (Row.ren (nm a b))
|[],_,k=>by simp [qQl,rlk]
|(j,r) :: t,h,k=>by
  simp only [rlk] at h
  by_cases hj:j=b
  ·rw [g8 hj] at h;cases h
  ·rw [b7 hj] at h
   have ih:=qTr hab t h k
   simp only [qQl,rlk]
   by_cases e:j=a
   ·subst e;rw [g8 rfl,g8 rfl]
    by_cases e2:k=b
    ·subst e2;rw [g8 rfl,g8 rfl];rfl
    ·rw [b7 (by omega),ih,b7 e2,b7 e2]
     by_cases e3:k=j
     ·rw [g8 e3,g8 e3]
     ·rw [b7 e3,b7 e3,b7 (by omega)]
   ·rw [b7 e,b7 e]
    by_cases e2:j=k
    ·subst e2;rw [g8 rfl,b7 hj,b7 e,g8 rfl];rfl
    ·rw [b7 e2,ih,b7 e2]
section
variable {P:Program} {N:Nat} {x:Code} {Q:dP} {c:Ctx} {S S':HS} {look:Nat→Option Value} {w:World}
theorem Inv.name (I:Inv c S look w) {a b ty sz:Nat} {nw:Bool} {els:List (List FV)} (hab:a≠b) (hb:rlk S.st b=none) (ha:rlk S.st a=some (.sl nw ty sz els)):Inv c (S.name a b) look w:=by
 obtain ⟨ρ,xs,G⟩:=I
 let ρ':Nat→Value:=fun i=>if i=b then ρ a else ρ i
 let xs':Nat→List Value:=fun i=>if i=b then xs a else xs i
 have hm:∀ i j,nm a b i=some j→ρ' j=ρ i:=fun i j h=>by
  unfold nm at h
  by_cases e:i=a
  ·rw [g8 e] at h;simp only [a6] at h;subst h;subst e;show (if b=b then _ else _)=_;rw [g8 rfl]
  ·rw [b7 e] at h
   by_cases e2:i=b
   ·rw [g8 e2] at h;cases h
   ·rw [b7 e2] at h;simp only [a6] at h;subst h;show (if i=b then _ else _)=_;rw [b7 e2]
 have back:∀ i r,rlk (S.name a b).st i=some r→∃ j r0,nm a b j=some i∧rlk S.st j=some r0∧r=r0.ren (nm a b)∧xs' i=xs j:=by
  intro i r hi;simp only [HS.name,qTr hab _ hb] at hi
  by_cases e:i=b
  ·subst e;rw [g8 rfl,ha] at hi;simp only [n8,a6] at hi;exact ⟨a,_,by simp [nm],ha,hi.symm,by show (if i=i then _ else _)=_;rw [g8 rfl]⟩
  ·rw [b7 e] at hi
   by_cases e2:i=a
   ·rw [g8 e2] at hi;cases hi
   ·rw [b7 e2] at hi
    cases hs:rlk S.st i with
   |none=>rw [hs] at hi;cases hi
   |some r0 =>
     rw [hs] at hi;simp only [n8,a6] at hi;exact ⟨i,r0,by simp [nm,e,e2],hs,hi.symm,by show (if i=b then _ else _)=_;rw [b7 e]⟩
 have hA:∀ g,c.A ρ' (S.name a b).st g→c.A ρ S.st g:=by
  rintro g (h0|⟨i,r,hi,hg⟩)
  ·exact .inl h0
  ·obtain ⟨j,r0,h1,h2,-,-⟩:=back i r hi;rw [hm j i h1] at hg;exact .inr ⟨j,r0,h2,hg⟩
 have tr:∀ v y,RepH w (c.A ρ S.st) c.n0 ρ v y→RepH w (c.A ρ' (S.name a b).st) c.n0 ρ' v (y.ren (nm a b)):=fun v y h=>(h.up (a7 _) (fun _ _ _=>rfl) (fun b _=>hA b) (a7 _)).ren hm
 refine ⟨ρ',xs',fun i r hi=>?_,fun i j r s g hne hi hj hgi hgj=>?_,fun k y hk=>?_,G.kept,G.a0⟩
 ·obtain ⟨j,r0,h1,h2,rfl,h4⟩:=back i r hi
  have R:=G.rows j r0 h2
  obtain ⟨f1,f2,f3,f4⟩:=Row.ren_facts (nm a b) r0;rw [h4];refine ⟨by rw [f1,f2,f3,hm j i h1];exact R.own,?_,fun g hg=>by rw [f4];rw [hm j i h1] at hg;exact R.new g hg⟩
  have rp:=R.rep
  cases r0 with
 |sl nw ty sz els =>
   refine ⟨rp.1,fun p k hp hk=>?_⟩
   obtain ⟨u,u1,u2,u3⟩:=rp.2 p k hp hk;exact ⟨u,u1,u2,u3.up (a7 _) (fun _ _ _=>rfl) (fun b _=>hA b) (a7 _)⟩
 |bx nw ty cells =>
   refine ⟨?_,fun k hk=>?_⟩
   ·have hji:j=i:=by
     unfold nm at h1
     by_cases e:j=a
     ·subst e;rw [ha] at h2;cases h2
     ·rw [b7 e] at h1
      by_cases e2:j=b
      ·rw [g8 e2] at h1;cases h1
      ·rw [b7 e2] at h1;exact q9 h1
    rw [hm j i h1];rw [← hji];exact rp.1
   ·rw [c8] at hk;obtain ⟨u,u1,u2,u3⟩:=rp.2 k hk;refine ⟨u,u1,u2,?_⟩;rw [d9];exact tr _ _ u3
 |hl nw ty sz els =>
   refine ⟨fun y hy=>?_,fun p k hp hk=>?_⟩
   ·obtain ⟨z,hz,rfl⟩:=m6.1 hy;rw [c8];exact rp.1 z hz
   ·simp only [c8] at hp;simp only [d9,c8] at hk ⊢;obtain ⟨u,u1,u2,u3⟩:=rp.2 p k hp hk;exact ⟨u,u1,u2,tr _ _ u3⟩
 ·obtain ⟨i',r0,h1,h2,-,-⟩:=back i r hi;obtain ⟨j',s0,h3,h4,-,-⟩:=back j s hj;rw [hm i' i h1] at hgi;rw [hm j' j h3] at hgj;exact G.apart i' j' r0 s0 g (fun e=>hne (by subst e;rw [h1] at h3;exact q9 h3)) h2 h4 hgi hgj
 ·simp only [HS.name,qVl] at hk
  cases hx0:hlk S.env k with
 |none=>rw [hx0] at hk;cases hk
 |some x0 =>
   rw [hx0] at hk;simp only [n8,a6] at hk;subst hk;obtain ⟨v,h1,h2⟩:=G.env k x0 hx0;exact ⟨v,h1,tr v x0 h2⟩
theorem jQ (a b:Nat) {ty sz:Nat} {nw:Bool} {els:List (List FV)} (hab:a≠b) (hb:rlk S.st b=none) (ha:rlk S.st a=some (.sl nw ty sz els)) (hs:S.name a b=S') (h:HW P N x Q S'):HW P N x Q S:=fun c l w I=>h c l w (hs ▸ I.name hab hb ha)
theorem zTv (id:Nat) {ty sz:Nat} {nw:Bool} {els:List (List FV)} (hr:rlk S.st id=some (.sl nw ty sz els)) (hs:(⟨S.env,iC id (.hl nw ty sz (els.map (List.map FV.h))) S.st⟩:HS)=S') (h:HW P N x Q S'):HW P N x Q S:=fun c l w I=>by
 subst hs;refine h c l w ?_;obtain ⟨ρ,xs,G⟩:=I
 have hl:=iD id (.hl nw ty sz (els.map (List.map FV.h))) S.st _ hr
 have hA:∀ b,c.A ρ (iC id (.hl nw ty sz (els.map (List.map FV.h))) S.st) b→c.A ρ S.st b:=by
  rintro b (h0|⟨i,s,hi,hb⟩)
  ·exact .inl h0
  ·rw [hl] at hi
   by_cases e:i=id
   ·subst e;exact .inr ⟨_,_,hr,hb⟩
   ·rw [b7 e] at hi;exact .inr ⟨i,s,hi,hb⟩
 have back:∀ i r,rlk (iC id (.hl nw ty sz (els.map (List.map FV.h))) S.st) i=some r→∃ r0,rlk S.st i=some r0:=by
  intro i r hi;rw [hl] at hi
  by_cases e:i=id
  ·subst e;exact ⟨_,hr⟩
  ·rw [b7 e] at hi;exact ⟨r,hi⟩
 refine ⟨ρ,xs,fun i r hi=>?_,fun i j r s b hne hi hj=>?_,fun k y hk=>?_,G.kept,G.a0⟩
 ·dsimp only at hi;rw [hl] at hi
  by_cases e:i=id
  ·subst e;rw [g8 rfl] at hi;simp only [a6] at hi;subst hi
   have R:=G.rows i _ hr
   refine ⟨by simpa [Row.ty,Row.sz,Row.len] using R.own,⟨fun y hy=>?_,fun p k hp hk=>?_⟩,R.new⟩
   ·obtain ⟨z,hz,rfl⟩:=m6.1 hy;rw [c8];exact R.rep.1 z hz
   ·simp only [c8] at hp;simp only [d9,c8] at hk ⊢;obtain ⟨u,u1,u2,u3⟩:=R.rep.2 p k hp hk;exact ⟨u,u1,u2,(u3.up (a7 _) (fun _ _ _=>rfl) (fun b _=>hA b) (a7 _)).h⟩
  ·rw [b7 e] at hi;exact (G.rows i r hi).up (a7 _) (fun _ _ _=>rfl) (fun b _=>hA b) (fun _ _=>rfl)
 ·obtain ⟨r0,h1⟩:=back i r hi;obtain ⟨s0,h2⟩:=back j s hj;exact G.apart i j r0 s0 b hne h1 h2
 ·obtain ⟨v,h1,h2⟩:=G.env k y hk;exact ⟨v,h1,h2.up (a7 _) (fun _ _ _=>rfl) (fun b _=>hA b) (a7 _)⟩
def HV.trim (id n:Nat):HV→HV
|.own i=>if i=id then .junk else .own i
|.vw i sz o k=>if i=id then (if o=0∧k=n then .own id else .junk) else .vw i sz o k
|.ptr i sz j k=>if i=id then .junk else .ptr i sz j k
|.agg cs=>.agg (cs.map (trim id n))
|.tup cs=>.tup (cs.map (trim id n))
|.v x=>.v x
|.lst fr xs=>.lst fr xs
|.elt fr xs sz i k=>.elt fr xs sz i k
|.junk=>.junk
def Row.trim (id n:Nat):Row→Row
|.sl nw t s xs=>.sl nw t s xs
|.bx nw t cs=>.bx nw t (cs.map (HV.trim id n))
|.hl nw t s xs=>.hl nw t s (xs.map (List.map (HV.trim id n)))
def qHu (id n:Nat):aT→aT
|[]=>[]
|(k,h) :: r=>(k,h.trim id n) :: qHu id n r
def qD5 (id n:Nat):aC→aC
|[]=>[]
|(k,r) :: t=>(if k=id then (k,match r with|.sl nw t s xs=>.sl nw t s (xs.take n)|r=>r) else (k,r.trim id n)) :: qD5 id n t
def HS.trim (S:HS) (id n:Nat):HS:=⟨qHu id n S.env,qD5 id n S.st⟩
theorem qPm (id n:Nat):∀ (l:aT) (k:Nat),hlk (qHu id n l) k=(hlk l k).map (HV.trim id n)
|[],k=>rfl
|(j,h) :: r,k=>by
  simp only [qHu,hlk];split
  ·rfl
  ·exact qPm id n r k
theorem qN0 (id n:Nat):∀ (l:aC) (k:Nat),rlk (qD5 id n l) k=if k=id then (rlk l k).map (fun r=>match r with|.sl nw t s xs=>.sl nw t s (xs.take n)|r=>r) else (rlk l k).map (Row.trim id n)
|[],k=>by simp [qD5,rlk]
|(j,r) :: t,k=>by
  have ih:=qN0 id n t k
  simp only [qD5]
  by_cases e:j=id
  ·subst e;rw [g8 rfl];simp only [rlk]
   by_cases e2:j=k
   ·subst e2;rw [g8 rfl,g8 rfl,g8 rfl];rfl
   ·rw [b7 e2,b7 e2];exact ih
  ·rw [b7 e];simp only [rlk]
   by_cases e2:j=k
   ·subst e2;rw [g8 rfl,b7 e,g8 rfl];rfl
   ·rw [b7 e2,b7 e2];exact ih
end
theorem qJk (e:aT) (s:aC) (a b:Nat):HS.name ⟨e,s⟩ a b=⟨qWe (nm a b) e,qQl a b s⟩:=rfl
theorem zEl (a b i:Nat):nm a b i=if i=a then some b else if i=b then none else some i:=rfl
theorem qFb (m:Nat→Option Nat):qWe m []=[]:=rfl
theorem qCe (m:Nat→Option Nat) (k:Nat) (h:HV) (r:aT):qWe m ((k,h) :: r)=(k,h.ren m) :: qWe m r:=rfl
theorem qD8 (a b:Nat):qQl a b []=[]:=rfl
theorem qBp (a b k:Nat) (r:Row) (t:aC):qQl a b ((k,r) :: t)=(if k=a then b else k,r.ren (nm a b)) :: qQl a b t:=rfl
theorem qQe (e:aT) (s:aC) (id n:Nat):HS.trim ⟨e,s⟩ id n=⟨qHu id n e,qD5 id n s⟩:=rfl
theorem qGs (id n:Nat):qHu id n []=[]:=rfl
theorem qDo (id n k:Nat) (h:HV) (r:aT):qHu id n ((k,h) :: r)=(k,h.trim id n) :: qHu id n r:=rfl
theorem qFs (id n:Nat):qD5 id n []=[]:=rfl
theorem qC9 (id n k:Nat) (r:Row) (t:aC):qD5 id n ((k,r) :: t)=(if k=id then (k,match r with|.sl nw t s xs=>.sl nw t s (xs.take n)|r=>r) else (k,r.trim id n)) :: qD5 id n t:=rfl
def qJn (id n:Nat) (x:Value):(HV.v x).trim id n=.v x:=by rw [HV.trim]
def qGj (id n:Nat) (fr:Bool) (xs:List (List FV)):(HV.lst fr xs).trim id n=.lst fr xs:=by rw [HV.trim]
def vW (id n i:Nat):(HV.own i).trim id n=if i=id then .junk else .own i:=by rw [HV.trim]
def qEr (id n i sz o k:Nat):(HV.vw i sz o k).trim id n=if i=id then (if o=0∧k=n then .own id else .junk) else .vw i sz o k:=by rw [HV.trim]
def qGi (id n i sz j k:Nat):(HV.ptr i sz j k).trim id n=if i=id then .junk else .ptr i sz j k:=by rw [HV.trim]
def qGh (id n:Nat) (cs:List HV):(HV.tup cs).trim id n=.tup (cs.map (HV.trim id n)):=by rw [HV.trim]
def qGk (id n:Nat) (cs:List HV):(HV.agg cs).trim id n=.agg (cs.map (HV.trim id n)):=by rw [HV.trim]
def qDj (id n:Nat):HV.junk.trim id n=.junk:=by rw [HV.trim]
theorem qKn (id n:Nat) (nw:Bool) (t s:Nat) (xs:List (List FV)):(Row.sl nw t s xs).trim id n=.sl nw t s xs:=rfl
theorem qKp (id n:Nat) (nw:Bool) (t:Nat) (cs:List HV):(Row.bx nw t cs).trim id n=.bx nw t (cs.map (HV.trim id n)):=rfl
theorem qKo (id n:Nat) (nw:Bool) (t s:Nat) (xs:List (List HV)):(Row.hl nw t s xs).trim id n=.hl nw t s (xs.map (List.map (HV.trim id n))):=rfl
end Go.Eng
