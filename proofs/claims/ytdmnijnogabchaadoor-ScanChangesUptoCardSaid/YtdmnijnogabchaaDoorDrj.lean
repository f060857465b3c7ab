/-
  Regions that draw their order: what holds of the heads that have run, whichever they are.
-/
import Derived.Test.YtdmnijnogabchaaDoorGd
set_option linter.unusedSimpArgs false
set_option linter.unusedVariables false
namespace Go.Eng
open Go Go.RowKit
section
variable {P:Program} {N:Nat} {ops:List Oper} {n:Nat} {l:Env} {vs:Nat→Value}
theorem zBl {keys:List Nat} (ok:RegOk keys ops n) (F:Fr N) (hk:bF N l=true) (aV:∀ t ∈ keys,∃ v,lk l t=some v) (hlt:DLt N ops n)
  {J:(Nat→Bool)→(Nat→Value)→World→Prop}
  (H:∀ i o,i < n→ops[i]?=some o→∀ (L:Nat→Bool) (vs:Nat→Value) (w:World),J L vs w→L i=false→(∀ j,dC ops i j=true→L j=true)→(∀ k j,L k=true→dC ops k j=true→L j=true) →
   ∃ b,gd (cH l ops vs i) (bQ ops) o.guard (·=b)∧(b=true→Yields P (execOp (evD (cH l ops vs i)) o) w fun u w'=>J (fun j=>if j=i then true else L j) (fun j=>if j=i then u else vs j) w')∧(b=false→J (fun j=>if j=i then true else L j) (fun j=>if j=i then undef else vs j) w))
  {Q:Exit→Act→World→Prop} (hT:∀ (L:Nat→Bool) (vs:Nat→Value) (w:World),J L vs w→(∀ j,j < n→L j=true)→wpListIn (FW F.ds.2) 0 P ops.toArray Q (ops.drop n) (mk F (cH l ops vs n)) w) :
  ∀ (fuel:Nat) (listed:Array Bool) (a:Act) (w:World) (vs:Nat→Value),unl listed=fuel→Mid N (fun _=>True) ops n (fD F.base l) F.ds.1 vs listed a w→J (fun j=>listed.getD j false) vs w→wpAnyIn (FW F.ds.2) 0 P .any ops.toArray Q fuel listed a w:=by
 have uniq:∀ i j t,i < n→j < n→aG ops i=some t→aG ops j=some t→i=j:=by
  intro i j t hi hj h1 h2
  rcases Nat.lt_trichotomy i j with h|h|h
  ·rcases ok.uniq j i hj h with e|e
   ·rw [h2] at e;cases e
   ·exact absurd (h2.trans h1.symm) e
  ·exact h
  ·rcases ok.uniq i j hi h with e|e
   ·rw [h1] at e;cases e
   ·exact absurd (h1.trans h2.symm) e
 have final:∀ (listed:Array Bool) (a:Act) (w:World) (vs:Nat→Value),Mid N (fun _=>True) ops n (fD F.base l) F.ds.1 vs listed a w→(∀ j,j < n→listed.getD j false=true)→a=mk F (cH l ops vs n):=by
  intro listed a w vs M hall;obtain ⟨tm,df⟩:=a
  have hd:df=F.ds.1:=M.defers
  subst hd;show Act.mk _ _=Act.mk _ _
  congr 1
  apply Array.ext_getElem?
  intro t
  by_cases h:∃ j,j < n∧aG ops j=some t
  ·obtain ⟨j,hj,hd⟩:=h
   have h1:=M.new j t hj (hall j hj) hd
   have h2:=(eP (l:=l) (vs:=vs) hlt F.hN hd (fun k hk hne e=>hne (uniq k j t hk hj e hd)) n (Nat.le_refl _) hj).2
   exact h1.trans h2.symm
  ·have h':∀ j,j < n→aG ops j≠some t:=fun j hj e=>h ⟨j,hj,e⟩
   have h1:=M.old t (fun j hj _=>h' j hj)
   have h2:=(eN (l:=l) (vs:=vs) F.base t n h').2
   exact h1.trans h2.symm
 have slot:∀ (listed:Array Bool) (a:Act) (w:World) (vs:Nat→Value) (i:Nat) (o:Oper) (t:Nat),Mid N (fun _=>True) ops n (fD F.base l) F.ds.1 vs listed a w→i < n→ops[i]?=some o→i ∈ Region.ready .any ops.toArray listed→t ∈ o.looksAt ops.toArray →
   ∃ X,a.tmps[t]?=some X∧lk (cH l ops vs i) t=some X:=by
  intro listed a w vs i o t M hi ho hr ht;obtain ⟨l1,l2⟩:=ok.looks i o t hi ho ht
  by_cases h:∃ j,j < n∧aG ops j=some t
  ·obtain ⟨j,hj,hd⟩:=h;obtain ⟨hji,he⟩:=l1 j hj hd;exact ⟨vs j,M.new j t hj (bX hr he) hd,(eP (l:=l) (vs:=vs) hlt F.hN hd (fun k hk hne e=>hne (uniq k j t hk hj e hd)) i (by omega) hji).1⟩
  ·have h':∀ j,j < n→aG ops j≠some t:=fun j hj e=>h ⟨j,hj,e⟩
   rcases l2 with ⟨j,hj,hd⟩|hkey
   ·exact absurd hd (h' j (by omega))
   ·obtain ⟨v,hv⟩:=aV t hkey;refine ⟨v,?_,?_⟩
    ·rw [M.old t (fun j hj _=>h' j hj)];exact fQ F hk hv
    ·rw [(eN (l:=l) (vs:=vs) F.base t i (fun j hj=>h' j (by omega))).1];exact hv
 intro fuel
 induction fuel with
|zero =>
  intro listed a w vs hu M MR
  have hall:∀ j,j < ops.length→listed.getD j false=true:=fun j hj=>wP hu (by rw [M.size];exact hj)
  have hn:n=ops.length:=by
   rcases Nat.lt_or_ge n ops.length with h|h
   ·have:=M.heads n (hall n h);omega
   ·have:=ok.hn;omega
  have ha:=final listed a w vs M (fun j hj=>hall j (by omega))
  subst ha;exact hZ ok 0 n listed _ w (by omega) (Nat.le_refl _) M.size (fun i hi=>⟨fun _=>by omega,fun _=>hall i hi⟩) (hT _ vs w MR fun j hj=>hall j (by omega))
|succ fuel ih =>
  intro listed a w vs hu M MR
  by_cases hdone:∀ j,j < n→listed.getD j false=true
  ·have ha:=final listed a w vs M hdone
   subst ha
   have hcount:∀ (m:Nat) (x:Array Bool),x.size=ops.length→(∀ i,i < ops.length→(x.getD i false=true↔i < m))→m≤ops.length→m + unl x=ops.length:=by
    intro m;generalize hd:ops.length - m=d
    induction d generalizing m with
   |zero =>
     intro x hx hl hm
     have:unl x=0:=by
      unfold unl;rw [List.length_eq_zero_iff,List.filter_eq_nil_iff];intro b hb;obtain ⟨i,hi,rfl⟩:=List.getElem_of_mem hb
      have hi':i < x.size:=by simpa using hi
      have:=(hl i (by omega)).2 (by omega)
      simp only [Array.getD,hi',dite_true] at this;simp [show x.toList[i]=true from this]
     omega
   |succ d ihd =>
     intro x hx hl hm
     have hmlt:m < ops.length:=by omega
     have h0:x.getD m true=false:=by
      have:¬ x.getD m false=true:=fun e=>by have:=(hl m hmlt).1 e;omega
      have hm':m < x.size:=by omega
      simp only [Array.getD,hm',dite_true] at this ⊢
      simpa using this
     have:=ihd (m + 1) (by omega) (x.setIfInBounds m true) (by simpa using hx) (fun i hi=>by
      by_cases e:m=i
      ·subst e
       have:m < x.size:=by omega
       simp [this]
      ·rw [getD_set_ne false e,hl i hi];omega) (by omega)
     have:=mW h0
     omega
   have hl:∀ i,i < ops.length→(listed.getD i false=true↔i < n):=fun i hi=>⟨M.heads i,hdone i⟩
   have:=hcount n listed M.size hl ok.hn
   exact hZ ok (fuel + 1) n listed _ w (by omega) (Nat.le_refl _) M.size hl (hT _ vs w MR fun j hj=>hdone j hj)
  ·have hex:∃ j,j < n∧listed.getD j false≠true:=by
    refine Classical.byContradiction fun hne=>hdone fun j hj=>?_
    refine Classical.byContradiction fun h=>hne ⟨j,hj,h⟩
   have hn:=ok.hn
   have hready:∃ j,j ∈ Region.ready .any ops.toArray listed:=by
    obtain ⟨j,hj,hjl⟩:=hex
    have:∀ d j,j=d→j < n→listed.getD j false≠true→∃ j,j ∈ Region.ready .any ops.toArray listed:=by
     intro d
     induction d using Nat.strongRecOn with
    |_ d ihd =>
      intro j hd hj hjl;subst hd
      have ho:ops[j]?=some (ops[j]'(by omega)):=List.getElem?_eq_getElem _
      by_cases hall:∀ e ∈ (ops[j]'(by omega)).after,Region.binds .any e=true→listed.getD e.on false=true
      ·refine ⟨j,mem_ready.2 ⟨?_,ops[j]'(by omega),by simp,hall⟩⟩
       have h2:j < listed.size:=by rw [M.size];omega
       simp only [Array.getD,h2,dite_true] at hjl ⊢
       simpa using hjl
      ·have:∃ e ∈ (ops[j]'(by omega)).after,Region.binds .any e=true∧listed.getD e.on false≠true:=by
        refine Classical.byContradiction fun hne=>hall fun e he hb=>?_
        refine Classical.byContradiction fun h=>hne ⟨e,he,hb,h⟩
       obtain ⟨e,he,hb,hl⟩:=this
       have hlt:=ok.down j _ e ho he hb
       exact ihd e.on hlt e.on rfl (by omega) hl
    exact this j j rfl hj hjl
   obtain ⟨j0,hj0⟩:=hready;refine ⟨fun h0=>absurd hj0 (by rw [h0];simp),fun i hi=>?_⟩
   obtain ⟨hun,o,ho,hall⟩:=mem_ready.1 hi
   have ho':ops[i]?=some o:=by simpa using ho
   have hilt:i < ops.length:=(List.getElem?_eq_some_iff.1 ho').1
   have hin:i < n:=by
    rcases Nat.lt_or_ge i n with h|h
    ·exact h
    ·exfalso
     apply hdone
     have key:∀ d j,i - j=d→j < i→listed.getD j false=true:=by
      intro d
      induction d using Nat.strongRecOn with
     |_ d ihd =>
       intro j hd hji;obtain ⟨k,hk1,hk2,hk3⟩:=ok.tail i j hilt h hji
       rcases Nat.lt_or_ge k i with hki|hki
       ·exact M.clos k j (ihd (i - k) (by omega) k rfl hki) hk3
       ·have:k=i:=by omega
        subst this;exact bX hi hk3
     exact fun j hj=>key _ j rfl (by omega)
   have hu':unl (listed.setIfInBounds i true)=fuel:=by have:=mW hun;omega
   have hdi:aG ops i=o.dst:=by unfold aG;rw [ho'];rfl
   have hlt':fG N o.dst:=by
    cases hd:o.dst with
   |none=>trivial
   |some t=>exact hlt i t hin (hdi.trans hd)
   let nxt:Value→Nat→Value:=fun u j=>if j=i then u else vs j
   have nxt_i:∀ u,nxt u i=u:=fun u=>if_pos rfl
   have nxt_ne:∀ u j,j≠i→nxt u j=vs j:=fun u j h=>if_neg h
   have hil:i < listed.size:=by rw [M.size];exact hilt
   have eL:(fun j=>(listed.setIfInBounds i true).getD j false)=fun j=>if j=i then true else listed.getD j false:=by
    funext j
    by_cases e:j=i
    ·subst e;rw [if_pos rfl];simp [hil]
    ·rw [if_neg e,getD_set_ne false (Ne.symm e)]
   have rest:∀ u w',J (fun j=>if j=i then true else listed.getD j false) (nxt u) w'→J (fun j=>(listed.setIfInBounds i true).getD j false) (nxt u) w':=fun u w' h=>by rw [eL];exact h
   have step:∀ u w',Mid N (fun _=>True) ops n (fD F.base l) F.ds.1 (nxt u) (listed.setIfInBounds i true) (a.put o.dst u) w':=by
    intro u w'
    have hlt:=hlt'
    have hset:∀ j,(listed.setIfInBounds i true).getD j false=true→j=i∨listed.getD j false=true:=by
     intro j h
     by_cases e:i=j
     ·exact .inl e.symm
     ·rw [getD_set_ne false e] at h;exact .inr h
    have hseti:(listed.setIfInBounds i true).getD i false=true:=by
     have:i < listed.size:=by rw [M.size];exact hilt
     simp [this]
    refine ⟨by simpa using M.size,?_,?_,?_,?_,?_,?_,trivial⟩
    ·intro k j hk he
     rcases hset k hk with rfl|hk
     ·exact getD_set_true (bX hi he)
     ·exact getD_set_true (M.clos k j hk he)
    ·intro k hk
     rcases hset k hk with rfl|hk
     ·exact hin
     ·exact M.heads k hk
    ·cases hd:o.dst <;> exact M.defers
    ·cases hd:o.dst with
    |none=>exact M.tsize
    |some d=>simp only [Act.put,Array.size_setIfInBounds];exact M.tsize
    ·intro j t hj hjl hd
     rcases hset j hjl with rfl|hjl'
     ·rw [hdi] at hd;rw [hd] at hlt ⊢;simp only [Act.put];rw [Array.getElem?_setIfInBounds_self_of_lt (by rw [M.tsize];exact hlt),nxt_i]
     ·by_cases e:j=i
      ·subst e;rw [hdi] at hd;rw [hd] at hlt ⊢;simp only [Act.put];rw [Array.getElem?_setIfInBounds_self_of_lt (by rw [M.tsize];exact hlt),nxt_i]
      ·rw [nxt_ne u j e]
       have h1:=M.new j t hj hjl' hd
       cases hdo:o.dst with
      |none=>exact h1
      |some d =>
        have hne:d≠t:=fun e'=>e (uniq j i t hj hin hd (by rw [hdi,hdo,e']))
        simp only [Act.put];rw [Array.getElem?_setIfInBounds_ne hne];exact h1
    ·intro t ht
     have h1:=M.old t (fun j hj hjl=>ht j hj (getD_set_true hjl))
     have h2:=ht i hin hseti
     rw [hdi] at h2
     cases hdo:o.dst with
    |none=>exact h1
    |some d =>
      have hne:d≠t:=fun e'=>h2 (by rw [hdo,e'])
      simp only [Act.put];rw [Array.getElem?_setIfInBounds_ne hne];exact h1
   have hli:listed.getD i false=false:=by
    simp only [Array.getD,hil,dite_true] at hun ⊢
    simpa using hun
   obtain ⟨b,hb,hbt,hbf⟩:=H i o hin ho' (fun j=>listed.getD j false) vs w MR hli (fun j he=>bX hi he) (fun k j hk he=>M.clos k j hk he)
   have hw:Region.wanted o (yielded ops.toArray a.tmps)=b:=by
    unfold gd at hb;split at hb
    ·rename_i hg;simp only [Region.wanted,hg];exact hb
    ·rename_i g want hg;split at hb
     ·rename_i d hd;split at hb
      ·rename_i bb hbb
       have hdd:aG ops g=some d:=by
        unfold aG;simp only [bQ,List.getElem?_map,Option.map_eq_some_iff] at hd;obtain ⟨x,hx,hx'⟩:=hd;simp [hx,hx']
       obtain ⟨X,hX1,hX2⟩:=slot listed a w vs i o d M hin ho' hi (dX hg hdd);rw [hbb] at hX2
       cases hX2
       have:yielded ops.toArray a.tmps g=some bb:=by
        unfold yielded;unfold aG at hdd;simp only [List.getElem?_toArray,hdd,Option.bind_some,hX1]
       simp only [Region.wanted,hg,this];rw [← hb]
       cases bb <;> cases want <;> rfl
      ·rename_i bb hnb hbb
       have hdd:aG ops g=some d:=by
        unfold aG;simp only [bQ,List.getElem?_map,Option.map_eq_some_iff] at hd;obtain ⟨x,hx,hx'⟩:=hd;simp [hx,hx']
       obtain ⟨X,hX1,hX2⟩:=slot listed a w vs i o d M hin ho' hi (dX hg hdd);rw [hbb] at hX2
       cases hX2
       have:yielded ops.toArray a.tmps g=none:=by
        unfold yielded;unfold aG at hdd;simp only [List.getElem?_toArray,hdd,Option.bind_some,hX1];split
        ·rename_i b' e;cases e;exact (hnb b' rfl).elim
        ·rfl
       simp only [Region.wanted,hg,this];rw [← hb];rfl
      ·exact hb.elim
     ·exact hb.elim
   unfold wpOpIn;simp only [ho,hw]
   cases b with
  |true =>
    simp only [if_true];refine (bY ?_)
    have hcong:execOp a.eval o=execOp (evD (cH l ops vs i)) o:=by
     refine execOp_congr o (ok.sel i o ho') (fun x hx=>?_)
     cases x with
    |tmp t =>
      obtain ⟨X,hX1,hX2⟩:=slot listed a w vs i o t M hin ho' hi (fW hx);simp [Act.eval,evD,ev,hX1,hX2]
    |const c=>rfl
    |global g=>rfl
    |func f=>rfl
    rw [hcong];exact (hbt rfl).mono fun u w' hu=>ih _ _ _ _ hu' (step u w') (rest u w' hu)
  |false =>
    simp only [Bool.false_eq_true,if_false];exact ⟨fun _ _=>trivial,ih _ _ _ _ hu' (step undef w) (rest undef w (hbf rfl))⟩
end
section
variable {P:Program} {N:Nat} {Q:tP} {l:Env} {w:World}
end
end Go.Eng
