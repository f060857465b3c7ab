/-
  Regions that draw their order, appends to rows of one's own among their heads: the rule.
-/
import Derived.Test.YtlihpgmgiehjkaaGreatDoorUpt
set_option linter.unusedSimpArgs false
set_option linter.unusedVariables false
section
namespace Go.Eng
open Go Go.RowKit
section
variable {P:Program} {N:Nat} {ops:List Oper} {n:Nat} {l:Env} {vs:Nat→Value}
theorem zEv {keys:List Nat} (ok:RegOk keys ops n) (F:Fr N) (hk:bH N l=true) (bF:∀ t ∈ keys,∃ v,lk l t=some v) (hlt:DLt N ops n)
  {J:(Nat→Bool)→(Nat→Value)→World→Prop}
  (H:∀ i o,i < n→ops[i]?=some o→∀ (L:Nat→Bool) (vs:Nat→Value) (w:World),J L vs w→L i=false→(∀ j,gK ops i j=true→L j=true)→(∀ k j,L k=true→gK ops k j=true→L j=true) →
   ∃ b,gd (cZ l ops vs i) (cD ops) o.guard (·=b)∧(b=true→Yields P (execOp (evD (cZ l ops vs i)) o) w fun u w'=>J (fun j=>if j=i then true else L j) (fun j=>if j=i then u else vs j) w')∧(b=false→J (fun j=>if j=i then true else L j) (fun j=>if j=i then undef else vs j) w))
  {Q:Exit→Act→World→Prop} (hT:∀ (L:Nat→Bool) (vs:Nat→Value) (w:World),J L vs w→(∀ j,j < n→L j=true)→wpListIn (FW F.ds.2) 0 P ops.toArray Q (ops.drop n) (mk F (cZ l ops vs n)) w) :
  ∀ (fuel:Nat) (listed:Array Bool) (a:Act) (w:World) (vs:Nat→Value),unl listed=fuel→Mid N (fun _=>True) ops n (fR F.base l) F.ds.1 vs listed a w→J (fun j=>listed.getD j false) vs w→wpAnyIn (FW F.ds.2) 0 P .any ops.toArray Q fuel listed a w:=by
 have uniq:∀ i j t,i < n→j < n→aM ops i=some t→aM ops j=some t→i=j:=by
  intro i j t hi hj h1 h2
  rcases Nat.lt_trichotomy i j with h|h|h
  ·rcases ok.uniq j i hj h with e|e
   ·rw [h2] at e;cases e
   ·exact absurd (h2.trans h1.symm) e
  ·exact h
  ·rcases ok.uniq i j hi h with e|e
   ·rw [h1] at e;cases e
   ·exact absurd (h1.trans h2.symm) e
 have final:∀ (listed:Array Bool) (a:Act) (w:World) (vs:Nat→Value),Mid N (fun _=>True) ops n (fR F.base l) F.ds.1 vs listed a w→(∀ j,j < n→listed.getD j false=true)→a=mk F (cZ l ops vs n):=by
  intro listed a w vs M hall;obtain ⟨tm,df⟩:=a
  have hd:df=F.ds.1:=M.defers
  subst hd;show Act.mk _ _=Act.mk _ _
  congr 1
  apply Array.ext_getElem?
  intro t
  by_cases h:∃ j,j < n∧aM ops j=some t
  ·obtain ⟨j,hj,hd⟩:=h
   have h1:=M.new j t hj (hall j hj) hd
   have h2:=(fY (l:=l) (vs:=vs) hlt F.hN hd (fun k hk hne e=>hne (uniq k j t hk hj e hd)) n (Nat.le_refl _) hj).2
   exact h1.trans h2.symm
  ·have h':∀ j,j < n→aM ops j≠some t:=fun j hj e=>h ⟨j,hj,e⟩
   have h1:=M.old t (fun j hj _=>h' j hj)
   have h2:=(fX (l:=l) (vs:=vs) F.base t n h').2
   exact h1.trans h2.symm
 have slot:∀ (listed:Array Bool) (a:Act) (w:World) (vs:Nat→Value) (i:Nat) (o:Oper) (t:Nat),Mid N (fun _=>True) ops n (fR F.base l) F.ds.1 vs listed a w→i < n→ops[i]?=some o→i ∈ Region.ready .any ops.toArray listed→t ∈ o.looksAt ops.toArray →
   ∃ X,a.tmps[t]?=some X∧lk (cZ l ops vs i) t=some X:=by
  intro listed a w vs i o t M hi ho hr ht;obtain ⟨l1,l2⟩:=ok.looks i o t hi ho ht
  by_cases h:∃ j,j < n∧aM ops j=some t
  ·obtain ⟨j,hj,hd⟩:=h;obtain ⟨hji,he⟩:=l1 j hj hd;exact ⟨vs j,M.new j t hj (cK hr he) hd,(fY (l:=l) (vs:=vs) hlt F.hN hd (fun k hk hne e=>hne (uniq k j t hk hj e hd)) i (by omega) hji).1⟩
  ·have h':∀ j,j < n→aM ops j≠some t:=fun j hj e=>h ⟨j,hj,e⟩
   rcases l2 with ⟨j,hj,hd⟩|hkey
   ·exact absurd hd (h' j (by omega))
   ·obtain ⟨v,hv⟩:=bF t hkey;refine ⟨v,?_,?_⟩
    ·rw [M.old t (fun j hj _=>h' j hj)];exact gT F hk hv
    ·rw [(fX (l:=l) (vs:=vs) F.base t i (fun j hj=>h' j (by omega))).1];exact hv
 intro fuel
 induction fuel with
|zero =>
  intro listed a w vs hu M MR
  have hall:∀ j,j < ops.length→listed.getD j false=true:=fun j hj=>qBu hu (by rw [M.size];exact hj)
  have hn:n=ops.length:=by
   rcases Nat.lt_or_ge n ops.length with h|h
   ·have:=M.heads n (hall n h);omega
   ·have:=ok.hn;omega
  have ha:=final listed a w vs M (fun j hj=>hall j (by omega))
  subst ha;exact iY ok 0 n listed _ w (by omega) (Nat.le_refl _) M.size (fun i hi=>⟨fun _=>by omega,fun _=>hall i hi⟩) (hT _ vs w MR fun j hj=>hall j (by omega))
|succ fuel ih =>
  intro listed a w vs hu M MR
  by_cases hdone:∀ j,j < n→listed.getD j false=true
  ·have ha:=final listed a w vs M hdone
   subst ha
   have hcount:∀ (m:Nat) (x:Array Bool),x.size=ops.length→(∀ i,i < ops.length→(x.getD i false=true↔i < m))→m≤ops.length→m + unl x=ops.length:=by
    intro m;generalize hd:ops.length - m=d
    induction d generalizing m with
   |zero =>
     intro x hx hl hm
     have:unl x=0:=by
      unfold unl;rw [List.length_eq_zero_iff,List.filter_eq_nil_iff];intro b hb;obtain ⟨i,hi,rfl⟩:=List.getElem_of_mem hb
      have hi':i < x.size:=by simpa using hi
      have:=(hl i (by omega)).2 (by omega)
      simp only [Array.getD,hi',dite_true] at this;simp [show x.toList[i]=true from this]
     omega
   |succ d ihd =>
     intro x hx hl hm
     have hmlt:m < ops.length:=by omega
     have h0:x.getD m true=false:=by
      have:¬ x.getD m false=true:=fun e=>by have:=(hl m hmlt).1 e;omega
      have hm':m < x.size:=by omega
      simp only [Array.getD,hm',dite_true] at this ⊢
      simpa using this
     have:=ihd (m + 1) (by omega) (x.setIfInBounds m true) (by simpa using hx) (fun i hi=>by
      by_cases e:m=i
      ·subst e
       have:m < x.size:=by omega
       simp [this]
      ·rw [getD_set_ne false e,hl i hi];omega) (by omega)
     have:=pZ h0
     omega
   have hl:∀ i,i < ops.length→(listed.getD i false=true↔i < n):=fun i hi=>⟨M.heads i,hdone i⟩
   have:=hcount n listed M.size hl ok.hn
   exact iY ok (fuel + 1) n listed _ w (by omega) (Nat.le_refl _) M.size hl (hT _ vs w MR fun j hj=>hdone j hj)
  ·have hex:∃ j,j < n∧listed.getD j false≠true:=by
    refine Classical.byContradiction fun hne=>hdone fun j hj=>?_
    refine Classical.byContradiction fun h=>hne ⟨j,hj,h⟩
   have hn:=ok.hn
   have hready:∃ j,j ∈ Region.ready .any ops.toArray listed:=by
    obtain ⟨j,hj,hjl⟩:=hex
    have:∀ d j,j=d→j < n→listed.getD j false≠true→∃ j,j ∈ Region.ready .any ops.toArray listed:=by
     intro d
     induction d using Nat.strongRecOn with
    |_ d ihd =>
      intro j hd hj hjl;subst hd
      have ho:ops[j]?=some (ops[j]'(by omega)):=List.getElem?_eq_getElem _
      by_cases hall:∀ e ∈ (ops[j]'(by omega)).after,Region.binds .any e=true→listed.getD e.on false=true
      ·refine ⟨j,mem_ready.2 ⟨?_,ops[j]'(by omega),by simp,hall⟩⟩
       have h2:j < listed.size:=by rw [M.size];omega
       simp only [Array.getD,h2,dite_true] at hjl ⊢
       simpa using hjl
      ·have:∃ e ∈ (ops[j]'(by omega)).after,Region.binds .any e=true∧listed.getD e.on false≠true:=by
        refine Classical.byContradiction fun hne=>hall fun e he hb=>?_
        refine Classical.byContradiction fun h=>hne ⟨e,he,hb,h⟩
       obtain ⟨e,he,hb,hl⟩:=this
       have hlt:=ok.down j _ e ho he hb
       exact ihd e.on hlt e.on rfl (by omega) hl
    exact this j j rfl hj hjl
   obtain ⟨j0,hj0⟩:=hready;refine ⟨fun h0=>absurd hj0 (by rw [h0];simp),fun i hi=>?_⟩
   obtain ⟨hun,o,ho,hall⟩:=mem_ready.1 hi
   have ho':ops[i]?=some o:=by simpa using ho
   have hilt:i < ops.length:=(List.getElem?_eq_some_iff.1 ho').1
   have hin:i < n:=by
    rcases Nat.lt_or_ge i n with h|h
    ·exact h
    ·exfalso
     apply hdone
     have key:∀ d j,i - j=d→j < i→listed.getD j false=true:=by
      intro d
      induction d using Nat.strongRecOn with
     |_ d ihd =>
       intro j hd hji;obtain ⟨k,hk1,hk2,hk3⟩:=ok.tail i j hilt h hji
       rcases Nat.lt_or_ge k i with hki|hki
       ·exact M.clos k j (ihd (i - k) (by omega) k rfl hki) hk3
       ·have:k=i:=by omega
        subst this;exact cK hi hk3
     exact fun j hj=>key _ j rfl (by omega)
   have hu':unl (listed.setIfInBounds i true)=fuel:=by have:=pZ hun;omega
   have hdi:aM ops i=o.dst:=by unfold aM;rw [ho'];rfl
   have hlt':iJ N o.dst:=by
    cases hd:o.dst with
   |none=>trivial
   |some t=>exact hlt i t hin (hdi.trans hd)
   let nxt:Value→Nat→Value:=fun u j=>if j=i then u else vs j
   have nxt_i:∀ u,nxt u i=u:=fun u=>if_pos rfl
   have nxt_ne:∀ u j,j≠i→nxt u j=vs j:=fun u j h=>if_neg h
   have hil:i < listed.size:=by rw [M.size];exact hilt
   have eL:(fun j=>(listed.setIfInBounds i true).getD j false)=fun j=>if j=i then true else listed.getD j false:=by
    funext j
    by_cases e:j=i
    ·subst e;rw [if_pos rfl];simp [hil]
    ·rw [if_neg e,getD_set_ne false (Ne.symm e)]
   have rest:∀ u w',J (fun j=>if j=i then true else listed.getD j false) (nxt u) w'→J (fun j=>(listed.setIfInBounds i true).getD j false) (nxt u) w':=fun u w' h=>by rw [eL];exact h
   have step:∀ u w',Mid N (fun _=>True) ops n (fR F.base l) F.ds.1 (nxt u) (listed.setIfInBounds i true) (a.put o.dst u) w':=by
    intro u w'
    have hlt:=hlt'
    have hset:∀ j,(listed.setIfInBounds i true).getD j false=true→j=i∨listed.getD j false=true:=by
     intro j h
     by_cases e:i=j
     ·exact .inl e.symm
     ·rw [getD_set_ne false e] at h;exact .inr h
    have hseti:(listed.setIfInBounds i true).getD i false=true:=by
     have:i < listed.size:=by rw [M.size];exact hilt
     simp [this]
    refine ⟨by simpa using M.size,?_,?_,?_,?_,?_,?_,trivial⟩
    ·intro k j hk he
     rcases hset k hk with rfl|hk
     ·exact getD_set_true (cK hi he)
     ·exact getD_set_true (M.clos k j hk he)
    ·intro k hk
     rcases hset k hk with rfl|hk
     ·exact hin
     ·exact M.heads k hk
    ·cases hd:o.dst <;> exact M.defers
    ·cases hd:o.dst with
    |none=>exact M.tsize
    |some d=>simp only [Act.put,Array.size_setIfInBounds];exact M.tsize
    ·intro j t hj hjl hd
     rcases hset j hjl with rfl|hjl'
     ·rw [hdi] at hd;rw [hd] at hlt ⊢;simp only [Act.put];rw [Array.getElem?_setIfInBounds_self_of_lt (by rw [M.tsize];exact hlt),nxt_i]
     ·by_cases e:j=i
      ·subst e;rw [hdi] at hd;rw [hd] at hlt ⊢;simp only [Act.put];rw [Array.getElem?_setIfInBounds_self_of_lt (by rw [M.tsize];exact hlt),nxt_i]
      ·rw [nxt_ne u j e]
       have h1:=M.new j t hj hjl' hd
       cases hdo:o.dst with
      |none=>exact h1
      |some d =>
        have hne:d≠t:=fun e'=>e (uniq j i t hj hin hd (by rw [hdi,hdo,e']))
        simp only [Act.put];rw [Array.getElem?_setIfInBounds_ne hne];exact h1
    ·intro t ht
     have h1:=M.old t (fun j hj hjl=>ht j hj (getD_set_true hjl))
     have h2:=ht i hin hseti
     rw [hdi] at h2
     cases hdo:o.dst with
    |none=>exact h1
    |some d =>
      have hne:d≠t:=fun e'=>h2 (by rw [hdo,e'])
      simp only [Act.put];rw [Array.getElem?_setIfInBounds_ne hne];exact h1
   have hli:listed.getD i false=false:=by
    simp only [Array.getD,hil,dite_true] at hun ⊢
    simpa using hun
   obtain ⟨b,hb,hbt,hbf⟩:=H i o hin ho' (fun j=>listed.getD j false) vs w MR hli (fun j he=>cK hi he) (fun k j hk he=>M.clos k j hk he)
   have hw:Region.wanted o (yielded ops.toArray a.tmps)=b:=by
    unfold gd at hb;split at hb
    ·rename_i hg;simp only [Region.wanted,hg];exact hb
    ·rename_i g want hg;split at hb
     ·rename_i d hd;split at hb
      ·rename_i bb hbb
       have hdd:aM ops g=some d:=by
        unfold aM;simp only [cD,List.getElem?_map,Option.map_eq_some_iff] at hd;obtain ⟨x,hx,hx'⟩:=hd;simp [hx,hx']
       obtain ⟨X,hX1,hX2⟩:=slot listed a w vs i o d M hin ho' hi (eJ hg hdd);rw [hbb] at hX2
       cases hX2
       have:yielded ops.toArray a.tmps g=some bb:=by
        unfold yielded;unfold aM at hdd;simp only [List.getElem?_toArray,hdd,Option.bind_some,hX1]
       simp only [Region.wanted,hg,this];rw [← hb]
       cases bb <;> cases want <;> rfl
      ·rename_i bb hnb hbb
       have hdd:aM ops g=some d:=by
        unfold aM;simp only [cD,List.getElem?_map,Option.map_eq_some_iff] at hd;obtain ⟨x,hx,hx'⟩:=hd;simp [hx,hx']
       obtain ⟨X,hX1,hX2⟩:=slot listed a w vs i o d M hin ho' hi (eJ hg hdd);rw [hbb] at hX2
       cases hX2
       have:yielded ops.toArray a.tmps g=none:=by
        unfold yielded;unfold aM at hdd;simp only [List.getElem?_toArray,hdd,Option.bind_some,hX1];split
        ·rename_i b' e;cases e;exact (hnb b' rfl).elim
        ·rfl
       simp only [Region.wanted,hg,this];rw [← hb];rfl
      ·exact hb.elim
     ·exact hb.elim
   unfold wpOpIn;simp only [ho,hw]
   cases b with
  |true =>
    simp only [if_true];refine (cF ?_)
    have hcong:execOp a.eval o=execOp (evD (cZ l ops vs i)) o:=by
     refine execOp_congr o (ok.sel i o ho') (fun x hx=>?_)
     cases x with
    |tmp t =>
      obtain ⟨X,hX1,hX2⟩:=slot listed a w vs i o t M hin ho' hi (jJ hx);simp [Act.eval,evD,ev,hX1,hX2]
    |const c=>rfl
    |global g=>rfl
    |func f=>rfl
    rw [hcong];exact (hbt rfl).mono fun u w' hu=>ih _ _ _ _ hu' (step u w') (rest u w' hu)
  |false =>
    simp only [Bool.false_eq_true,if_false];exact ⟨fun _ _=>trivial,ih _ _ _ _ hu' (step undef w) (rest undef w (hbf rfl))⟩
end
section
variable {P:Program} {N:Nat} {Q:qAl} {l:Env} {w:World}
end
end Go.Eng
end
section
namespace Go.Eng
open Go Go.RowKit
def inl (ids:List Nat) (i:Nat):Bool:=match ids with
|[]=>false
|k :: r=>k == i || inl r i
abbrev Aps:=List (Nat × Nat × List Nat)
def bad (W:Aps) (i:Nat):List Nat:=match W with
|[]=>[]
|(a,id,D) :: r=>bif a == i || inl D i then bad r i else id :: bad r i
def wat (W:Aps) (i:Nat):Option Nat:=match W with
|[]=>none
|(a,id,_) :: r=>bif a == i then some id else wat r i
def pL (W:Aps) (L:Nat→Bool) (id:Nat):Bool:=match W with
|[]=>false
|(a,i,_) :: r=>(L a && i == id) || pL r L id
end Go.Eng
end
section
namespace Go.Eng
open Go Go.RowKit
abbrev Acc:=List (Nat × Nat × Row)
section
variable {P:Program} {N:Nat} {c:Ctx} {S T:HS} {Q:eN} {l:Env} {look:Nat→Option Value} {w w':World} {ρ:Nat→Value} {xs:Nat→List Value}
structure HeadA (P:Program) (N:Nat) (ops:List Oper) (E0:bL) (st st0:aF) (W:Aps) (hs:Nat→HV) (acc:Acc) (i:Nat) (o:Oper):Prop where
  lt:iJ N o.dst
  head:∃ T:bL,FrOk ops E0 hs i T∧(∀ t h,hlk T t=some h→t ∈ rN (cD ops) o.guard ++ cG o.op)∧(∀ t h,hlk T t=some h→h.kill (inl (bad W i))=h) ∧
    ((wat W i=none∧∀ (c:Ctx) (l:Env) (w:World) (ρ:Nat→Value) (xs:Nat→List Value),Good c ⟨T,st0⟩ (lk l) w ρ xs →
      ∃ b,gd l (cD ops) o.guard (·=b)∧(b=true→bK P l o.op o.type w (fun u w'=>RepH w' (c.A ρ st0) c.n0 ρ u (hs i)∧Below w.heap.size w w') (fun u w'=>RepH w' (c.A ρ st0) c.n0 ρ u (hs i)∧Below w.heap.size w w'))∧(b=false→hs i=.v undef)) ∨
     ∃ id d nw ty sz els cnd S' nw' ty' sz' els',wat W i=some id∧o.guard=none∧o.dst=some d∧hs i=.own id∧rlk st id=some (.sl nw ty sz els)∧hop P ⟨T,[(id,.sl nw ty sz els)]⟩ (qC5 o.dst) o.op=.go cnd (.own id) S'∧cnd ∧
       rlk S'.st id=some (.sl nw' ty' sz' els')∧(d,id,.sl nw' ty' sz' els') ∈ acc)
theorem RowOk.ctx {A:Nat→Prop} {c c':Ctx} {id:Nat} {r:Row} {ys:List Value} (h:RowOk w A c ρ id r ys) (e1:c'.n0=c.n0) (e2:c'.B=c.B) (hn:∀ b,(ρ id).ownBlock=some b→c'.w0.heap.size≤b∨c'.T b):RowOk w A c' ρ id r ys:=by
  refine ⟨h.own,?_,fun b hb=>⟨hn b hb,fun e=>by rw [e1];exact (h.new b hb).2 e⟩⟩
  have:=h.rep
  cases r with
 |sl=>rw [e1];exact this
 |bx=>rw [e1,e2];exact this
 |hl=>rw [e1];exact this
def lkB (l:Env) (vs:Nat→Value) (k:Nat):Option Value:=if k % 2=0 then lk l (k / 2) else some (vs (k / 2))
structure Jn (c:Ctx) (S:HS) (W:Aps) (acc:Acc) (hs:Nat→HV) (n:Nat) (l:Env) (L:Nat→Bool) (vs:Nat→Value) (w:World) (ρ:Nat→Value) (xs:Nat→List Value) (E:bL) (st':aF):Prop where
  good:Good c ⟨E,st'⟩ (lkB l vs) w ρ xs
  env:∀ k x,hlk S.env k=some x→hlk E (2 * k)=some (x.kill (pL W L))
  hds:∀ j,j < n→L j=true→hlk E (2 * j + 1)=some (match wat W j with|some id=>.own id|none=>(hs j).kill (pL W L))
  rows:∀ k r,rlk S.st k=some r→(pL W L k=false→rlk st' k=some (r.kill (pL W L)))∧∀ d row,(d,k,row) ∈ acc→pL W L k=true→rlk st' k=some row
  none:∀ k,rlk S.st k=none→rlk st' k=none
theorem zFh {st st':aF} (h:∀ k r,rlk st k=some r→∃ r',rlk st' k=some r') (b:Nat) (hb:dD ρ st b):dD ρ st' b:=by
  obtain ⟨i,r,h1,h2⟩:=hb;obtain ⟨r',h3⟩:=h i r h1;exact ⟨i,r',h3,h2⟩
theorem zUw {c c':Ctx} {st st':aF} (h0:∀ b,c'.A0 b↔c.A ρ st' b∧¬ dD ρ st b) (h1:∀ b,dD ρ st b→dD ρ st' b) (b:Nat):c'.A ρ st b↔c.A ρ st' b:=by
  constructor
  · rintro (h|h)
    · exact ((h0 b).1 h).1
    · exact .inr (h1 b h)
  · intro h
    by_cases e:dD ρ st b
    · exact .inr e
    · exact .inl ((h0 b).2 ⟨h,e⟩)
theorem Good.sub {E T : bL} {st st1 : aF} {look1 : Nat → Option Value} (G : Good c ⟨E, st⟩ look w ρ xs) (h1 : ∀ k r, rlk st1 k = some r → ∃ r', rlk st k = some r' ∧ (∀ ys, RowOk w (c.A ρ st) c ρ k r' ys → RowOk w (c.A ρ st) c ρ k r ys))
    (hT:∀ t x,hlk T t=some x→∃ v,look1 t=some v∧RepH w (c.A ρ st) c.n0 ρ v x) :
    Good ⟨w,dD ρ st1,fun b=>c.A ρ st b∧¬ dD ρ st1 b,c.n0,Nat.le_trans c.hn G.kept.size,c.B⟩ ⟨T,st1⟩ look1 w ρ xs ∧
      (∀ b,Ctx.A ⟨w,dD ρ st1,fun b=>c.A ρ st b∧¬ dD ρ st1 b,c.n0,Nat.le_trans c.hn G.kept.size,c.B⟩ ρ st1 b↔c.A ρ st b):=by
  have hO:∀ b,dD ρ st1 b→dD ρ st b:=zFh fun k r hr=>by obtain ⟨r',e,_⟩:=h1 k r hr;exact ⟨r',e⟩
  have hA:=fun b=>zUw (ρ:=ρ) (c:=c) (c':=⟨w,dD ρ st1,fun b=>c.A ρ st b∧¬ dD ρ st1 b,c.n0,Nat.le_trans c.hn G.kept.size,c.B⟩) (st:=st1) (st':=st) (fun _=>Iff.rfl) hO b
  refine ⟨⟨fun id r hr=>?_,fun i j r s b hne hi hj hbi hbj=>?_,fun k x hk=>?_,Kept.refl _ _,fun b hb=>⟨?_,hb.2⟩⟩,hA⟩
  · obtain ⟨r',e,f⟩:=h1 id r hr
    exact ((f _ (G.rows id r' e)).up (Nat.le_refl _) (fun _ _ _=>rfl) (fun b _=>(hA b).1) (fun _ _=>rfl)).ctx rfl rfl fun b hb=>.inr ⟨id,r,hr,hb⟩
  · obtain ⟨r',e,_⟩:=h1 i r hi
    obtain ⟨s',e',_⟩:=h1 j s hj;exact G.apart i j r' s' b hne e e' hbi hbj
  · obtain ⟨v,a,b⟩:=hT k x hk
    exact ⟨v,a,b.up (Nat.le_refl _) (fun _ _ _=>rfl) (fun b _=>(hA b).1) (Nat.le_refl _)⟩
  · rcases hb.1 with h0|⟨i,r,hi,hbi⟩
    · have:=(G.a0 b h0).1;have:=G.kept.size;show b < w.heap.size;omega
    · exact G.lt hi hbi
end
end Go.Eng
end
