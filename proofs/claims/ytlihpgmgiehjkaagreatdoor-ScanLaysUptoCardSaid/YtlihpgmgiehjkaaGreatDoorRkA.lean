/-
  The reference's disk: its rows; where a path stands; an aT put, dropped: plain.
-/
import Derived.Test.YtlihpgmgiehjkaaGreatDoorSwC
import Derived.Test.YtlihpgmgiehjkaaGreatDoorDkC
set_option linter.unusedSimpArgs false
set_option linter.unusedVariables false
section
set_option maxRecDepth 20000
namespace Go.Sw
open Go Go.Tr Go.Eng Go.Dk Go.Proofs.YtlihpgmgiehjkaaGreatDoor
theorem zC7 {r a b:ByteArray} (h1:eE r a=true) (h2:eE r b=true) (ha:a≠{ data:=#[] }) (hb:b≠{ data:=#[] }) (hs:a.size≤b.size):eE b a=true:=by
 obtain ⟨t,e1,k1⟩:=jA h1 ha;obtain ⟨s,e2,k2⟩:=jA h2 hb;rw [Lib.size_eq,Lib.size_eq] at hs
 have e:a.data.toList ++ t=b.data.toList ++ s:=by rw [← e1,e2]
 have hl:b.data.toList=a.data.toList ++ b.data.toList.drop a.data.toList.length:=by
  have:=congrArg (List.take a.data.toList.length) e
  rw [List.take_left,List.take_append_of_le_length hs] at this
  conv=>lhs;rw [← List.take_append_drop a.data.toList.length b.data.toList,← this]
 obtain ⟨u,hu⟩:∃ u,b.data.toList.drop a.data.toList.length=u:=⟨_,rfl⟩;rw [hu] at hl;refine fE hl ?_
 have ht:t=u ++ s:=by
  rw [hl,List.append_assoc] at e;exact List.append_cancel_left e
 cases u with
|nil=>exact .inl rfl
|cons c u =>
  rcases k1 with rfl|⟨r',rfl⟩
  ·cases ht
  ·rw [List.cons_append] at ht
   injection ht with h _
   exact .inr ⟨u,by rw [h]⟩
structure Fit (d:Dk):Prop where
 par:∀ p x,aH d.L p=some x→par p={ data:=#[] }∨∃ y,aH d.L (par p)=some y∧y.dir=true
 key:∀ p x,aH d.L p=some x→pOk p 6=true
 dir:∀ p x,aH d.L p=some x→x.dir=true→x.stamp=0∧x.loose=false
 st:∀ p x,aH d.L p=some x→0≤x.stamp∧x.stamp≤d.stamps
theorem Fit.ne {d:Dk} (h:Fit d) {p:ByteArray} {x:Itm} (hx:aH d.L p=some x):p≠{ data:=#[] }:=jZ (h.key p x hx)
theorem kX {d:Dk} (hr:dW d.L) {p q:ByteArray}:q ∈ eY d p↔(aH d.L q).isSome=true∧par q=p:=by
 simp only [eY,List.mem_map,List.mem_filter,decide_eq_true_eq];constructor
 ·rintro ⟨e,⟨he,hpe⟩,rfl⟩;exact ⟨by rw [cN hr (show (e.1,e.2) ∈ d.L from he)];rfl,hpe⟩
 ·rintro ⟨hs,hp⟩;obtain ⟨x,hx⟩:=Option.isSome_iff_exists.1 hs;exact ⟨(q,x),⟨cB hx,hp⟩,rfl⟩
theorem mE {d:Dk} {q:ByteArray}:iF d q=1↔∃ x,aH d.L q=some x∧x.dir=true:=by
 unfold iF has aT
 cases h:aH d.L q with
|none=>simp
|some x=>cases hd:x.dir <;> simp [hd]
theorem zL8 {p q:ByteArray} (h:p.size < q.size):q≠p:=fun e=>by subst e;omega
theorem xW {d:Dk} (hr:dW d.L):∀ (k:Nat) (p q:ByteArray),p≠{ data:=#[] }→q ∈ vis d k p→(aH d.L q).isSome=true∧eE q p=true∧p.size < q.size
|0,p,q,_,h=>by simp [vis] at h
|k + 1,p,q,hp,h=>by
  rw [rL,List.mem_flatMap] at h;obtain ⟨c,hc,hq⟩:=h;obtain ⟨h1,h2⟩:=(kX hr).1 hc
  have hcp:eE c p=true:=by rw [← h2];exact qTy
  have hlt:p.size < c.size:=by have:=qJ2 (p:=c) (by rw [h2];exact hp);rw [h2] at this;exact this
  rw [jH,List.mem_cons] at hq
  rcases hq with rfl|hq
  ·exact ⟨h1,hcp,hlt⟩
  ·split at hq
   ·obtain ⟨a,b,e⟩:=xW hr k c q (fun e=>by subst e;have:(({ data:=#[] }:ByteArray)).size=0:=rfl;omega) hq
    exact ⟨a,qHn b hcp,by omega⟩
   ·simp at hq
theorem qN0 {d:Dk} (hr:dW d.L) (hz:∀ e ∈ d.L,e.1.size≤1048576):∀ (k:Nat) (p m q:ByteArray),p≠{ data:=#[] }→p.size≤1048576→1048577 - p.size≤k→m ∈ vis d k p→iF d m=1→par q=m→(aH d.L q).isSome=true→q ∈ vis d k p
|0,p,m,q,hp,hpz,hk,h,_,_,_=>by simp [vis] at h
|k + 1,p,m,q,hp,hpz,hk,h,hm,hq,hqs=>by
  rw [rL,List.mem_flatMap] at h ⊢;obtain ⟨c,hc,hmc⟩:=h;obtain ⟨h1,h2⟩:=(kX hr).1 hc
  have hlt:p.size < c.size:=by have:=qJ2 (p:=c) (by rw [h2];exact hp);rw [h2] at this;exact this
  have hcz:c.size≤1048576:=by
   obtain ⟨x,hx⟩:=Option.isSome_iff_exists.1 h1;exact hz _ (cB hx)
  have hcn:c≠{ data:=#[] }:=fun e=>by subst e;have:(({ data:=#[] }:ByteArray)).size=0:=rfl;omega
  refine ⟨c,hc,?_⟩;rw [jH,List.mem_cons] at hmc ⊢
  right
  rcases hmc with rfl|hmc
  ·rw [if_pos hm];obtain ⟨j,rfl⟩:∃ j,k=j + 1:=⟨k - 1,by omega⟩
   rw [rL,List.mem_flatMap];exact ⟨q,(kX hr).2 ⟨hqs,hq⟩,by rw [jH];exact List.mem_cons_self ..⟩
  ·split at hmc
   ·rename_i hkc;rw [if_pos hkc];exact qN0 hr hz k c m q hcn hcz (by omega) hmc hm hq hqs
   ·simp at hmc
theorem zAa {d:Dk} (hr:dW d.L) (hz:∀ e ∈ d.L,e.1.size≤1048576) (hf:Fit d) {p:ByteArray} (hp:p≠{ data:=#[] }) (hpz:p.size≤1048576):∀ (n:Nat) (q:ByteArray),q.size≤n→(aH d.L q).isSome=true→eE q p=true→q≠p→q ∈ vis d 1048577 p
|n,q,hn,hs,hu,hne=>by
  obtain ⟨x,hx⟩:=Option.isSome_iff_exists.1 hs
  have hpu:=qJ1 hu hne hp
  rcases hf.par q x hx with e|⟨y,hy,hd⟩
  ·rw [e] at hpu
   have:=qN3 hpu
   have h0:(({ data:=#[] }:ByteArray)).size=0:=rfl
   exact absurd (ByteArray.size_eq_zero_iff.1 (by omega:p.size=0)) hp
  ·by_cases hqp:par q=p
   ·rw [show (1048577:Nat)=1048576 + 1 from rfl,rL,List.mem_flatMap]
    exact ⟨q,(kX hr).2 ⟨hs,hqp⟩,by rw [jH];exact List.mem_cons_self ..⟩
   ·have hlt:(par q).size < q.size:=qJ2 (fun e=>by rw [e] at hy;exact hf.ne hy rfl)
    match n,hn with
   |0,hn=>omega
   |n + 1,hn =>
     have:=zAa hr hz hf hp hpz n (par q) (by omega) (by rw [hy];rfl) hpu hqp
     exact qN0 hr hz _ p (par q) q hp hpz (by omega) this (mE.2 ⟨y,hy,hd⟩) rfl hs
theorem zMv {d:Dk} (hr:dW d.L) (hz:∀ e ∈ d.L,e.1.size≤1048576) (hf:Fit d) {p:ByteArray} (hp:p≠{ data:=#[] }) (hpz:p.size≤1048576) (q:ByteArray):q ∈ vis d 1048577 p↔(aH d.L q).isSome=true∧eE q p=true∧q≠p :=
 ⟨fun h=>by obtain ⟨a,b,c⟩:=xW hr _ p q hp h;exact ⟨a,b,zL8 c⟩,fun ⟨a,b,c⟩=>zAa hr hz hf hp hpz _ q (Nat.le_refl _) a b c⟩
theorem qKc {α β:Type} {f:α→List β}:∀ {l:List α},l.Nodup→(∀ a ∈ l,(f a).Nodup)→(∀ a ∈ l,∀ b ∈ l,a≠b→∀ x ∈ f a,x ∉ f b)→(l.flatMap f).Nodup
|[],_,_,_=>by simp
|a :: l,hn,h1,h2=>by
  rw [List.nodup_cons] at hn;rw [List.flatMap_cons,List.nodup_append];refine ⟨h1 a (List.mem_cons_self ..),qKc hn.2 (fun b hb=>h1 b (List.mem_cons_of_mem _ hb)) (fun b hb c hc=>h2 b (List.mem_cons_of_mem _ hb) c (List.mem_cons_of_mem _ hc)),?_⟩
  intro x hx y hy e;subst e;obtain ⟨b,hb,hxb⟩:=List.mem_flatMap.1 hy;exact h2 a (List.mem_cons_self ..) b (List.mem_cons_of_mem _ hb) (fun e=>hn.1 (e ▸ hb)) x hx hxb
theorem qD5 {d:Dk} (hr:dW d.L):∀ (k:Nat) (p:ByteArray),p≠{ data:=#[] }→(vis d k p).Nodup
|0,p,_=>by simp [vis]
|k + 1,p,hp=>by
  have hch:∀ c ∈ eY d p,c≠{ data:=#[] }∧p.size < c.size∧par c=p:=fun c hc=>by
   obtain ⟨h1,h2⟩:=(kX hr).1 hc
   have hlt:p.size < c.size:=by have:=qJ2 (p:=c) (by rw [h2];exact hp);rw [h2] at this;exact this
   exact ⟨fun e=>by subst e;have:(({ data:=#[] }:ByteArray)).size=0:=rfl;omega,hlt,h2⟩
  rw [rL];refine qKc ((qBc hr p).imp fun {a b} h=>qNn h) (fun c hc=>?_) (fun a ha b hb hab x hxa hxb=>?_)
  ·obtain ⟨hc0,-,-⟩:=hch c hc;rw [jH,List.nodup_cons];refine ⟨fun h=>?_,?_⟩
   ·split at h
    ·have:=(xW hr k c c hc0 h).2.2;omega
    ·simp at h
   ·split
    ·exact qD5 hr k c hc0
    ·simp
  ·have un:∀ c ∈ eY d p,∀ x ∈ jH d k c,eE x c=true:=fun c hc x hx=>by
    rw [jH,List.mem_cons] at hx
    rcases hx with rfl|hx
    ·exact zC6 _
    ·split at hx
     ·exact (xW hr k c x (hch c hc).1 hx).2.1
     ·simp at hx
   have h1:=un a ha x hxa
   have h2:=un b hb x hxb
   have key:∀ a b,a ∈ eY d p→b ∈ eY d p→a≠b→eE x a=true→eE x b=true→a.size≤b.size→False:=fun a b ha hb hab h1 h2 hs=>by
    obtain ⟨a0,a1,a2⟩:=hch a ha;obtain ⟨b0,b1,b2⟩:=hch b hb
    have:=qJ1 (zC7 h1 h2 a0 b0 hs) (fun e=>hab e.symm) a0
    rw [b2] at this
    have:=qN3 this
    omega
   rcases Nat.le_total a.size b.size with hs|hs
   ·exact key a b ha hb hab h1 h2 hs
   ·exact key b a hb ha (fun e=>hab e.symm) h2 h1 hs
theorem qZ9 {d:Dk} (hr:dW d.L) {k:Nat} {p:ByteArray} (hp:p≠{ data:=#[] }):(vis d k p).length≤d.L.length :=
 qTe _ _ (qD5 hr k p hp) fun s hs=>(xW hr k p s hp hs).1
theorem qJ3 {q v:ByteArray} (h:eE q v=true) (hn:q≠v) (hv:v≠{ data:=#[] }):q.data.toList=v.data.toList ++ 47 :: (cC v q).data.toList:=by
 obtain ⟨t,ht,hs⟩:=jA h hv
 rcases hs with rfl|⟨r,rfl⟩
 ·exact absurd (eM (by rw [ht,List.append_nil])) hn
 ·rw [ht]
  congr 2
  have e:(v.data.toList ++ 47 :: r).drop (v.data.toList.length + 1)=r:=by
   rw [List.drop_append,List.drop_of_length_le (by omega),List.nil_append,Nat.add_sub_cancel_left]
   rfl
  rw [cC,qDo,ht,Lib.size_eq v,e,List.take_of_length_le];rw [Lib.size_eq q,ht,List.length_append,List.length_cons];omega
theorem qEn {q v:ByteArray} (h:eE q v=true) (hn:q≠v) (hv:v≠{ data:=#[] }):q=v ++ stroke ++ cC v q:=by
 refine eM ?_;rw [qJ3 h hn hv];simp [stroke]
theorem zAz {a b v:ByteArray} (ha:eE a v=true) (hna:a≠v) (hb:eE b v=true) (hnb:b≠v) (hv:v≠{ data:=#[] }) (e:cC v a=cC v b):a=b:=by
 rw [qEn ha hna hv,qEn hb hnb hv,e]
theorem qVf:∀ (c x y:List UInt8),Op.bytesLess (c ++ x) (c ++ y)=Op.bytesLess x y
|[],x,y=>rfl
|a :: c,x,y=>by
  rw [List.cons_append,List.cons_append,Op.bytesLess,qVf c x y];simp
theorem zMr {a b v:ByteArray} (ha:eE a v=true) (hna:a≠v) (hb:eE b v=true) (hnb:b≠v) (hv:v≠{ data:=#[] }):blt (cC v a) (cC v b)=blt a b:=by
 rw [blt,blt,Lib.toList_data,Lib.toList_data,Lib.toList_data,Lib.toList_data,qJ3 ha hna hv,qJ3 hb hnb hv];rw [qVf,Op.bytesLess];simp
def gZ (x:Itm):Nd:=if x.dir=true then (1,ByteArray.empty) else (2,x.data)
def inV (v:ByteArray) (e:ByteArray × Itm):Bool:=eE e.1 v && !decide (e.1=v)
def pX (d:Dk) (v:ByteArray):List (ByteArray × Nd):=(d.L.filter (inV v)).map fun e=>(cC v e.1,gZ e.2)
theorem iM {v:ByteArray} {e:ByteArray × Itm}:inV v e=true↔eE e.1 v=true∧e.1≠v:=by simp [inV]
theorem qEi {d:Dk} (hr:dW d.L) {v:ByteArray} (hv:v≠{ data:=#[] }):dW (pX d v):=by
 unfold pX dW;rw [List.pairwise_map];refine (List.Pairwise.and_mem.1 (List.Pairwise.filter (inV v) hr)).imp ?_;rintro a b ⟨ha,hb,h⟩;obtain ⟨a1,a2⟩:=iM.1 (List.mem_filter.1 ha).2;obtain ⟨b1,b2⟩:=iM.1 (List.mem_filter.1 hb).2;rw [zMr a1 a2 b1 b2 hv];exact h
theorem qPj {d:Dk} (hr:dW d.L) {v:ByteArray} (hv:v≠{ data:=#[] }) (o:ByteArray) (n:Nd):aH (pX d v) o=some n↔∃ q x,aH d.L q=some x∧eE q v=true∧q≠v∧cC v q=o∧gZ x=n:=by
 constructor
 ·intro h
  have:=cB h
  rw [pX,List.mem_map] at this;obtain ⟨e,he,h2⟩:=this;obtain ⟨he1,he2⟩:=List.mem_filter.1 he;obtain ⟨a,b⟩:=iM.1 he2
  injection h2 with h3 h4
  exact ⟨e.1,e.2,cN hr he1,a,b,h3,h4⟩
 ·rintro ⟨q,x,hx,h1,h2,rfl,rfl⟩;refine cN (qEi hr hv) ?_;rw [pX,List.mem_map];exact ⟨(q,x),List.mem_filter.2 ⟨cB hx,iM.2 ⟨h1,h2⟩⟩,rfl⟩
theorem qEg {α:Type}:∀ {a b:List (ByteArray × α)},dW a→dW b→(∀ s x,aH a s=some x↔aH b s=some x)→a=b
|[],[],_,_,_=>rfl
|[],(t,y) :: r,_,hb,h=>by
  have:=(h t y).2 (by simp [aH])
  cases this
|(t,y) :: r,[],_,hb,h=>by
  have:=(h t y).1 (by simp [aH])
  cases this
|(t,y) :: r,(s,x) :: q,ha,hb,h=>by
  obtain ⟨a1,a2⟩:=List.pairwise_cons.1 ha;obtain ⟨b1,b2⟩:=List.pairwise_cons.1 hb
  have e1:=cB ((h t y).1 (by simp [aH]))
  have e2:=cB ((h s x).2 (by simp [aH]))
  have ets:t=s:=by
   rcases List.mem_cons.1 e1 with e|e
   ·cases e;rfl
   ·rcases List.mem_cons.1 e2 with e'|e'
    ·cases e';rfl
    ·have c1:=b1 _ e
     have c2:=a1 _ e'
     have:=gG c1
     dsimp only at c1 c2 this;rw [c2] at this;cases this
  subst ets
  have exy:y=x:=by
   have:=(h t y).1 (by simp [aH])
   simp only [aH,if_true,Option.some.injEq] at this;exact this.symm
  subst exy
  congr 1
  refine qEg a2 b2 fun u z=>?_
  by_cases e:u=t
  ·subst e;constructor
   ·intro hz
    have:=a1 _ (cB hz)
    dsimp only at this;rw [eD] at this;cases this
   ·intro hz
    have:=b1 _ (cB hz)
    dsimp only at this;rw [eD] at this;cases this
  ·have:=h u z
   simpa only [aH,if_neg (show ¬ t=u from fun e'=>e e'.symm)] using this
end Go.Sw
end
section
namespace Go.Dk
open Go Go.Tr Go.Eng
abbrev LI:=List (ByteArray × Itm)
abbrev LN:=List (ByteArray × Int)
section
variable {α:Type}
def plc (p:ByteArray):List (ByteArray × α)→Option Nat
|[]=>none
|e :: r=>if e.1=p then some 0 else (plc p r).map (· + 1)
theorem qJu {p:ByteArray}:∀ {L:List (ByteArray × α)} {i:Nat},plc p L=some i→∃ h:i < L.length,L[i].1=p∧aH L p=some L[i].2
|[],i,h=>by cases h
|e :: r,i,h=>by
  rw [plc] at h;split at h
  ·rename_i he
   cases h
   exact ⟨by simp,he,by simp [aH,he]⟩
  ·rename_i he
   cases hr:plc p r with
  |none=>rw [hr] at h;cases h
  |some j =>
    rw [hr] at h
    cases h
    obtain ⟨a,b,c⟩:=qJu hr;exact ⟨by simp;omega,by simpa using b,by simp [aH,he,c]⟩
theorem qUu {p:ByteArray}:∀ {L:List (ByteArray × α)},plc p L=none→aH L p=none∧∀ e ∈ L,e.1≠p
|[],h=>⟨rfl,fun e he=>by cases he⟩
|e :: r,h=>by
  rw [plc] at h;split at h
  ·cases h
  ·rename_i he
   cases hr:plc p r with
  |some j=>rw [hr] at h;cases h
  |none =>
    obtain ⟨a,b⟩:=qUu hr;exact ⟨by simp [aH,he,a],fun x hx=>by rcases List.mem_cons.1 hx with rfl|hx;exact he;exact b x hx⟩
theorem zMp (p:ByteArray) (L:List (ByteArray × α)):(aH L p).isSome=(plc p L).isSome:=by
 cases h:plc p L with
|none=>rw [(qUu h).1];rfl
|some i=>obtain ⟨_,_,e⟩:=qJu h;rw [e];rfl
def less (p:ByteArray):List (ByteArray × α)→Nat
|[]=>0
|e :: r=>if blt e.1 p=true then less p r + 1 else 0
theorem qHb (p:ByteArray):∀ (L:List (ByteArray × α)),(del p L).length≤L.length
|[]=>Nat.le_refl _
|(t,y) :: r=>by
  have:=qHb p r
  rw [del];split <;> simp only [List.length_cons] <;> omega
end
theorem qXt:∀ (l:List UInt8),(fB l).length=l.count 47 + 1
|[]=>rfl
|c :: l=>by
  have ih:=qXt l
  by_cases e:c=47
  ·subst e;rw [dZ,List.count_cons_self,List.length_cons,ih]
  ·obtain ⟨a,t,h⟩:∃ a t,fB l=a :: t:=by
    cases h:fB l with
   |nil=>exact absurd h (mX l)
   |cons a t=>exact ⟨a,t,rfl⟩
   rw [fN e h,List.count_cons_of_ne e,← ih,h];rfl
theorem qEm (p:ByteArray):(parts p).length=p.data.toList.count 47 + 1:=by rw [parts,List.length_map,qXt]
theorem qBi {p:ByteArray} {k:Int} (h:pOk p k=true):qDx p=(parts p).length:=by
 rw [qDx,if_neg (show ¬ p={ data:=#[] } from jZ h),qEm];rfl
end Go.Dk
end
