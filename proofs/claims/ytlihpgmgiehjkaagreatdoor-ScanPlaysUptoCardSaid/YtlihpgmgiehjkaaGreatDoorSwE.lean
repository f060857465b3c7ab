/-
  Scan: what a walk goes through is what stands in the volume; what it finds qJi: plain.
-/
import Derived.Test.YtlihpgmgiehjkaaGreatDoorDkR
import Derived.Test.YtlihpgmgiehjkaaGreatDoorSwB
import Derived.Test.YtlihpgmgiehjkaaGreatDoorDlC
set_option linter.unusedVariables false
set_option linter.unusedSimpArgs false
section
namespace Go.Proofs.YtlihpgmgiehjkaaGreatDoor
open Go Go.RowKit Go.Maps Go.Sort Go.Shelf Go.Proofs
def Tryz.keysM_renN:Go.Shelf.Ren:=⟨fun|7=>48|10=>87|n=>n,fun|23=>79|26=>9|3=>52|28=>88|0=>0|27=>87|33=>103|4=>4|n=>n,fun|n=>n⟩
theorem Tryz.keysMN:Go.Proofs.SlLaysZ.n7 Tryz.prog Tryz.keysM_renN:={
 mixed:=by kernel_rfl
 f7:=⟨Tryz.f48.name,by decide,Tryz.func48.trans (congrArg some (by kernel_rfl))⟩
 f10:=⟨Tryz.f87.name,by decide,Tryz.func87.trans (congrArg some (by kernel_rfl))⟩
 t0:=Tryz.underlying0
 a0:=Tryz.isAgg0
 z0:=Tryz.sizeOf0
 v0:=Tryz.zeroValue0
 t4:=Tryz.underlying4
 a4:=Tryz.isAgg4
 z4:=Tryz.sizeOf4
 v4:=Tryz.zeroValue4
 t23:=Tryz.underlying79
 a23:=Tryz.isAgg79
 z23:=Tryz.sizeOf79
 v23:=Tryz.zeroValue79
 t26:=Tryz.underlying9
 a26:=Tryz.isAgg9
 z26:=Tryz.sizeOf9
 v26:=Tryz.zeroValue9
 t27:=Tryz.underlying87
 a27:=Tryz.isAgg87
 z27:=Tryz.sizeOf87
 v27:=Tryz.zeroValue87
 t28:=Tryz.underlying88
 a28:=Tryz.isAgg88
 z28:=Tryz.sizeOf88
 v28:=Tryz.zeroValue88
 t33:=Tryz.underlying103
 a33:=Tryz.isAgg103
 z33:=Tryz.sizeOf103
 v33:=Tryz.zeroValue103 }

theorem Tryz.mapsKeysN (mb:Option Nat) (W:World):CallsIn Fence.wide 5 Tryz.prog 48 #[.map mb] W fun e w'=>e=.returned (.func (.func 87) #[] #[.pointer (some ⟨W.heap.size,0,none⟩)])∧w'=W.alloc (.cells #[.map mb] 79) :=
 AnyZ.keys_in Tryz.keysMN Fence.wide 5 trivial rfl mb W

set_option maxHeartbeats 1000000 in
theorem Tryz.sortedKeysN {H:Type} (b nn:Nat) (D0:DataW H) (R:Value→Option (DataW H × List MemPlace)) (w:World) (hown:w.ownsMap Tryz.prog 9 R b nn D0) (hmax:Maps.size D0≤maxLen) (hbytes:Maps.size D0 * 16≤140737488355328) :
  CallsIn Fence.wide 5 Tryz.prog 47 #[.func (.func 87) #[] #[.pointer (some ⟨w.heap.size,0,none⟩)]] (w.alloc (.cells #[.map (some b)] 79)) fun e w'=>∃ (v:Value) (ss:List (List UInt8)),e=.returned v∧ss.Perm (strKeys D0) ∧
   w'.ownsRow (w.alloc (.cells #[.map (some b)] 79)).heap.size 9 1 v ss.length ((ss.mergeSort (fun x y=>decide (x≤y))).map encStr)∧(v=.slice none 0 0↔ss=[])∧Below (w.alloc (.cells #[.map (some b)] 79)).heap.size (w.alloc (.cells #[.map (some b)] 79)) w':=by
 have hbl:=hown.lt
 have hseq:SeqGives Fence.wide 2 Tryz.prog 87 #[.pointer (some ⟨w.heap.size,0,none⟩)] encStr (fun ss=>ss.Perm (strKeys D0)) (Maps.size D0) (w.alloc (.cells #[.map (some b)] 79)) :=
  AnyZ.keys_gives (ρ:=Tryz.keysM_renN) { Tryz.keysMN with } Fence.wide _ trivial rfl (by omega) w.heap.size b nn D0 _ (by simp) (by simp) (by
   obtain ⟨es,clock,hb,Ft,hs,hD⟩:=hown;exact ⟨es,clock,(Below.heap_alloc _ _ b hbl).trans hb,Ft,hs,hD⟩)
 exact AnyZ.sorted_in Tryz.sortedM Fence.wide 5 trivial trivial trivial trivial rfl (by omega) (Tryz.sortsM _) (enters_of Tryz.func60 (by kernel_rfl) rfl) 87 #[.pointer (some ⟨w.heap.size,0,none⟩)] trivial (enters_of Tryz.func87 (by kernel_rfl) rfl) _ _ hmax hbytes _ hseq

end Go.Proofs.YtlihpgmgiehjkaaGreatDoor
end
section
set_option maxRecDepth 20000
namespace Go.Eng
open Go Go.RowKit Go.Maps
section
variable {P:Program} {N:Nat} {x:Code} {Q:kF} {g:MS} {S:HS}
theorem zMf (n:Nat) {g':MS} (hg:g.take n=g') (h:HWM P N x Q g' S):HWM P N x Q g S:=fun c l w I M=>by
 subst hg
 have up:∀ {i:Nat} {m:MO},(g.take n)[i]?=some m→g[i]?=some m:=fun {i m} hi=>by
  have hl:=(List.getElem?_eq_some_iff.1 hi).1
  rw [List.length_take] at hl;rw [List.getElem?_take_of_lt (by omega)] at hi;exact hi
 exact h c l w I ⟨fun i m hi=>M.ok i m (up hi),fun i j m m' b hne hi hj=>M.nd i j m m' b hne (up hi) (up hj),fun i m b hi=>M.foot i m b (up hi)⟩
theorem qN7 (k id ty sz:Nat) {S':HS} (hk:hlk S.env k=some (.v (.slice none 0 0))) (hs:((S.kill (only id)).row id (.sl true ty sz [])).rep k (.own id)=S') (h:HWM P N x Q g S'):HWM P N x Q g S:=fun c l w I M=>by
 subst hs;refine h c l w ?_ M;obtain ⟨ρ,xs,G⟩:=I
 have G2:=G.new id (.sl true ty sz []) [] (.slice none 0 0) (w':=w) (Below.refl _ _) (fun b hb=>by cases hb) (fun _ _ =>
  ⟨by rw [bF];exact World.ownsRow_nil w 0 ty sz,⟨by simp,fun i k hi=>absurd hi (by simp)⟩,fun b hb=>by rw [bF] at hb;cases hb⟩)
 refine ⟨_,_,G2.rows,G2.apart,fun j y hj=>?_,G2.kept,G2.a0⟩
 simp only [HS.rep,qDy] at hj
 by_cases e:j=k
 ·subst e;rw [if_pos rfl] at hj
  have h1:hlk ((S.kill (only id)).row id (.sl true ty sz [])).env j=some (.v (.slice none 0 0)):=by
   show hlk (mE (only id) S.env) j=_
   rw [jP,hk];simp [HV.kill]
  rw [h1] at hj;simp only [Option.map_some,Option.some.injEq] at hj;subst hj;obtain ⟨v,a,b⟩:=G2.env j _ h1
  have:=bN b
  subst this;refine ⟨_,a,?_⟩
  have:=RepH.own (w:=w) (A:=c.A (iN ρ id (.slice none 0 0)) (((S.kill (only id)).row id (.sl true ty sz [])).rep j (.own id)).st) (n0:=c.n0) (ρ:=iN ρ id (.slice none 0 0)) id (by rw [bF];rfl)
  rw [bF] at this;exact this
 ·rw [if_neg e] at hj;exact G2.env j y hj
theorem qS1 (id:Nat) {S':HS} {ty sz:Nat} {nw:Bool} {els:List (List FV)} (hr:rlk S.st id=some (.sl nw ty sz els)) (hs:S.rest id (.lst nw els)=S') (h:HWM P N x Q g S'):HWM P N x Q g S:=fun c l w I M=>h c l w (by rw [← hs];exact I.rest hr) M
end
end Go.Eng
namespace Go.Proofs.YtlihpgmgiehjkaaGreatDoor
open Go Go.Eng Go.RowKit Go.Maps Go.Tr Go.Dk Go.Sw
abbrev Sn:=ByteArray × Int × Nd
def zA0 (x:Sn):List FV:=[.v (.string x.1),.v (.int .i64 x.2.1),.v (.int .i64 x.2.2.1),.v (.string x.2.2.2)]
def dY (l:List Sn):List (List FV):=l.map zA0
theorem cY (l:List Sn):(dY l).length=l.length:=by simp [dY]
theorem lA (l:List Sn):Wid 4 (dY l)=True:=eq_true (xL l fun _=>rfl)
theorem mH {l:List Sn} {i:Nat} {d:List FV} (h:i < l.length):(dY l).getD i d=[.v (.string l[i].1),.v (.int .i64 l[i].2.1),.v (.int .i64 l[i].2.2.1),.v (.string l[i].2.2.2)]:=by unfold dY;rw [nW h];rfl
theorem qJ8 (l:List Sn) (p:ByteArray) (n k:Int) (b:ByteArray):dY l ++ [[.v (.string p),.v (.int .i64 n),.v (.int .i64 k),.v (.string b)]]=dY (l ++ [(p,n,k,b)]):=by simp [dY,zA0]
theorem qE1 (l:List Sn):mN (dY l)=dY l:=by
 unfold mN dY;rw [List.map_map];apply List.map_congr_left;intro s _;simp [zA0,FV.old]
theorem qVi (l:List Sn):∀ x ∈ dY l,∀ f ∈ x,FreshF f:=fun x hx f hf=>by
 obtain ⟨s,-,rfl⟩:=List.mem_map.1 hx;simp [zA0] at hf;rcases hf with rfl|rfl|rfl|rfl <;> exact .v _
def wP (kn:iT) (x:Sn):iT:=if x.2.2.1=2 then fun p n=>if p=x.1∧n=x.2.1 then some x.2.2 else kn p n else kn
def knS (l:List Sn):iT:=l.foldl wP fun _ _=>none
def qFh (M:MTab) (x:Sn):MTab:=if x.2.2.1=2 then M.put (qTj x.1 x.2.1) (nL x.2.2) else M
def kmS (l:List Sn):MTab:=l.foldl qFh fun _=>none
def zF0 (x:Sn):Prop:=x.1.size≤1048576∧(Lit.int .i64 x.2.1).wf=true
theorem zPp:∀ (l:List Sn),(∀ x ∈ l,zF0 x)→∀ (M:MTab) (kn:iT),KnOk M kn→KnOk (l.foldl qFh M) (l.foldl wP kn)
|[],_,M,kn,h=>h
|x :: l,hl,M,kn,h=>by
  obtain ⟨h1,h2⟩:=hl x (List.mem_cons_self ..);refine zPp l (fun y hy=>hl y (List.mem_cons_of_mem _ hy)) _ _ ?_
  unfold qFh wP;split
  ·refine ⟨fun p n hp hn=>?_⟩
   have hx:x.1.size≤maxLen:=Nat.le_trans h1 (by decide)
   simp only [MTab.put]
   by_cases e:qTj p n=qTj x.1 x.2.1
   ·obtain ⟨e1,e2⟩:=zGq hp hn hx h2 e;rw [if_pos e,if_pos ⟨e1,e2⟩];rfl
   ·rw [if_neg e,if_neg (fun ⟨e1,e2⟩=>e (by rw [e1,e2]))]
    exact h.is p n hp hn
  ·exact h
theorem zQi {l:List Sn} (hl:∀ x ∈ l,zF0 x):KnOk (kmS l) (knS l):=zPp l hl _ _ ⟨fun p n _ _=>rfl⟩
def gY (d:Dk) (v:ByteArray):Int:=if pOk v 1=false then 10 else if d.down then 14 else if fD d v≠1 then 11 else 0
def wk0:Wk:=⟨[],[],0,0,0⟩
def mD (d:Dk) (v:ByteArray) (l:List Sn):Wk:=eM d v (knS l) wk0 (vis d 1048577 v)
theorem qEr (d:Dk) (v:ByteArray) (kn:iT):∀ (l:List ByteArray) (w:Wk),eU w.F→eU (eM d v kn w l).F
|[],w,h=>h
|q :: l,w,h=>by
  rw [gZ];refine qEr d v kn l _ ?_;unfold iC;split
  ·exact nF _ _ h
  ·split
   ·exact nF _ _ h
   ·exact nF _ _ h
theorem qC6 (p:ByteArray) {α:Type} (x:α):∀ (L:List (ByteArray × α)),(put p x L).length≤L.length + 1
|[]=>Nat.le_refl _
|(t,y) :: r=>by
  have:=qC6 p x r
  rw [put]
  (repeat' split) <;> simp only [List.length_cons] <;> omega
theorem qPf (d:Dk) (v:ByteArray) (kn:iT):∀ (l:List ByteArray) (w:Wk),(eM d v kn w l).F.length≤w.F.length + l.length
|[],w=>Nat.le_refl _
|q :: l,w=>by
  rw [gZ,List.length_cons]
  have h:=qPf d v kn l (iC d v kn w q)
  have h1:(iC d v kn w q).F.length≤w.F.length + 1:=by
   unfold iC;split
   ·exact qC6 _ _ _
   ·split
    ·exact qC6 _ _ _
    ·exact qC6 _ _ _
  omega
theorem qKw (v q:ByteArray):(cV v q).size≤q.size:=by unfold cV;rw [ByteArray.size_extract];omega
theorem qPg (d:Dk) (v:ByteArray) (kn:iT) {B:Nat}:∀ (l:List ByteArray) (w:Wk),(∀ q ∈ l,q.size≤B)→(∀ e ∈ w.F,e.1.size≤B)→∀ e ∈ (eM d v kn w l).F,e.1.size≤B
|[],w,_,h=>h
|q :: l,w,hl,h=>by
  rw [gZ];refine qPg d v kn l _ (fun x hx=>hl x (List.mem_cons_of_mem _ hx)) fun e he=>?_
  have hq:=hl q (List.mem_cons_self ..)
  have ho:=qKw v q
  have put1:∀ (x:Nd),e ∈ put (cV v q) x w.F→e.1.size≤B:=fun x hx=>by
   rcases qAf hx with rfl|hx
   ·show (cV v q).size≤B;omega
   ·exact h e hx
  unfold iC at he;split at he
  ·exact put1 _ he
  ·split at he
   ·exact put1 _ he
   ·exact put1 _ he
def qFa (w:Wk):List Sn:=w.F.map fun e=>(e.1,(aS w.T e.1).getD 0,e.2)
end Go.Proofs.YtlihpgmgiehjkaaGreatDoor
end
section
set_option maxRecDepth 20000
namespace Go.Sw
open Go Go.Tr Go.Eng Go.Dk Go.Proofs.YtlihpgmgiehjkaaGreatDoor
theorem zDz {r a b:ByteArray} (h1:iL r a=true) (h2:iL r b=true) (ha:a≠{ data:=#[] }) (hb:b≠{ data:=#[] }) (hs:a.size≤b.size):iL b a=true:=by
 obtain ⟨t,e1,k1⟩:=kX h1 ha;obtain ⟨s,e2,k2⟩:=kX h2 hb;rw [Lib.size_eq,Lib.size_eq] at hs
 have e:a.data.toList ++ t=b.data.toList ++ s:=by rw [← e1,e2]
 have hl:b.data.toList=a.data.toList ++ b.data.toList.drop a.data.toList.length:=by
  have:=congrArg (List.take a.data.toList.length) e
  rw [List.take_left,List.take_append_of_le_length hs] at this
  conv=>lhs;rw [← List.take_append_drop a.data.toList.length b.data.toList,← this]
 obtain ⟨u,hu⟩:∃ u,b.data.toList.drop a.data.toList.length=u:=⟨_,rfl⟩;rw [hu] at hl;refine lH hl ?_
 have ht:t=u ++ s:=by
  rw [hl,List.append_assoc] at e;exact List.append_cancel_left e
 cases u with
|nil=>exact .inl rfl
|cons c u =>
  rcases k1 with rfl|⟨r',rfl⟩
  ·cases ht
  ·rw [List.cons_append] at ht
   injection ht with h _
   exact .inr ⟨u,by rw [h]⟩
structure Fit (d:Dk):Prop where
 par:∀ p x,aS d.L p=some x→par p={ data:=#[] }∨∃ y,aS d.L (par p)=some y∧y.dir=true
 key:∀ p x,aS d.L p=some x→pOk p 6=true
 dir:∀ p x,aS d.L p=some x→x.dir=true→x.stamp=0∧x.loose=false
 st:∀ p x,aS d.L p=some x→0≤x.stamp∧x.stamp≤d.stamps
theorem Fit.ne {d:Dk} (h:Fit d) {p:ByteArray} {x:Itm} (hx:aS d.L p=some x):p≠{ data:=#[] }:=nZ (h.key p x hx)
theorem sR {d:Dk} (hr:eU d.L) {p q:ByteArray}:q ∈ gR d p↔(aS d.L q).isSome=true∧par q=p:=by
 simp only [gR,List.mem_map,List.mem_filter,decide_eq_true_eq];constructor
 ·rintro ⟨e,⟨he,hpe⟩,rfl⟩;exact ⟨by rw [dX hr (show (e.1,e.2) ∈ d.L from he)];rfl,hpe⟩
 ·rintro ⟨hs,hp⟩;obtain ⟨x,hx⟩:=Option.isSome_iff_exists.1 hs;exact ⟨(q,x),⟨cP hx,hp⟩,rfl⟩
theorem sT {d:Dk} {q:ByteArray}:fD d q=1↔∃ x,aS d.L q=some x∧x.dir=true:=by
 unfold fD has aP
 cases h:aS d.L q with
|none=>simp
|some x=>cases hd:x.dir <;> simp [hd]
theorem zMp {p q:ByteArray} (h:p.size < q.size):q≠p:=fun e=>by subst e;omega
theorem zMl {p q:ByteArray} (h:iL p q=true) (hn:p≠q) (hq:q≠{ data:=#[] }):q.size < p.size:=by
 obtain ⟨t,ht,hs⟩:=kX h hq
 rcases hs with rfl|⟨r,rfl⟩
 ·exact absurd (kE (by rw [ht,List.append_nil])) hn
 ·rw [Lib.size_eq,Lib.size_eq,ht,List.length_append,List.length_cons];omega
theorem xM {d:Dk} (hr:eU d.L):∀ (k:Nat) (p q:ByteArray),p≠{ data:=#[] }→q ∈ vis d k p→(aS d.L q).isSome=true∧iL q p=true∧p.size < q.size
|0,p,q,_,h=>by simp [vis] at h
|k + 1,p,q,hp,h=>by
  rw [sG,List.mem_flatMap] at h;obtain ⟨c,hc,hq⟩:=h;obtain ⟨h1,h2⟩:=(sR hr).1 hc
  have hcp:iL c p=true:=by rw [← h2];exact zGe
  have hlt:p.size < c.size:=by have:=qKu (p:=c) (by rw [h2];exact hp);rw [h2] at this;exact this
  rw [lC,List.mem_cons] at hq
  rcases hq with rfl|hq
  ·exact ⟨h1,hcp,hlt⟩
  ·split at hq
   ·obtain ⟨a,b,e⟩:=xM hr k c q (fun e=>by subst e;have:(({ data:=#[] }:ByteArray)).size=0:=rfl;omega) hq
    exact ⟨a,qY5 b hcp,by omega⟩
   ·simp at hq
theorem qPi {d:Dk} (hr:eU d.L) (hz:∀ e ∈ d.L,e.1.size≤1048576):∀ (k:Nat) (p m q:ByteArray),p≠{ data:=#[] }→p.size≤1048576→1048577 - p.size≤k→m ∈ vis d k p→fD d m=1→par q=m→(aS d.L q).isSome=true→q ∈ vis d k p
|0,p,m,q,hp,hpz,hk,h,_,_,_=>by simp [vis] at h
|k + 1,p,m,q,hp,hpz,hk,h,hm,hq,hqs=>by
  rw [sG,List.mem_flatMap] at h ⊢;obtain ⟨c,hc,hmc⟩:=h;obtain ⟨h1,h2⟩:=(sR hr).1 hc
  have hlt:p.size < c.size:=by have:=qKu (p:=c) (by rw [h2];exact hp);rw [h2] at this;exact this
  have hcz:c.size≤1048576:=by
   obtain ⟨x,hx⟩:=Option.isSome_iff_exists.1 h1;exact hz _ (cP hx)
  have hcn:c≠{ data:=#[] }:=fun e=>by subst e;have:(({ data:=#[] }:ByteArray)).size=0:=rfl;omega
  refine ⟨c,hc,?_⟩;rw [lC,List.mem_cons] at hmc ⊢
  right
  rcases hmc with rfl|hmc
  ·rw [if_pos hm];obtain ⟨j,rfl⟩:∃ j,k=j + 1:=⟨k - 1,by omega⟩
   rw [sG,List.mem_flatMap];exact ⟨q,(sR hr).2 ⟨hqs,hq⟩,by rw [lC];exact List.mem_cons_self ..⟩
  ·split at hmc
   ·rename_i hkc;rw [if_pos hkc];exact qPi hr hz k c m q hcn hcz (by omega) hmc hm hq hqs
   ·simp at hmc
theorem zAr {d:Dk} (hr:eU d.L) (hz:∀ e ∈ d.L,e.1.size≤1048576) (hf:Fit d) {p:ByteArray} (hp:p≠{ data:=#[] }) (hpz:p.size≤1048576):∀ (n:Nat) (q:ByteArray),q.size≤n→(aS d.L q).isSome=true→iL q p=true→q≠p→q ∈ vis d 1048577 p
|n,q,hn,hs,hu,hne=>by
  obtain ⟨x,hx⟩:=Option.isSome_iff_exists.1 hs
  have hpu:=qVy hu hne hp
  rcases hf.par q x hx with e|⟨y,hy,hd⟩
  ·rw [e] at hpu
   have:=qPj hpu
   have h0:(({ data:=#[] }:ByteArray)).size=0:=rfl
   exact absurd (ByteArray.size_eq_zero_iff.1 (by omega:p.size=0)) hp
  ·by_cases hqp:par q=p
   ·rw [show (1048577:Nat)=1048576 + 1 from rfl,sG,List.mem_flatMap]
    exact ⟨q,(sR hr).2 ⟨hs,hqp⟩,by rw [lC];exact List.mem_cons_self ..⟩
   ·have hlt:(par q).size < q.size:=qKu (fun e=>by rw [e] at hy;exact hf.ne hy rfl)
    match n,hn with
   |0,hn=>omega
   |n + 1,hn =>
     have:=zAr hr hz hf hp hpz n (par q) (by omega) (by rw [hy];rfl) hpu hqp
     exact qPi hr hz _ p (par q) q hp hpz (by omega) this (sT.2 ⟨y,hy,hd⟩) rfl hs
theorem zNd {d:Dk} (hr:eU d.L) (hz:∀ e ∈ d.L,e.1.size≤1048576) (hf:Fit d) {p:ByteArray} (hp:p≠{ data:=#[] }) (hpz:p.size≤1048576) (q:ByteArray):q ∈ vis d 1048577 p↔(aS d.L q).isSome=true∧iL q p=true∧q≠p :=
 ⟨fun h=>by obtain ⟨a,b,c⟩:=xM hr _ p q hp h;exact ⟨a,b,zMp c⟩,fun ⟨a,b,c⟩=>zAr hr hz hf hp hpz _ q (Nat.le_refl _) a b c⟩
theorem qK5 {α β:Type} {f:α→List β}:∀ {l:List α},l.Nodup→(∀ a ∈ l,(f a).Nodup)→(∀ a ∈ l,∀ b ∈ l,a≠b→∀ x ∈ f a,x ∉ f b)→(l.flatMap f).Nodup
|[],_,_,_=>by simp
|a :: l,hn,h1,h2=>by
  rw [List.nodup_cons] at hn;rw [List.flatMap_cons,List.nodup_append];refine ⟨h1 a (List.mem_cons_self ..),qK5 hn.2 (fun b hb=>h1 b (List.mem_cons_of_mem _ hb)) (fun b hb c hc=>h2 b (List.mem_cons_of_mem _ hb) c (List.mem_cons_of_mem _ hc)),?_⟩
  intro x hx y hy e;subst e;obtain ⟨b,hb,hxb⟩:=List.mem_flatMap.1 hy;exact h2 a (List.mem_cons_self ..) b (List.mem_cons_of_mem _ hb) (fun e=>hn.1 (e ▸ hb)) x hx hxb
theorem qEu {d:Dk} (hr:eU d.L):∀ (k:Nat) (p:ByteArray),p≠{ data:=#[] }→(vis d k p).Nodup
|0,p,_=>by simp [vis]
|k + 1,p,hp=>by
  have hch:∀ c ∈ gR d p,c≠{ data:=#[] }∧p.size < c.size∧par c=p:=fun c hc=>by
   obtain ⟨h1,h2⟩:=(sR hr).1 hc
   have hlt:p.size < c.size:=by have:=qKu (p:=c) (by rw [h2];exact hp);rw [h2] at this;exact this
   exact ⟨fun e=>by subst e;have:(({ data:=#[] }:ByteArray)).size=0:=rfl;omega,hlt,h2⟩
  rw [sG];refine qK5 ((qLg hr p).imp fun {a b} h=>zL7 h) (fun c hc=>?_) (fun a ha b hb hab x hxa hxb=>?_)
  ·obtain ⟨hc0,-,-⟩:=hch c hc;rw [lC,List.nodup_cons];refine ⟨fun h=>?_,?_⟩
   ·split at h
    ·have:=(xM hr k c c hc0 h).2.2;omega
    ·simp at h
   ·split
    ·exact qEu hr k c hc0
    ·simp
  ·have un:∀ c ∈ gR d p,∀ x ∈ lC d k c,iL x c=true:=fun c hc x hx=>by
    rw [lC,List.mem_cons] at hx
    rcases hx with rfl|hx
    ·exact zDy _
    ·split at hx
     ·exact (xM hr k c x (hch c hc).1 hx).2.1
     ·simp at hx
   have h1:=un a ha x hxa
   have h2:=un b hb x hxb
   have key:∀ a b,a ∈ gR d p→b ∈ gR d p→a≠b→iL x a=true→iL x b=true→a.size≤b.size→False:=fun a b ha hb hab h1 h2 hs=>by
    obtain ⟨a0,a1,a2⟩:=hch a ha;obtain ⟨b0,b1,b2⟩:=hch b hb
    have:=qVy (zDz h1 h2 a0 b0 hs) (fun e=>hab e.symm) a0
    rw [b2] at this
    have:=qPj this
    omega
   rcases Nat.le_total a.size b.size with hs|hs
   ·exact key a b ha hb hab h1 h2 hs
   ·exact key b a hb ha (fun e=>hab e.symm) h2 h1 hs
theorem zAq {d:Dk} (hr:eU d.L) {k:Nat} {p:ByteArray} (hp:p≠{ data:=#[] }):(vis d k p).length≤d.L.length :=
 qT4 _ _ (qEu hr k p hp) fun s hs=>(xM hr k p s hp hs).1
theorem qKx {q v:ByteArray} (h:iL q v=true) (hn:q≠v) (hv:v≠{ data:=#[] }):q.data.toList=v.data.toList ++ 47 :: (cV v q).data.toList:=by
 obtain ⟨t,ht,hs⟩:=kX h hv
 rcases hs with rfl|⟨r,rfl⟩
 ·exact absurd (kE (by rw [ht,List.append_nil])) hn
 ·rw [ht]
  congr 2
  have e:(v.data.toList ++ 47 :: r).drop (v.data.toList.length + 1)=r:=by
   rw [List.drop_append,List.drop_of_length_le (by omega),List.nil_append,Nat.add_sub_cancel_left]
   rfl
  rw [cV,qYc,ht,Lib.size_eq v,e,List.take_of_length_le];rw [Lib.size_eq q,ht,List.length_append,List.length_cons];omega
theorem qKy {q v:ByteArray} (h:iL q v=true) (hn:q≠v) (hv:v≠{ data:=#[] }):q=v ++ stroke ++ cV v q:=by
 refine kE ?_;rw [qKx h hn hv];simp [stroke]
theorem zBn {a b v:ByteArray} (ha:iL a v=true) (hna:a≠v) (hb:iL b v=true) (hnb:b≠v) (hv:v≠{ data:=#[] }) (e:cV v a=cV v b):a=b:=by
 rw [qKy ha hna hv,qKy hb hnb hv,e]
theorem qWc:∀ (c x y:List UInt8),Op.bytesLess (c ++ x) (c ++ y)=Op.bytesLess x y
|[],x,y=>rfl
|a :: c,x,y=>by
  rw [List.cons_append,List.cons_append,Op.bytesLess,qWc c x y];simp
theorem zNb {a b v:ByteArray} (ha:iL a v=true) (hna:a≠v) (hb:iL b v=true) (hnb:b≠v) (hv:v≠{ data:=#[] }):blt (cV v a) (cV v b)=blt a b:=by
 rw [blt,blt,Lib.toList_data,Lib.toList_data,Lib.toList_data,Lib.toList_data,qKx ha hna hv,qKx hb hnb hv];rw [qWc,Op.bytesLess];simp
def lD (x:Itm):Nd:=if x.dir=true then (1,ByteArray.empty) else (2,x.data)
def inV (v:ByteArray) (e:ByteArray × Itm):Bool:=iL e.1 v && !decide (e.1=v)
def mJ (d:Dk) (v:ByteArray):List (ByteArray × Nd):=(d.L.filter (inV v)).map fun e=>(cV v e.1,lD e.2)
theorem nB {v:ByteArray} {e:ByteArray × Itm}:inV v e=true↔iL e.1 v=true∧e.1≠v:=by simp [inV]
theorem qP7 {d:Dk} (hr:eU d.L) {v:ByteArray} (hv:v≠{ data:=#[] }):eU (mJ d v):=by
 unfold mJ eU;rw [List.pairwise_map];refine (List.Pairwise.and_mem.1 (List.Pairwise.filter (inV v) hr)).imp ?_;rintro a b ⟨ha,hb,h⟩;obtain ⟨a1,a2⟩:=nB.1 (List.mem_filter.1 ha).2;obtain ⟨b1,b2⟩:=nB.1 (List.mem_filter.1 hb).2;rw [zNb a1 a2 b1 b2 hv];exact h
theorem zEv {d:Dk} (hr:eU d.L) {v:ByteArray} (hv:v≠{ data:=#[] }) (o:ByteArray) (n:Nd):aS (mJ d v) o=some n↔∃ q x,aS d.L q=some x∧iL q v=true∧q≠v∧cV v q=o∧lD x=n:=by
 constructor
 ·intro h
  have:=cP h
  rw [mJ,List.mem_map] at this;obtain ⟨e,he,h2⟩:=this;obtain ⟨he1,he2⟩:=List.mem_filter.1 he;obtain ⟨a,b⟩:=nB.1 he2
  injection h2 with h3 h4
  exact ⟨e.1,e.2,dX hr he1,a,b,h3,h4⟩
 ·rintro ⟨q,x,hx,h1,h2,rfl,rfl⟩;refine dX (qP7 hr hv) ?_;rw [mJ,List.mem_map];exact ⟨(q,x),List.mem_filter.2 ⟨cP hx,nB.2 ⟨h1,h2⟩⟩,rfl⟩
theorem qP4 {α:Type}:∀ {a b:List (ByteArray × α)},eU a→eU b→(∀ s x,aS a s=some x↔aS b s=some x)→a=b
|[],[],_,_,_=>rfl
|[],(t,y) :: r,_,hb,h=>by
  have:=(h t y).2 (by simp [aS])
  cases this
|(t,y) :: r,[],_,hb,h=>by
  have:=(h t y).1 (by simp [aS])
  cases this
|(t,y) :: r,(s,x) :: q,ha,hb,h=>by
  obtain ⟨a1,a2⟩:=List.pairwise_cons.1 ha;obtain ⟨b1,b2⟩:=List.pairwise_cons.1 hb
  have e1:=cP ((h t y).1 (by simp [aS]))
  have e2:=cP ((h s x).2 (by simp [aS]))
  have ets:t=s:=by
   rcases List.mem_cons.1 e1 with e|e
   ·cases e;rfl
   ·rcases List.mem_cons.1 e2 with e'|e'
    ·cases e';rfl
    ·have c1:=b1 _ e
     have c2:=a1 _ e'
     have:=mW c1
     dsimp only at c1 c2 this;rw [c2] at this;cases this
  subst ets
  have exy:y=x:=by
   have:=(h t y).1 (by simp [aS])
   simp only [aS,if_true,Option.some.injEq] at this;exact this.symm
  subst exy
  congr 1
  refine qP4 a2 b2 fun u z=>?_
  by_cases e:u=t
  ·subst e;constructor
   ·intro hz
    have:=a1 _ (cP hz)
    dsimp only at this;rw [jT] at this;cases this
   ·intro hz
    have:=b1 _ (cP hz)
    dsimp only at this;rw [jT] at this;cases this
  ·have:=h u z
   simpa only [aS,if_neg (show ¬ t=u from fun e'=>e e'.symm)] using this
end Go.Sw
end
