/-
  Scan: a tree laid over another, and a loss: plain.
-/
import Derived.Test.YtlihpgmgiehjkaaGreatDoorRng
import Derived.Test.YtlihpgmgiehjkaaGreatDoorSwN
set_option linter.unusedSimpArgs false
set_option linter.unusedVariables false
set_option maxRecDepth 20000
namespace Go.Sw
open Go Go.Tr Go.Eng Go.Dk Go.Proofs.YtlihpgmgiehjkaaGreatDoor
theorem qXs:∀ (l:List UInt8),l.length + 1=((fB l).map fun x=>x.length + 1).sum
|[]=>by decide
|c :: r=>by
  have ih:=qXs r
  by_cases e:c=47
  ·subst e;rw [dZ,List.map_cons,List.sum_cons,← ih];simp;omega
  ·cases hc:fB r with
  |nil=>exact absurd hc (mX r)
  |cons x t =>
    rw [fN e hc];rw [hc] at ih;simp only [List.map_cons,List.sum_cons,List.length_cons] at ih ⊢;omega
theorem qT3 {m:Nat}:∀ {l:List Nat},(∀ x ∈ l,x≤m)→l.sum≤l.length * m
|[],_=>by simp
|a :: l,h=>by
  have h1:=h a (by simp)
  have h2:=qT3 (m:=m) (l:=l) fun x hx=>h x (by simp [hx])
  rw [List.sum_cons,List.length_cons,Nat.add_mul];omega
theorem zG6 {p:ByteArray} {d:Nat} (h:pOk p d=true):p.size≤d * 13:=by
 simp only [pOk,Bool.and_eq_true,decide_eq_true_eq] at h;obtain ⟨h1,h2⟩:=h
 have hs:=qXs p.data.toList
 have hle:=qT3 (l:=(fB p.data.toList).map fun x=>x.length + 1) (m:=13) fun x hx=>by
  obtain ⟨y,hy,rfl⟩:=List.mem_map.1 hx
  have:=List.all_eq_true.1 h2 (mkB y) (List.mem_map.2 ⟨y,hy,rfl⟩)
  simp only [dU,Bool.and_eq_true,decide_eq_true_eq] at this
  have hz:(mkB y).size=y.length:=by simp [mkB,ByteArray.size]
  omega
 rw [← hs,List.length_map] at hle
 have hl:(parts p).length=(fB p.data.toList).length:=by simp [parts]
 rw [Lib.size_eq]
 have:(fB p.data.toList).length * 13≤d * 13:=Nat.mul_le_mul_right _ (by omega)
 omega
theorem nA {t:List Ent} (h:Tree t):∀ e ∈ t,e.1.size≤1000:=fun e he=>by
 have:=zG6 (h.each e he).1
 exact Nat.le_trans this (by decide)
theorem qD8 {t:List Ent} (h:Tree t):∀ e ∈ t,e.2.2.size≤4096:=fun e he=>by
 have hg:=qAf h.ri he
 have hw:=h.whole e.1
 rcases iU h e.1 with a|a|a
 ·rw [hg] at a;exact absurd a (h.each e he).2.2.1
 ·have:=qXk h a
  rw [hg] at this;rw [this];exact Nat.zero_le _
 ·have:=qR0 h a
  rw [hg] at this;exact this
def lyW:ByteArray:={ data:=#[119] }
def qKm:ByteArray:={ data:=#[119,47,120] }
def qAa:ByteArray:={ data:=#[111,116,104,101,114] }
def lyX:Itm:=⟨false,qAa,ByteArray.empty,true,true,1⟩
def dL2:Dk:=⟨[(scH,kB),(lyW,kB)],[],2,0,-1,false,2,0⟩
def dL3:Dk:=⟨[(scH,kB),(lyW,kB),(qKm,lyX)],[],3,1,-1,false,3,0⟩
theorem ly2:dY dS1 lyW=(0,dL2):=by kernel_rfl
theorem ly3:cW dL2 qKm qAa=(0,dL3):=by kernel_rfl
theorem zMy:dW dL2.L:=by
 refine List.pairwise_cons.2 ⟨fun y hy=>?_,List.pairwise_singleton _ _⟩
 simp only [List.mem_cons,List.not_mem_nil,or_false] at hy;subst hy;rw [← lL];decide
theorem zMx:dW dL3.L:=by
 refine List.pairwise_cons.2 ⟨fun y hy=>?_,List.pairwise_cons.2 ⟨fun y hy=>?_,List.pairwise_singleton _ _⟩⟩
 ·simp only [List.mem_cons,List.not_mem_nil,or_false] at hy
  rcases hy with rfl|rfl <;> (rw [← lL];decide)
 ·simp only [List.mem_cons,List.not_mem_nil,or_false] at hy;subst hy;rw [← lL];decide
theorem zSj:dL2.Ok 1099511627776:=⟨zMy,by intro e he;simp only [dL2,List.mem_cons,List.not_mem_nil,or_false] at he;rcases he with rfl|rfl <;> decide,by decide,by decide,by decide,by decide,by decide,by decide⟩
theorem zSa:∃ D,Sy dL3 D:=by
 obtain ⟨D1,s1,-,-⟩:=gD zFu (by decide) 1 scH ByteArray.empty 0
 rw [show qA0 Dk.new (kT 1) scH ByteArray.empty 0=(dY Dk.new scH).2 from rfl,sc1] at s1
 obtain ⟨D2,s2,-,-⟩:=gD s1 (by decide) 1 lyW ByteArray.empty 0
 rw [show qA0 (0,dS1).2 (kT 1) lyW ByteArray.empty 0=(dY dS1 lyW).2 from rfl,ly2] at s2
 obtain ⟨D3,s3,-,-⟩:=gD s2 (by decide) 2 qKm qAa 0
 rw [show qA0 (0,dL2).2 (kT 2) qKm qAa 0=(cW dL2 qKm qAa).2 from rfl,ly3] at s3
 exact ⟨D3,s3⟩
theorem zNo:Calm dL3:=⟨zMx,rfl,rfl,rfl⟩
theorem qG8 (q:ByteArray):aH dL3.L q=if scH=q then some kB else if lyW=q then some kB else if qKm=q then some lyX else none:=by
 simp only [dL3,aH]
theorem zR9:Sz dL3 4096 3 3:=by
 refine ⟨?_,by decide,fun p=>?_,by decide,by decide,by decide,by decide⟩
 ·intro e he;simp only [dL3,List.mem_cons,List.not_mem_nil,or_false] at he
  rcases he with rfl|rfl|rfl <;> decide
 ·unfold aT;rw [qG8]
  (repeat' split) <;> exact ⟨by decide,by decide,by decide⟩
theorem zH3 (p:ByteArray):inn scH p≠lyW∧inn scH p≠qKm:=by
 have h:=mF scH p
 constructor <;> intro e <;> rw [e] at h <;> cases h
theorem zP1:Vol dL3 scH []:=by
 have h0:∀ p,(bP [] p).1=0:=fun p=>rfl
 refine ⟨rfl,fun p h=>(by rw [h0] at h;cases h),fun p h=>(by rw [h0] at h;cases h),fun p _=>?_⟩
 obtain ⟨a,b⟩:=zH3 p;rw [qG8,if_neg (fun e=>qTi scH p e.symm),if_neg (fun e=>a e.symm),if_neg (fun e=>b e.symm)]
theorem zAt:pOk scH 1=true:=by kernel_rfl
theorem qY3:scH≠{ data:=#[] }:=jZ zAt
structure Hub (d:Dk) (t:List Ent) (k n:Nat):Prop where
 calm:Calm d
 sz:Sz d 4096 k n
 vol:Vol d scH t
 out:∀ q,¬ (eE q scH=true∧q≠scH)→aH d.L q=aH dL3.L q
theorem Hub.ok {d:Dk} {t:List Ent} {k n:Nat} (h:Hub d t k n) (hk:k≤1000) (hn:n≤1048576):d.Ok 1073741824:=h.sz.ok h.calm (by decide) hk hn
theorem Hub.fine {d:Dk} {t:List Ent} {k n:Nat} (h:Hub d t k n) (hk:k≤1000) (hn:n≤1048576) {D:Int→ByteArray} (sy:Sy d D):Fine d D:=⟨h.ok hk hn,sy,Nat.le_trans h.sz.len hk⟩
theorem Hub.ref {d:Dk} {t:List Ent} {k n:Nat} (h:Hub d t k n) (ht:Tree t):pX d scH=t:=h.vol.ref ht h.calm.rise qY3
theorem Hub.E {d:Dk} {t:List Ent} {k n:Nat} (h:Hub d t k n):gP d scH=0:=by
 unfold gP;rw [zAt,h.calm.down,mE.2 ⟨kB,h.vol.top,rfl⟩];rfl
theorem hub0:Hub dL3 [] 3 3:=⟨zNo,zR9,zP1,fun _ _=>rfl⟩
theorem Hub.lay {d:Dk} {a b:List Ent} {k n:Nat} (h:Hub d a k n) (ha:Tree a) (hb:Tree b) {D:Int→ByteArray} (sy:Sy d D) (hk:k≤700) (hn:n≤10000) :
  LayOk scH a b d∧Hub (wK scH a b d) b (k + b.length) (n + a.length + 2 * b.length)∧P2 scH a b d D 4096 k (n + a.length) (wK scH a b d) b∧∃ D',Sy (wK scH a b d) D'∧∀ n,n≤d.stamps→D' n=D n:=by
 obtain ⟨l1,l2⟩:=zQg h.calm sy h.sz ha hb h.vol zAt (by decide) (nA ha) (nA hb) (Nat.le_refl _) (by decide) hk hn
 exact ⟨l1,⟨l2.calm,l2.sz,l2.done ha hb h.vol,fun q hq=>by rw [l2.out q hq];exact h.out q hq⟩,l2,l2.sy⟩
def qR1 (a:List Ent) (e:Ent):Bool:=decide (e.2.1=2) && !decide (bP a e.1=e.2)
def pJ (a b:List Ent):Nat:=b.countP (qR1 a)
theorem zGi {d:Dk} {a b:List Ent} {D:Int→ByteArray} {k n k' n':Nat} (h:Hub d a k n) (ha:Tree a) (hb:Tree b) (sy:Sy d D) {e:Dk} (he:Hub e b k' n') (hp:P2 scH a b d D 4096 k (n + a.length) e b):zC5 (jE e scH) (jE d scH)=pJ a b:=by
 rw [zC5,pJ,jE,jE,he.ref hb,h.ref ha,List.countP_map];refine List.countP_congr fun x hx=>?_
 show (!knB (jF e scH x) (a.map (jF d scH)))=true↔qR1 a x=true
 have hg:=qAf hb.ri hx
 have hin:x.1 ∈ mB b:=List.mem_map.2 ⟨x,hx,rfl⟩
 have hst:∀ y:Ent,bS d (scH ++ stroke ++ y.1)≤d.stamps:=fun y=>by
  unfold bS aT
  cases hl:aH d.L (scH ++ stroke ++ y.1) with
 |none=>exact h.sz.csp.1
 |some z=>exact (sy.st _ z hl).2
 have hstE:(jF e scH x).2.1=bS e (inn scH x.1):=rfl
 unfold knB qR1
 rcases iU hb x.1 with c|c|c
 ·rw [hg] at c;exact absurd c (hb.each x hx).2.2.1
 ·rw [hg] at c;simp [jF,c]
 ·obtain ⟨f1,f2⟩:=(hp.inn2 _ hin).2 c;rw [hg] at c f1 f2
  have ex:(jF e scH x).2.2.1=2:=c
  rw [ex,c]
  by_cases hs:bP a x.1=x.2
  ·have hk1:(a.map (jF d scH)).any (kn1 (jF e scH x))=true:=by
    rw [List.any_map,List.any_eq_true]
    have hxa:(x.1,bP a x.1) ∈ a:=kF fun hh=>by rw [hs] at hh;rw [hh] at c;cases c
    refine ⟨_,hxa,?_⟩
    have e1:bS d (scH ++ stroke ++ x.1)=bS e (scH ++ stroke ++ x.1):=by
     unfold bS aT;rw [show scH ++ stroke ++ x.1=inn scH x.1 from rfl,f1 hs]
    show kn1 (jF e scH x) (jF d scH (x.1,bP a x.1))=true
    unfold kn1 jF;dsimp only;rw [hs,e1,c];simp
   rw [hk1,decide_eq_true hs];decide
  ·obtain ⟨z,z1,z2,z3,z4,z5⟩:=f2 hs
   have hk1:(a.map (jF d scH)).any (kn1 (jF e scH x))=false:=by
    rw [List.any_map,List.any_eq_false];intro y hy hh
    have hh:kn1 (jF e scH x) (jF d scH y)=true:=hh
    unfold kn1 at hh;simp only [Bool.and_eq_true,decide_eq_true_eq] at hh
    have h2:bS d (scH ++ stroke ++ y.1)=bS e (inn scH x.1):=hh.1.2
    have h3:=hst y
    rw [h2,bS,aT,z1] at h3
    have h3:z.stamp≤d.stamps:=h3
    omega
   rw [hk1,decide_eq_false hs];decide
theorem qS4 (loss:Int) (q:ByteArray):∀ (ks:List ByteArray) (n:Int) (d:Dk),(aT d q).loose=false→aH (eQ loss ks n d).L q=aH d.L q∧aT (eQ loss ks n d) q=aT d q
|[],n,d,h=>⟨rfl,rfl⟩
|p :: r,n,d,h=>by
  rw [eQ];split
  ·rename_i hl
   have hne:¬ q=p:=fun e=>by rw [← e,h] at hl;cases hl
   have hi:=qC1 d p (wJ (qAk (IntKind.u64.wrap loss) (IntKind.u64.wrap (n + 1))) (aT d p)) q
   rw [if_neg hne] at hi;obtain ⟨a,b⟩:=qS4 loss q r (n + 1) (pW d p (wJ (qAk (IntKind.u64.wrap loss) (IntKind.u64.wrap (n + 1))) (aT d p))) (by rw [hi];exact h)
   refine ⟨?_,by rw [b,hi]⟩
   rw [a];show aH (Dk.put p _ d.L) q=_
   rw [eX,if_neg hne]
  ·exact qS4 loss q r n d h
theorem qJf (loss:Int) (q:ByteArray):∀ (ks:List ByteArray) (n:Int) (d:Dk),(aH (eQ loss ks n d).L q).isSome=(aH d.L q).isSome
|[],n,d=>rfl
|p :: r,n,d=>by
  rw [eQ];split
  ·rename_i hl;rw [qJf loss q r];show (aH (Dk.put p _ d.L) q).isSome=_
   rw [eX];split
   ·rename_i e;subst e;unfold aT at hl
    cases hx:aH d.L q with
   |none=>rw [hx] at hl;cases hl
   |some x=>rfl
   ·rfl
  ·exact qJf loss q r n d
theorem qS3 (loss:Int) {S k:Nat}:∀ (ks:List ByteArray) (n:Int) (d:Dk) (c:Nat),Calm d→Sz d S k c→(∀ p ∈ ks,p.size≤1048576)→Calm (eQ loss ks n d)∧Sz (eQ loss ks n d) S k (c + ks.length)
|[],n,d,c,h1,h2,_=>⟨h1,h2⟩
|p :: r,n,d,c,h1,h2,h3=>by
  have hp:=h3 p (by simp)
  have hr:=fun q hq=>h3 q (List.mem_cons_of_mem p hq)
  rw [eQ,List.length_cons];split
  ·rename_i hlo
   have hhas:(aH d.L p).isSome=true:=by
    unfold aT at hlo
    cases hx:aH d.L p with
   |none=>rw [hx] at hlo;cases hlo
   |some x=>rfl
   have hll:=vV (x:={ wJ (qAk (IntKind.u64.wrap loss) (IntKind.u64.wrap (n + 1))) (aT d p) with stamp:=d.stamps + 1 }) h1.rise hhas
   have g1:=h2.len;have g2:=h2.cn;have g3:=h2.cm;have g4:=h2.cst;have g5:=h2.csp
   have:=qS3 loss (S:=S) (k:=k) r (n + 1) (pW d p (wJ (qAk (IntKind.u64.wrap loss) (IntKind.u64.wrap (n + 1))) (aT d p))) (c + 1) ⟨jS _ _ h1.rise,h1.down,h1.armed,h1.rooms⟩
    ⟨fun y hy=>by
     rcases qG hy with rfl|hy
     ·exact hp
     ·exact h2.keys y hy,by show (Dk.put p _ d.L).length≤k;rw [hll];exact g1,fun q=>by
     rw [qC1];split
     ·have:=zLb (pick:=qAk (IntKind.u64.wrap loss) (IntKind.u64.wrap (n + 1))) (x:=aT d p) ⟨(h2.lim p).1,(h2.lim p).2.1⟩
      exact ⟨this,this,fun _=>Nat.le_refl _⟩
     ·exact h2.lim q,by show d.n + 1≤_;omega,by show d.m≤_;omega,by show 0≤d.steps∧d.steps≤_;push_cast;omega,by show 0≤d.stamps + 1∧d.stamps + 1≤_;push_cast;omega⟩ hr
   rw [show c + 1 + r.length=c + (r.length + 1) from by omega] at this
   exact this
  ·obtain ⟨a,b⟩:=qS3 loss r n d c h1 h2 hr;exact ⟨a,b.mono (Nat.le_refl _) (Nat.le_refl _) (by omega)⟩
theorem Hub.loss {d:Dk} {t:List Ent} {k n:Nat} (h:Hub d t k n) (ht:Tree t) {D:Int→ByteArray} (sy:Sy d D) (loss:Int):Calm (restart d loss)∧Sz (restart d loss) 4096 k (n + k)∧Vol (restart d loss) scH t∧(∃ D',Sy (restart d loss) D')∧(∀ q,(aH (restart d loss).L q).isSome=(aH d.L q).isSome):=by
 have hk:(dE d.L).length=d.L.length:=by simp [dE]
 obtain ⟨a,b⟩:=qS3 loss (dE d.L) 0 d n h.calm h.sz fun p hp=>by
  obtain ⟨y,hy,rfl⟩:=List.mem_map.1 hp;exact h.sz.keys y hy
 have hlen:=h.sz.len
 have at':∀ q,(aT d q).loose=false→aH (restart d loss).L q=aH d.L q:=fun q hq=>(qS4 loss q (dE d.L) 0 d hq).1
 have hdir:∀ {q},aH d.L q=some kB→aH (restart d loss).L q=some kB:=fun {q} hq=>by rw [at' q (by rw [qAc hq];rfl)];exact hq
 obtain ⟨D',s',-,-⟩:=gD sy h.sz.csp.1 6 ByteArray.empty ByteArray.empty loss;refine ⟨⟨a.rise,rfl,rfl,a.rooms⟩,?_,⟨hdir h.vol.top,fun p hp=>hdir (h.vol.dirs p hp),fun p hp=>?_,fun p hp=>?_⟩,⟨D',s'⟩,fun q=>qJf loss q (dE d.L) 0 d⟩
 ·have:=b.mono (Nat.le_refl _) (Nat.le_refl k) (show n + (dE d.L).length≤n + k by omega)
  exact ⟨this.keys,this.len,this.lim,this.cn,this.cm,this.cst,this.csp⟩
 ·obtain ⟨x,hx,x1,x2,x3⟩:=h.vol.files p hp;exact ⟨x,by rw [at' _ (by rw [qAc hx];exact x3)];exact hx,x1,x2,x3⟩
 ·rw [at' _ (by rw [aT,h.vol.none p hp];rfl)]
  exact h.vol.none p hp
theorem qR3:∀ l:List UInt8,l.drop (rK l)=[]∨∃ r,l.drop (rK l)=47 :: r
|[]=>.inl rfl
|c :: r=>by
  rw [rK];split
  ·rename_i e;subst e;exact .inr ⟨r,rfl⟩
  ·rw [List.drop_succ_cons];exact qR3 r
theorem qTx (s:ByteArray):(vol s).data.toList=s.data.toList.take (rK s.data.toList):=by rw [vol,qDo];simp
theorem zFk (p:ByteArray):vol p=scH↔eE p scH=true:=by
 constructor
 ·intro h
  have e:=qTx p
  rw [h] at e;exact fE (t:=p.data.toList.drop (rK p.data.toList)) (by rw [e,List.take_append_drop]) (qR3 _)
 ·intro h;obtain ⟨t,ht,hs⟩:=jA h qY3;refine eM ?_;rw [qTx,ht]
  have e:rK (scH.data.toList ++ t)=3:=by
   have e0:rK t=0:=by rcases hs with rfl|⟨r,rfl⟩ <;> rfl
   show rK (104 :: 117 :: 98 :: t)=3
   simp [rK,e0]
  rw [e];exact List.take_left' rfl
theorem qN1 {v:ByteArray}:∀ {L:List (ByteArray × Itm)},(∀ e ∈ L,(vol e.1=v↔eE e.1 v=true)∧(e.1=v→e.2.data.size=0)∧(inV v e=true→e.2.dir=true→e.2.data.size=0))→qN2 v L=((kK ((L.filter (inV v)).map fun e=>(cC v e.1,gZ e.2)):Nat):Int)
|[],_=>rfl
|(p,x) :: r,h=>by
  have ih:=qN1 (v:=v) (L:=r) fun e he=>h e (List.mem_cons_of_mem _ he)
  obtain ⟨h1,h2,h3⟩:=h (p,x) (List.mem_cons_self ..);dsimp only at h1 h2 h3;rw [qN2,ih]
  by_cases hi:inV v (p,x)=true
  ·obtain ⟨a,b⟩:=iM.1 hi;rw [List.filter_cons_of_pos hi,List.map_cons,kK,kK,List.map_cons,List.sum_cons,if_pos (h1.2 a)]
   have:(gZ x).2.size=x.data.size:=by
    unfold gZ;split
    ·rename_i hd;rw [h3 hi hd];rfl
    ·rfl
   dsimp only;rw [this];push_cast
  ·rw [List.filter_cons_of_neg hi];split
   ·rename_i hv
    have hu:=h1.1 hv
    have:p=v:=Decidable.byContradiction fun hne=>hi (iM.2 ⟨hu,hne⟩)
    rw [h2 this];simp
   ·simp
theorem zL2 {d:Dk} {t:List Ent} (h:Vol d scH t) (ht:Tree t) (hr:dW d.L):used d scH=(kK t:Nat):=by
 have e:=h.ref ht hr qY3
 have:=qN1 (v:=scH) (L:=d.L) fun e he=>⟨zFk _,fun h1=>?_,fun h1 h2=>?_⟩
 ·rw [used,this];show ((kK (pX d scH):Nat):Int)=_
  rw [e]
 ·have hl:=cN hr (show (e.1,e.2) ∈ d.L from he)
  rw [h1,h.top] at hl;rw [← Option.some.inj hl];rfl
 ·have hl:=cN hr (show (e.1,e.2) ∈ d.L from he)
  obtain ⟨a,b⟩:=iM.1 h1;rw [qZi a b qY3] at hl
  rcases iU ht (cC scH e.1) with c|c|c
  ·rw [h.none _ c] at hl;cases hl
  ·rw [h.dirs _ c] at hl;rw [← Option.some.inj hl];rfl
  ·obtain ⟨x,hx,x1,-⟩:=h.files _ c;rw [hx] at hl;rw [← Option.some.inj hl,x1] at h2;cases h2
theorem zHk {d:Dk} (hr:dW d.L) (h:∀ q,¬ (eE q scH=true∧q≠scH)→(aH d.L q).isSome=(aH dL3.L q).isSome):(eY d lyW).length=1:=by
 have hne:¬ eE lyW scH=true:=by decide
 have mem:∀ q,q ∈ eY d lyW↔q=qKm:=fun q=>by
  rw [kX hr];constructor
  ·rintro ⟨a,b⟩
   have hno:¬ (eE q scH=true∧q≠scH):=fun ⟨c1,c2⟩=>by
    have:=qJ1 c1 c2 qY3
    rw [b] at this;exact hne this
   rw [h q hno,qG8] at a;split at a
   ·rename_i e;rw [← e] at b;exact absurd b (by decide)
   split at a
   ·rename_i e;rw [← e] at b;exact absurd b (by decide)
   split at a
   ·rename_i e;exact e.symm
   ·cases a
  ·rintro rfl;refine ⟨?_,by decide⟩
   rw [h qKm (fun hh=>absurd hh.1 (by decide)),qG8];decide
 have hn:(eY d lyW).Nodup:=(qBc hr lyW).imp fun {a b} h=>qNn h
 match hl:eY d lyW,hn,mem with
|[],_,mem=>have:=(mem qKm).2 rfl;simp at this
|[a],_,_=>rfl
|a :: b :: r,hn,mem =>
  have e1:=(mem a).1 (by simp)
  have e2:=(mem b).1 (by simp)
  rw [List.nodup_cons] at hn;exact absurd (by rw [e1,e2];simp) hn.1
end Go.Sw
