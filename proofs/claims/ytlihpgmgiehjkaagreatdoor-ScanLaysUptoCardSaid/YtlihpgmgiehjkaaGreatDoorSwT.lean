/-
  Scan: what laying a tree makes of a disk: plain.
-/
import Derived.Test.YtlihpgmgiehjkaaGreatDoorSwN
import Derived.Test.YtlihpgmgiehjkaaGreatDoorDsP
set_option linter.unusedSimpArgs false
set_option linter.unusedVariables false
section
set_option maxRecDepth 20000
namespace Go.Sw
open Go Go.Tr Go.Eng Go.Dk Go.Proofs.YtlihpgmgiehjkaaGreatDoor
def inn (v p:ByteArray):ByteArray:=v ++ stroke ++ p
theorem mF (v p:ByteArray):(inn v p).data.toList=v.data.toList ++ 47 :: p.data.toList:=by simp [inn,stroke]
theorem sQ (v p:ByteArray):(inn v p).size=v.size + 1 + p.size:=by rw [Lib.size_eq,mF,List.length_append,List.length_cons,Lib.size_eq,Lib.size_eq];omega
theorem qTb (v p:ByteArray):cC v (inn v p)=p:=by
 refine eM ?_
 have e:(v.data.toList ++ 47 :: p.data.toList).drop (v.data.toList.length + 1)=p.data.toList:=by
  rw [List.drop_append,List.drop_of_length_le (by omega),List.nil_append,Nat.add_sub_cancel_left]
  rfl
 rw [cC,qDo,mF,sQ,Lib.size_eq v,e,List.take_of_length_le];rw [← Lib.size_eq];omega
theorem qG9 {v p q:ByteArray} (h:inn v p=inn v q):p=q:=by rw [← qTb v p,h,qTb]
theorem qKu (v p:ByteArray):eE (inn v p) v=true:=fE (mF v p) (.inr ⟨_,rfl⟩)
theorem qTi (v p:ByteArray):inn v p≠v:=fun e=>by
 have:=congrArg ByteArray.size e
 rw [sQ] at this;omega
theorem qZi {q v:ByteArray} (h:eE q v=true) (hn:q≠v) (hv:v≠{ data:=#[] }):q=inn v (cC v q):=qEn h hn hv
theorem qXu:∀ (a b:List UInt8),fB (a ++ 47 :: b)=fB a ++ fB b
|[],b=>by rw [List.nil_append,dZ];rfl
|c :: a,b=>by
  have ih:=qXu a b
  rw [List.cons_append]
  by_cases e:c=47
  ·subst e;rw [dZ,dZ,ih];rfl
  ·cases hc:fB a with
  |nil=>exact absurd hc (mX a)
  |cons x t =>
    rw [hc] at ih;rw [fN e (show fB (a ++ 47 :: b)=x :: (t ++ fB b) from ih),fN e hc];rfl
theorem qPw (v p:ByteArray):parts (inn v p)=parts v ++ parts p:=by
 rw [parts,mF,qXu,List.map_append];rfl
theorem zMn {v p:ByteArray} (hv:pOk v 1=true) (hp:pOk p 5=true):pOk (inn v p) 6=true:=by
 simp only [pOk,Bool.and_eq_true,decide_eq_true_eq] at hv hp ⊢;rw [qPw,List.length_append,List.all_append,Bool.and_eq_true];exact ⟨by push_cast;omega,hv.2,hp.2⟩
theorem zMm {p:ByteArray} (hp:pOk p 5=true):pOk p 6=true:=by
 simp only [pOk,Bool.and_eq_true,decide_eq_true_eq] at hp ⊢;exact ⟨by omega,hp.2⟩
theorem qNh:∀ {l:List UInt8},l.count 47=0→cU l=none
|[],_=>rfl
|c :: r,h=>by
  have hc:c≠47:=fun e=>by subst e;simp at h
  rw [List.count_cons_of_ne hc] at h;rw [cU,qNh h];simp [hc]
theorem zAv {v p:ByteArray} (hp:pOk p 5=true):par (inn v p)=if par p={ data:=#[] } then v else inn v (par p):=by
 have hp6:=zMm hp
 have hlast:=qKt v.data.toList p.data.toList
 rw [← mF] at hlast
 have hpl:(par (inn v p)).data.toList=(v.data.toList ++ 47 :: p.data.toList).take (v.data.toList.length + (match cU p.data.toList with|some i=>i + 1|none=>0)):=by
  rw [sB,pY,hlast,Option.getD_some,mF];rfl
 by_cases h:par p={ data:=#[] }
 ·rw [if_pos h]
  have h1:=qXr hp6
  rw [decide_eq_true h,decide_eq_true_eq,qBi hp6,qEm] at h1
  have h2:cU p.data.toList=none:=qNh (by omega)
  refine eM ?_;rw [hpl,h2];simp
 ·rw [if_neg h]
  cases hl:cU p.data.toList with
 |none=>exact absurd (eM (by rw [sB,pY,hl];rfl)) h
 |some i =>
   refine eM ?_;rw [hpl,hl,mF,sB,pY,hl,Option.getD_some];rw [List.take_append,List.take_of_length_le (by omega),Nat.add_sub_cancel_left,List.take_succ_cons]
structure Calm (d:Dk):Prop where
 rise:dW d.L
 down:d.down=false
 armed:d.armed=-1
 rooms:d.R=[]
theorem Calm.step {d:Dk} (h:Calm d):bJ d=(0,{ d with armed:=-1,steps:=d.steps + 1 }):=by
 unfold bJ;rw [h.armed,if_neg (by decide),if_neg (by decide)]
theorem qCw {d:Dk} (h:d.down=false) {v p:ByteArray} (hv:pOk v 1=true) (hp:pOk p 5=true) {k:Int} (hk:k≤1):may d (inn v p) k=0:=by
 have h6:=zMn hv hp
 have hd:qDx (inn v p)=((parts (inn v p)).length:Nat):=qBi h6
 have h1:1≤(parts v).length:=by
  have:=qUx v
  cases hh:parts v with
 |nil=>exact absurd hh this
 |cons=>simp
 have h2:1≤(parts p).length:=by
  have:=qUx p
  cases hh:parts p with
 |nil=>exact absurd hh this
 |cons=>simp
 unfold may;rw [h,h6,hd,qPw,List.length_append];simp;omega
theorem qTz {d:Dk} {q:ByteArray} {y:Itm} (h:aH d.L (par q)=some y) (hy:y.dir=true):jB d q=true:=by
 unfold jB aT;rw [h,Option.getD_some,hy,Bool.or_true]
theorem qAc {d:Dk} {q:ByteArray} {y:Itm} (h:aH d.L q=some y):aT d q=y:=by rw [aT,h];rfl
theorem qZo {d:Dk} {q:ByteArray} {y:Itm} (h:aH d.L q=some y):has d q=true:=by rw [has,h];rfl
theorem zDx {d:Dk} (h:Calm d) (q:ByteArray) (m:Int):qG0 d q m=true:=by rw [qG0,h.rooms];rfl
structure Did (d e:Dk) (q:ByteArray) (o:Option Itm):Prop where
 calm:Calm e
 look:∀ x,aH e.L x=if x=q then o else aH d.L x
 keys:(∀ x ∈ d.L,x.1.size≤1048576)→q.size≤1048576→∀ x ∈ e.L,x.1.size≤1048576
 len:e.L.length≤d.L.length + (if o.isSome=true∧(aH d.L q).isSome=false then 1 else 0)
 m:e.m=d.m
 n:e.n≤d.n + 1
 steps:e.steps=d.steps + 1
 stamps:d.stamps≤e.stamps∧e.stamps≤d.stamps + 1
theorem qTp {d e:Dk} (h:Calm d) {q:ByteArray} {x:Itm} (hL:e.L=Dk.put q x d.L) (h1:e.down=false) (h2:e.armed=-1) (h3:e.R=[]) (hm:e.m=d.m) (hn:e.n≤d.n + 1) (hs:e.steps=d.steps + 1) (ht:d.stamps≤e.stamps∧e.stamps≤d.stamps + 1):Did d e q (some x):=by
 refine ⟨⟨by rw [hL];exact jS _ _ h.rise,h1,h2,h3⟩,fun y=>by rw [hL,eX],fun hk hq y hy=>?_,?_,hm,hn,hs,ht⟩
 ·rw [hL] at hy
  rcases qG hy with rfl|hy
  ·exact hq
  ·exact hk y hy
 ·rw [hL]
  cases hh:(aH d.L q).isSome with
 |true=>rw [vV h.rise hh];omega
 |false=>have:=qS6 q x d.L;simpa using this
theorem zEy {d:Dk} (h:Calm d) {v p:ByteArray} (hv:pOk v 1=true) (hp:pOk p 5=true) {y:Itm} (hy:aH d.L (par (inn v p))=some y) (hd:y.dir=true) (hno:∀ z,aH d.L (inn v p)=some z→z.dir=true) :
  (dY d (inn v p)).1=0∧Did d (dY d (inn v p)).2 (inn v p) (some kB):=by
 have hm:=qCw h.down hv hp (k:=0) (by decide)
 have hu:=qTz hy hd
 have hf:¬ (has d (inn v p)=true∧(aT d (inn v p)).dir=false):=fun ⟨a,b⟩=>by
  obtain ⟨z,hz⟩:=Option.isSome_iff_exists.1 (show (aH d.L (inn v p)).isSome=true from a)
  rw [qAc hz,hno z hz] at b;cases b
 have e:dY d (inn v p)=(0,{ { d with armed:=-1,steps:=d.steps + 1 } with L:=Dk.put (inn v p) kB d.L,n:=d.n + 1 }):=by
  unfold dY;rw [hm,hu,if_neg hf,h.step];rfl
 rw [e];exact ⟨rfl,qTp h rfl h.down rfl h.rooms rfl (Nat.le_refl _) rfl ⟨Int.le_refl _,by show d.stamps≤_;omega⟩⟩
theorem zEx {d:Dk} (h:Calm d) {v p s:ByteArray} (hv:pOk v 1=true) (hp:pOk p 5=true) {y:Itm} (hy:aH d.L (par (inn v p))=some y) (hd:y.dir=true) (hno:∀ z,aH d.L (inn v p)=some z→z.dir=false) :
  (cW d (inn v p) s).1=0∧Did d (cW d (inn v p) s).2 (inn v p) (some { aT d (inn v p) with data:=s,loose:=true,anew:=true,stamp:=d.stamps + 1 })∧(aT d (inn v p)).dir=false∧(cW d (inn v p) s).2.stamps=d.stamps + 1:=by
 have hm:=qCw h.down hv hp (k:=1) (by decide)
 have hu:=qTz hy hd
 have hi:=zH0 hno
 have e:cW d (inn v p) s=(0,pW { d with armed:=-1,steps:=d.steps + 1 } (inn v p) { aT d (inn v p) with data:=s,loose:=true,anew:=true }):=by
  unfold cW;rw [hm,hu,hi,zDx h,h.step];rfl
 rw [e];exact ⟨rfl,qTp h rfl h.down rfl h.rooms rfl (Nat.le_refl _) rfl ⟨by show d.stamps≤d.stamps + 1;omega,by show d.stamps + 1≤_;omega⟩,hi,rfl⟩
theorem zK6 {d:Dk} (h:Calm d) {v p:ByteArray} (hv:pOk v 1=true) (hp:pOk p 5=true) {x:Itm} (hx:aH d.L (inn v p)=some x) (hd:x.dir=false) :
  (nG d (inn v p)).1=0∧Did d (nG d (inn v p)).2 (inn v p) (some { x with kept:=x.data,loose:=false,anew:=false })∧(nG d (inn v p)).2.stamps=d.stamps:=by
 have hm:=qCw h.down hv hp (k:=1) (by decide)
 have hi:=qAc hx
 have hf:file d (inn v p)=0:=by unfold file;rw [hm,qZo hx,hi,hd];rfl
 have e:nG d (inn v p)=(0,{ { d with armed:=-1,steps:=d.steps + 1 } with L:=Dk.put (inn v p) { x with kept:=x.data,loose:=false,anew:=false } d.L,n:=d.n + 1 }):=by
  unfold nG;rw [hf,h.step,hi];rfl
 rw [e];exact ⟨rfl,qTp h rfl h.down rfl h.rooms rfl (Nat.le_refl _) rfl ⟨Int.le_refl _,by show d.stamps≤_;omega⟩,rfl⟩
theorem qZ0 {d:Dk} (h:Calm d) {v p:ByteArray} (hv:pOk v 1=true) (hp:pOk p 5=true) {x:Itm} (hx:aH d.L (inn v p)=some x) (hn:∀ q y,aH d.L q=some y→par q≠inn v p) :
  (cS d (inn v p)).1=0∧Did d (cS d (inn v p)).2 (inn v p) none∧(cS d (inn v p)).2.stamps=d.stamps:=by
 have hm:=qCw h.down hv hp (k:=0) (by decide)
 have hl:eY d (inn v p)=[]:=by
  rw [List.eq_nil_iff_forall_not_mem];intro q hq;obtain ⟨a,b⟩:=(kX h.rise).1 hq;obtain ⟨y,hy⟩:=Option.isSome_iff_exists.1 a;exact hn q y hy b
 have e:cS d (inn v p)=(0,{ { d with armed:=-1,steps:=d.steps + 1 } with L:=Dk.del (inn v p) d.L }):=by
  unfold cS;rw [hm,qZo hx,hl,h.step];rfl
 rw [e];refine ⟨rfl,⟨⟨vT _ h.rise,h.down,rfl,h.rooms⟩,fun y=>kA _ _ _,fun hk _ y hy=>hk y (zF hy),?_,rfl,Nat.le_succ _,rfl,⟨Int.le_refl _,by show d.stamps≤_;omega⟩⟩,rfl⟩
 have:=qHb (inn v p) d.L
 show (Dk.del (inn v p) d.L).length≤_
 omega
end Go.Sw
end
section
set_option maxRecDepth 20000
namespace Go.Sw
open Go Go.Tr Go.Eng Go.Dk Go.Proofs.YtlihpgmgiehjkaaGreatDoor
def lH (v:ByteArray) (t:List Ent) (d:Dk) (e:Ent):Dk:=if (bP t e.1).1=e.2.1 then d else (cS d (inn v e.1)).2
def qC (v:ByteArray) (old:List Ent) (d:Dk) (e:Ent):Dk:=if e.2.1=1 then (dY d (inn v e.1)).2 else if bP old e.1=e.2 then d else (nG (cW d (inn v e.1) e.2.2).2 (inn v e.1)).2
def eB (v:ByteArray) (t:List Ent) (d:Dk) (l:List Ent):Dk:=l.foldl (lH v t) d
def eW (v:ByteArray) (old:List Ent) (d:Dk) (l:List Ent):Dk:=l.foldl (qC v old) d
def wK (v:ByteArray) (old t:List Ent) (d:Dk):Dk:=eW v old (eB v t d old.reverse) t
def mB (l:List Ent):List ByteArray:=l.map Prod.fst
instance decPths (l:List Ent) (p:ByteArray):Decidable (p ∈ mB l):=decidable_of_iff ((l.any fun e=>decide (e.1=p))=true) (by simp [mB])
structure Sz (d:Dk) (S k n:Nat):Prop where
 keys:∀ e ∈ d.L,e.1.size≤1048576
 len:d.L.length≤k
 lim:∀ p,(aT d p).data.size≤S∧(aT d p).kept.size≤S∧((aT d p).anew=false→(aT d p).kept.size≤(aT d p).data.size)
 cn:d.n≤n
 cm:d.m≤n
 cst:0≤d.steps∧d.steps≤n
 csp:0≤d.stamps∧d.stamps≤n
def zRe (S:Nat) (x:Itm):Prop:=x.data.size≤S∧x.kept.size≤S∧(x.anew=false→x.kept.size≤x.data.size)
theorem Did.sz {d e:Dk} {q:ByteArray} {o:Option Itm} (h:Did d e q o) {S k n:Nat} (hz:Sz d S k n) (hq:q.size≤1048576) (ho:zRe S (o.getD itm0)) {k':Nat} (hk:k + (if o.isSome=true∧(aH d.L q).isSome=false then 1 else 0)≤k'):Sz e S k' (n + 1):=by
 have h1:=h.len;have h2:=hz.len;have h3:=h.n;have h4:=hz.cn;have h5:=h.m;have h6:=hz.cm;have h7:=h.steps;have h8:=hz.cst;have h9:=h.stamps;have h10:=hz.csp
 refine ⟨h.keys hz.keys hq,by omega,fun p=>?_,by omega,by omega,by push_cast;omega,by push_cast;omega⟩
 have:aT e p=if p=q then o.getD itm0 else aT d p:=by
  unfold aT;rw [h.look];split <;> rfl
 rw [this];split
 ·exact ho
 ·exact hz.lim p
theorem Sz.ok {d:Dk} {S k n:Nat} (hc:Calm d) (h:Sz d S k n) (hS:S≤1048576) (hk:k≤1000) (hn:n≤1048576):d.Ok 1073741824:=by
 have ht:Dk.tot d.L≤d.L.length * S:=qYf fun e he=>by
  have:=(h.lim e.1).1
  rw [qAc (cN hc.rise (show (e.1,e.2) ∈ d.L from he))] at this;exact this
 have h1:=h.len;have h2:=h.cn;have h3:=h.cm;have h4:=h.cst;have h5:=h.csp
 have h7:=zHi (a:=d.L.length) (b:=0) (by omega) hS
 exact ⟨hc.rise,h.keys,by omega,by omega,by omega,by omega,by omega,by rw [hc.armed];decide⟩
theorem Sz.lo {d:Dk} {S k n:Nat} (h:Sz d S k n) (hS:S≤1048576):Lo d:=fun p=>by
 obtain ⟨a,b,c⟩:=h.lim p;exact ⟨by omega,by omega,c⟩
theorem zHl (S:Nat):zRe S kB:=⟨Nat.zero_le _,Nat.zero_le _,fun _=>Nat.le_refl _⟩
theorem zHm (S:Nat):zRe S itm0:=⟨Nat.zero_le _,Nat.zero_le _,fun _=>Nat.le_refl _⟩
structure Vol (d:Dk) (v:ByteArray) (t:List Ent):Prop where
 top:aH d.L v=some kB
 dirs:∀ p,(bP t p).1=1→aH d.L (inn v p)=some kB
 files:∀ p,(bP t p).1=2→∃ x,aH d.L (inn v p)=some x∧x.dir=false∧x.data=(bP t p).2∧x.loose=false
 none:∀ p,(bP t p).1=0→aH d.L (inn v p)=none
theorem iU {t:List Ent} (h:Tree t) (p:ByteArray):(bP t p).1=0∨(bP t p).1=1∨(bP t p).1=2:=by
 have hw:=h.whole p
 unfold rC at hw;split at hw
 ·rename_i e;exact .inr (.inr e)
 ·simp only [Bool.and_eq_true,Bool.or_eq_true,decide_eq_true_eq] at hw
  rcases hw.1 with e|e
  ·exact .inl e
  ·exact .inr (.inl e)
theorem qXk {t:List Ent} (h:Tree t) {p:ByteArray} (hp:(bP t p).1=1):bP t p=(1,ByteArray.empty):=by
 have hw:=h.whole p
 unfold rC at hw;rw [if_neg (by omega)] at hw
 simp only [Bool.and_eq_true,decide_eq_true_eq] at hw;exact Prod.ext hp (ByteArray.size_eq_zero_iff.1 hw.2)
theorem qR0 {t:List Ent} (h:Tree t) {p:ByteArray} (hp:(bP t p).1=2):(bP t p).2.size≤4096:=by
 have hw:=h.whole p
 unfold rC at hw;rw [if_pos hp] at hw
 simpa using hw
theorem zEf {t:List Ent} (h:Tree t) {p:ByteArray} {n:Nd}:aH t p=some n↔bP t p=n∧n.1≠0:=by
 constructor
 ·intro hl
  have hm:=cB hl
  exact ⟨qAf h.ri hm,(h.each _ hm).2.2.1⟩
 ·rintro ⟨rfl,hn⟩;exact cN h.ri (kF fun e=>hn (by rw [e];rfl))
theorem Vol.ref {d:Dk} {v:ByteArray} {t:List Ent} (h:Vol d v t) (ht:Tree t) (hr:dW d.L) (hv:v≠{ data:=#[] }):pX d v=t:=by
 refine qEg (qEi hr hv) ht.ri fun o n=>?_
 rw [qPj hr hv,zEf ht]
 have key:∀ x,aH d.L (inn v o)=some x→bP t o=gZ x∧(gZ x).1≠0:=fun x hx=>by
  rcases iU ht o with e|e|e
  ·rw [h.none o e] at hx;cases hx
  ·rw [h.dirs o e] at hx;rw [← Option.some.inj hx,qXk ht e];exact ⟨rfl,by decide⟩
  ·obtain ⟨y,hy,hd,hdat,-⟩:=h.files o e;rw [hy] at hx
   have:=Option.some.inj hx
   subst this;rw [gZ,hd];exact ⟨Prod.ext e (by rw [← hdat];rfl),by simp⟩
 constructor
 ·rintro ⟨q,x,hx,a,b,rfl,rfl⟩;rw [qZi a b hv] at hx;exact key x hx
 ·rintro ⟨rfl,hn⟩
  have:∃ x,aH d.L (inn v o)=some x:=by
   rcases iU ht o with e|e|e
   ·exact absurd e hn
   ·exact ⟨_,h.dirs o e⟩
   ·obtain ⟨y,hy,-⟩:=h.files o e;exact ⟨y,hy⟩
  obtain ⟨x,hx⟩:=this;exact ⟨inn v o,x,hx,qKu v o,qTi v o,qTb v o,(key x hx).1.symm⟩
structure P1 (v:ByteArray) (old t:List Ent) (d0:Dk) (D0:Int→ByteArray) (S k n:Nat) (d:Dk) (pre:List Ent):Prop where
 calm:Calm d
 out:∀ q,¬ (eE q v=true∧q≠v)→aH d.L q=aH d0.L q
 inL:∀ p,aH d.L (inn v p)=if p ∈ mB pre∧(bP t p).1≠(bP old p).1 then none else aH d0.L (inn v p)
 stamps:d0.stamps≤d.stamps
 sy:∃ D,Sy d D∧∀ n,n≤d0.stamps→D n=D0 n
 sz:Sz d S k (n + pre.length)
theorem zHd {v p q:ByteArray} (h:¬ (eE q v=true∧q≠v)):q≠inn v p:=fun e=>h ⟨by rw [e];exact qKu v p,by rw [e];exact qTi v p⟩
theorem qG7 {d e:Dk} {D D0:Int→ByteArray} {d0:Dk} (h:mR d e D) (hd:∀ n,n≤d0.stamps→D n=D0 n) (hs:d0.stamps≤d.stamps):∃ D',Sy e D'∧∀ n,n≤d0.stamps→D' n=D0 n:=by
 obtain ⟨D',h1,h2,-⟩:=h;exact ⟨D',h1,fun n hn=>by rw [h2 n (by omega),hd n hn]⟩
theorem zBn {v p:ByteArray} (hv:v.size≤1000) (hp:p.size≤1000):(Go.Sw.inn v p).size≤1048576:=by rw [sQ];omega
theorem P1.step {v:ByteArray} {old t:List Ent} {d0 d:Dk} {D0:Int→ByteArray} {S k n:Nat} {pre post:List Ent} {e:Ent} (h:P1 v old t d0 D0 S k n d pre) (hl:old.reverse=pre ++ e :: post) (ho:Tree old) (ht:Tree t) (h0:Vol d0 v old) (hv:pOk v 1=true) (hvz:v.size≤1000) (hoz:∀ e ∈ old,e.1.size≤1000) :
  ((bP t e.1).1≠e.2.1→(cS d (inn v e.1)).1=0)∧P1 v old t d0 D0 S k n (lH v t d e) (pre ++ [e]):=by
 have hold:old=post.reverse ++ e :: pre.reverse:=by
  have:=congrArg List.reverse hl
  rw [List.reverse_reverse] at this;rw [this];simp
 have he:e ∈ old:=by rw [hold];simp
 have hge:bP old e.1=e.2:=qAf ho.ri he
 obtain ⟨e1,e2,e3,e4⟩:=ho.each e he
 have hri:=ho.ri
 rw [hold] at hri;obtain ⟨r1,r2,r3⟩:=List.pairwise_append.1 hri;obtain ⟨r4,r5⟩:=List.pairwise_cons.1 r2
 have hnot:e.1 ∉ mB pre:=fun hm=>by
  obtain ⟨x,hx,hxe⟩:=List.mem_map.1 (show e.1 ∈ pre.map Prod.fst from hm)
  have:=r4 x (List.mem_reverse.2 hx)
  rw [hxe,eD] at this;cases this
 obtain ⟨D,sy,hD⟩:=h.sy
 by_cases hm:(bP t e.1).1=e.2.1
 ·refine ⟨fun hh=>absurd hm hh,?_⟩
  rw [lH,if_pos hm];refine ⟨h.calm,h.out,fun p=>?_,h.stamps,h.sy,?_⟩
  ·rw [h.inL p]
   by_cases hp:p=e.1
   ·subst hp;rw [if_neg (fun hh=>hh.2 (by rw [hge];exact hm)),if_neg (fun hh=>hh.2 (by rw [hge];exact hm))]
   ·have:p ∈ mB (pre ++ [e])↔p ∈ mB pre:=by simp [mB,hp]
    simp only [this]
  ·have:=h.sz
   exact ⟨this.keys,this.len,this.lim,by have:=this.cn;simp;omega,by have:=this.cm;simp;omega,by have:=this.cst;simp;omega,by have:=this.csp;simp;omega⟩
 ·have hx:∃ x,aH d.L (inn v e.1)=some x:=by
   rw [h.inL,if_neg (fun hh=>hnot hh.1)]
   rcases iU ho e.1 with a|a|a
   ·rw [hge] at a;exact absurd a e3
   ·exact ⟨_,h0.dirs _ a⟩
   ·obtain ⟨x,hx,-⟩:=h0.files _ a;exact ⟨x,hx⟩
  obtain ⟨x,hx⟩:=hx
  have hnc:∀ q y,aH d.L q=some y→par q≠inn v e.1:=fun q y hy hpq=>by
   have hv0:v≠{ data:=#[] }:=jZ hv
   have hu:eE q v=true:=qHn (by rw [← hpq];exact qTy:eE q (inn v e.1)=true) (qKu v e.1)
   have hq:q≠v:=fun e'=>by
    have:=qUz q
    rw [hpq,sQ,e'] at this;omega
   have hqi:=qZi hu hq hv0
   obtain ⟨c,hc⟩:∃ c,cC v q=c:=⟨_,rfl⟩;rw [hc] at hqi;subst hqi;rw [h.inL c] at hy
   have hnn:¬ (c ∈ mB pre∧(bP t c).1≠(bP old c).1):=fun hh=>by rw [if_pos hh] at hy;cases hy
   rw [if_neg hnn] at hy
   have hk0:(bP old c).1≠0:=fun hh=>by rw [h0.none c hh] at hy;cases hy
   have hpc:pOk c 5=true:=ho.pok hk0
   rw [zAv hpc] at hpq
   have hpne:¬ par c={ data:=#[] }:=fun hh=>by rw [if_pos hh] at hpq;exact qTi v e.1 hpq.symm
   rw [if_neg hpne] at hpq
   have hpe:=qG9 hpq
   have hk1:(bP old e.1).1=1:=by
    rcases ho.up hk0 with hh|hh
    ·exact absurd hh hpne
    ·rw [hpe] at hh;exact hh
   rw [hge] at hk1
   have ht1:(bP t c).1=0:=Decidable.byContradiction fun hh=>by
    rcases ht.up hh with a|a
    ·exact hpne a
    ·rw [hpe] at a;exact hm (by rw [a,hk1])
   refine hnn ⟨?_,by rw [ht1];exact fun hh=>hk0 hh.symm⟩
   have hcm:=kF (t:=old) (q:=c) (fun hh=>hk0 (by rw [hh];rfl))
   have hlt:blt e.1 c=true:=by rw [← hpe];exact zAw (jZ hpc)
   rw [hold] at hcm
   rcases List.mem_append.1 hcm with a|a
   ·have:=r3 _ a e (List.mem_cons_self ..)
    dsimp only at this
    have:=gG this
    rw [hlt] at this;cases this
   ·rcases List.mem_cons.1 a with a|a
    ·have:c=e.1:=congrArg Prod.fst a
     rw [this,eD] at hlt;cases hlt
    ·exact List.mem_map.2 ⟨_,List.mem_reverse.1 a,rfl⟩
  obtain ⟨z1,z2,z3⟩:=qZ0 h.calm hv e1 hx hnc;refine ⟨fun _=>z1,?_⟩
  rw [lH,if_neg hm]
  have hz:=z2.sz (k':=k) h.sz (zBn hvz (hoz e he)) (zHm S) (by simp)
  refine ⟨z2.calm,fun q hq=>by rw [z2.look,if_neg (zHd hq)];exact h.out q hq,fun p=>?_,by rw [z3];exact h.stamps,qG7 (gD sy h.sz.csp.1 3 (inn v e.1) ByteArray.empty 0) hD h.stamps,?_⟩
  ·rw [z2.look]
   by_cases hp:p=e.1
   ·subst hp;rw [if_pos rfl,if_pos ⟨by simp [mB],by rw [hge];exact hm⟩]
   ·rw [if_neg (fun hh=>hp (qG9 hh)),h.inL p]
    have:p ∈ mB (pre ++ [e])↔p ∈ mB pre:=by simp [mB,hp]
    simp only [this]
  ·rw [List.length_append];exact hz
end Go.Sw
end
