/-
  Functions whose body holds a range over a function: its end, with the mark among the deferred calls.
-/
import Derived.Test.YtlihpgmgiehjkaaGreatDoorSwT
import Derived.Test.YtlihpgmgiehjkaaGreatDoorMu
import Derived.RangeFuncKeeps
import Derived.RangeFuncLeaves
set_option linter.unusedSimpArgs false
set_option linter.unusedVariables false
section
set_option maxRecDepth 20000
namespace Go.Sw
open Go Go.Tr Go.Eng Go.Dk Go.Proofs.YtlihpgmgiehjkaaGreatDoor
def zPy (v:ByteArray) (old t:List Ent) (d0:Dk) (p:ByteArray) (o:Option Itm):Prop :=
 ((bP t p).1=1→o=some kB)∧((bP t p).1=2→(bP old p=bP t p→o=aH d0.L (inn v p))∧(bP old p≠bP t p→∃ x,o=some x∧x.dir=false∧x.data=(bP t p).2∧x.loose=false∧d0.stamps < x.stamp))
def qP8 (v:ByteArray) (old t:List Ent) (d0:Dk) (p:ByteArray):Option Itm:=if (bP t p).1≠(bP old p).1 then none else aH d0.L (inn v p)
structure P2 (v:ByteArray) (old t:List Ent) (d0:Dk) (D0:Int→ByteArray) (S k n:Nat) (d:Dk) (pre:List Ent):Prop where
 calm:Calm d
 out:∀ q,¬ (eE q v=true∧q≠v)→aH d.L q=aH d0.L q
 inn1:∀ p,p ∉ mB pre→aH d.L (inn v p)=qP8 v old t d0 p
 inn2:∀ p,p ∈ mB pre→zPy v old t d0 p (aH d.L (inn v p))
 stamps:d0.stamps≤d.stamps
 sy:∃ D,Sy d D∧∀ n,n≤d0.stamps→D n=D0 n
 sz:Sz d S (k + pre.length) (n + 2 * pre.length)
theorem Sz.mono {d:Dk} {S k n S' k' n':Nat} (h:Sz d S k n) (hS:S≤S') (hk:k≤k') (hn:n≤n'):Sz d S' k' n':=by
 have h1:=h.len;have h2:=h.cn;have h3:=h.cm;have h4:=h.cst;have h5:=h.csp
 exact ⟨h.keys,by omega,fun p=>by obtain ⟨a,b,c⟩:=h.lim p;exact ⟨by omega,by omega,c⟩,by omega,by omega,by omega,by omega⟩
theorem P2.begin {v:ByteArray} {old t:List Ent} {d0 d:Dk} {D0:Int→ByteArray} {S k n:Nat} (h:P1 v old t d0 D0 S k n d old.reverse) (ho:Tree old) (h0:Vol d0 v old):P2 v old t d0 D0 S k (n + old.length) d []:=by
 refine ⟨h.calm,h.out,fun p _=>?_,fun p hp=>by simp [mB] at hp,h.stamps,h.sy,by have:=h.sz;rw [List.length_reverse] at this;exact this⟩
 rw [h.inL p,qP8]
 by_cases hm:(bP t p).1≠(bP old p).1
 ·rw [if_pos hm]
  by_cases hp:p ∈ mB old.reverse
  ·rw [if_pos ⟨hp,hm⟩]
  ·rw [if_neg (fun hh=>hp hh.1)]
   refine h0.none p ?_
   by_cases e:bP old p=qBa
   ·rw [e];rfl
   ·exact absurd (List.mem_map.2 ⟨_,List.mem_reverse.2 (kF e),rfl⟩) hp
 ·rw [if_neg hm,if_neg (fun hh=>hm hh.2)]
theorem P2.par {v:ByteArray} {old t:List Ent} {d0 d:Dk} {D0:Int→ByteArray} {S k n:Nat} {pre post:List Ent} {e:Ent} (h:P2 v old t d0 D0 S k n d pre) (hl:t=pre ++ e :: post) (ht:Tree t) (h0:Vol d0 v old):∃ y,aH d.L (par (inn v e.1))=some y∧y.dir=true:=by
 have he:e ∈ t:=by rw [hl];simp
 obtain ⟨e1,e2,e3,e4⟩:=ht.each e he;rw [zAv e1]
 by_cases hp:Go.Tr.par e.1={ data:=#[] }
 ·rw [if_pos hp];exact ⟨kB,by rw [h.out v (fun hh=>hh.2 rfl)];exact h0.top,rfl⟩
 ·rw [if_neg hp]
  have hk:(bP t (Go.Tr.par e.1)).1=1:=e4.resolve_left hp
  have hm:(Go.Tr.par e.1,bP t (Go.Tr.par e.1)) ∈ t:=kF fun hh=>by rw [hh] at hk;cases hk
  have hri:=ht.ri
  have hb:blt (Go.Tr.par e.1) e.1=true:=zAw (jZ e1)
  have hin:Go.Tr.par e.1 ∈ mB pre:=by
   rw [hl] at hm hri;obtain ⟨r1,r2,r3⟩:=List.pairwise_append.1 hri;obtain ⟨r4,r5⟩:=List.pairwise_cons.1 r2
   rcases List.mem_append.1 hm with a|a
   ·exact List.mem_map.2 ⟨_,a,rfl⟩
   ·rcases List.mem_cons.1 a with a|a
    ·have:Go.Tr.par e.1=e.1:=congrArg Prod.fst a
     rw [this,eD] at hb;cases hb
    ·have:=r4 _ a
     dsimp only at this
     have:=gG this
     rw [hb] at this;cases this
  exact ⟨kB,(h.inn2 _ hin).1 hk,rfl⟩
theorem zEa {d e:Dk} {D:Int→ByteArray} (h:Sy d D) {v p:ByteArray} {x:Itm} (hx:aH d.L (inn v p)=some x) (hd:x.dir=false) (hc:Calm d) (hv:pOk v 1=true) (hp:pOk p 5=true):mR d (nG d (inn v p)).2 D:=by
 have hi:=qAc hx
 have hm:=qCw hc.down hv hp (k:=1) (by decide)
 have hf:file d (inn v p)=0:=by unfold file;rw [hm,qZo hx,hi,hd];rfl
 have e:nG d (inn v p)=(0,{ { d with armed:=-1,steps:=d.steps + 1 } with L:=Dk.put (inn v p) { x with kept:=x.data,loose:=false,anew:=false } d.L,n:=d.n + 1 }):=by
  unfold nG;rw [hf,hc.step,hi];rfl
 rw [e]
 have:=h.put (e:={ { d with armed:=-1,steps:=d.steps + 1 } with L:=Dk.put (inn v p) { x with kept:=x.data,loose:=false,anew:=false } d.L,n:=d.n + 1 }) (D':=D) (p:=inn v p) (x:={ x with kept:=x.data,loose:=false,anew:=false }) rfl (Int.le_refl _) (h.key _ x hx) (h.par _ x hx) (fun y hy hd'=>by rw [hx] at hy;rw [← Option.some.inj hy,hd] at hd';cases hd') (fun hd'=>by rw [show x.dir=true from hd'] at hd;cases hd) (h.st _ x hx) (fun _ _=>rfl) (fun _=>h.kn _ x hx hd)
 exact ⟨D,this,fun _ _=>rfl,Int.le_refl _⟩
structure Went (v:ByteArray) (old:List Ent) (S k n:Nat) (d:Dk) (e:Ent):Prop where
 dir:e.2.1=1→(dY d (inn v e.1)).1=0
 file:e.2.1≠1→bP old e.1≠e.2→(cW d (inn v e.1) e.2.2).1=0∧(nG (cW d (inn v e.1) e.2.2).2 (inn v e.1)).1=0∧Calm (cW d (inn v e.1) e.2.2).2∧Sz (cW d (inn v e.1) e.2.2).2 S k n
theorem P2.step {v:ByteArray} {old t:List Ent} {d0 d:Dk} {D0:Int→ByteArray} {S k n:Nat} {pre post:List Ent} {e:Ent} (h:P2 v old t d0 D0 S k n d pre) (hl:t=pre ++ e :: post) (ho:Tree old) (ht:Tree t) (h0:Vol d0 v old) (hv:pOk v 1=true) (hvz:v.size≤1000) (htz:∀ e ∈ t,e.1.size≤1000) (hS:4096≤S) :
  Went v old S (k + pre.length + 1) (n + 2 * pre.length + 1) d e∧P2 v old t d0 D0 S k n (qC v old d e) (pre ++ [e]):=by
 have he:e ∈ t:=by rw [hl];simp
 have hge:bP t e.1=e.2:=qAf ht.ri he
 obtain ⟨e1,e2,e3,e4⟩:=ht.each e he;obtain ⟨y,hy,hyd⟩:=h.par hl ht h0
 have hri:=ht.ri
 rw [hl] at hri;obtain ⟨r1,r2,r3⟩:=List.pairwise_append.1 hri
 have hnot:e.1 ∉ mB pre:=fun hm=>by
  obtain ⟨x,hx,hxe⟩:=List.mem_map.1 hm
  have:=r3 x hx e (List.mem_cons_self ..)
  rw [hxe,eD] at this;cases this
 have hmid:=h.inn1 e.1 hnot
 have hmem:∀ {p},p≠e.1→(p ∈ mB (pre ++ [e])↔p ∈ mB pre):=fun {p} hp=>by simp [mB,hp]
 have hlen:(pre ++ [e]).length=pre.length + 1:=by simp
 obtain ⟨D,sy,hD⟩:=h.sy
 have h0s:=h.sz.csp.1
 have hkey:=zBn hvz (htz e he)
 -- a state that turns at e's path alone
 have turn:∀ {d':Dk} {o:Option Itm},Calm d'→(∀ x,aH d'.L x=if x=inn v e.1 then o else aH d.L x)→d0.stamps≤d'.stamps→(∃ D,Sy d' D∧∀ n,n≤d0.stamps→D n=D0 n)→Sz d' S (k + pre.length + 1) (n + 2 * pre.length + 2)→zPy v old t d0 e.1 o→P2 v old t d0 D0 S k n d' (pre ++ [e]):=fun {d' o} hc hlook hs hsy hz hf=>by
  refine ⟨hc,fun q hq=>by rw [hlook,if_neg (zHd hq)];exact h.out q hq,fun p hp=>?_,fun p hp=>?_,hs,hsy,by rw [hlen];exact hz.mono (Nat.le_refl _) (by omega) (by omega)⟩
  ·have hpe:p≠e.1:=fun hh=>by subst hh;simp [mB] at hp
   rw [hlook,if_neg (fun hh=>hpe (qG9 hh))]
   exact h.inn1 p (fun hh=>hp ((hmem hpe).2 hh))
  ·by_cases hpe:p=e.1
   ·subst hpe;rw [hlook,if_pos rfl];exact hf
   ·rw [hlook,if_neg (fun hh=>hpe (qG9 hh))]
    exact h.inn2 p ((hmem hpe).1 hp)
 by_cases hd:e.2.1=1
 ·have hno:∀ z,aH d.L (inn v e.1)=some z→z.dir=true:=fun z hz=>by
   rw [hmid,qP8] at hz;split at hz
   ·cases hz
   ·rename_i hk
    have hk:(bP old e.1).1=1:=by rw [hge,hd] at hk;simpa using Eq.symm (Decidable.of_not_not hk)
    rw [h0.dirs _ hk] at hz;rw [← Option.some.inj hz];rfl
  obtain ⟨z1,z2⟩:=zEy h.calm hv e1 hy hyd hno;refine ⟨⟨fun _=>z1,fun hh=>absurd hd hh⟩,?_⟩
  rw [qC,if_pos hd]
  have hz:=z2.sz (k':=k + pre.length + 1) h.sz hkey (zHl S) (by split <;> omega)
  refine turn z2.calm z2.look (Int.le_trans h.stamps z2.stamps.1) (qG7 (gD sy h0s 1 (inn v e.1) ByteArray.empty 0) hD h.stamps) (hz.mono (Nat.le_refl _) (Nat.le_refl _) (by omega)) ⟨fun _=>rfl,fun hh=>?_⟩
  rw [hge,hd] at hh;cases hh
 ·have hk2:e.2.1=2:=by
   have:=iU ht e.1
   rw [hge] at this;omega
  by_cases hs:bP old e.1=e.2
  ·refine ⟨⟨fun hh=>absurd hh hd,fun _ hh=>absurd hs hh⟩,?_⟩
   rw [qC,if_neg hd,if_pos hs];refine turn (o:=aH d.L (inn v e.1)) h.calm (fun x=>by split <;> (try subst x) <;> rfl) h.stamps h.sy (h.sz.mono (Nat.le_refl _) (by omega) (by omega)) ⟨fun hh=>?_,fun _=>⟨fun _=>?_,fun hh=>absurd (by rw [hs,hge]) hh⟩⟩
   ·rw [hge,hk2] at hh;cases hh
   ·rw [hmid,qP8,if_neg];rw [hs,hge];simp
  ·have hno:∀ z,aH d.L (inn v e.1)=some z→z.dir=false:=fun z hz=>by
    rw [hmid,qP8] at hz;split at hz
    ·cases hz
    ·rename_i hk
     have hk:(bP old e.1).1=2:=by rw [hge,hk2] at hk;simpa using Eq.symm (Decidable.of_not_not hk)
     obtain ⟨x,hx,hxd,-⟩:=h0.files _ hk;rw [hx] at hz;rw [← Option.some.inj hz];exact hxd
   obtain ⟨z1,z2,zi,zs⟩:=zEx (s:=e.2.2) h.calm hv e1 hy hyd hno
   have hds:e.2.2.size≤4096:=by
    have:=qR0 ht (p:=e.1) (by rw [hge];exact hk2)
    rw [hge] at this;exact this
   have hz:=z2.sz (k':=k + pre.length + 1) h.sz hkey (by
    obtain ⟨a,b,-⟩:=h.sz.lim (inn v e.1);exact ⟨by show e.2.2.size≤S;omega,b,fun hh=>by cases hh⟩) (by split <;> omega)
   obtain ⟨d1,hd1⟩:∃ d1,(cW d (inn v e.1) e.2.2).2=d1:=⟨_,rfl⟩
   have hw:=qG7 (gD sy h0s 2 (inn v e.1) e.2.2 0) hD h.stamps
   rw [show (qA0 d (kT 2) (inn v e.1) e.2.2 0)=(cW d (inn v e.1) e.2.2).2 from rfl] at hw
   rw [hd1] at z2 zs hz hw;obtain ⟨x,hx⟩:∃ x,x=({ aT d (inn v e.1) with data:=e.2.2,loose:=true,anew:=true,stamp:=d.stamps + 1 }:Itm):=⟨_,rfl⟩
   rw [← hx] at z2
   have hxd:x.dir=false:=by rw [hx];exact zi
   have hlx:aH d1.L (inn v e.1)=some x:=by rw [z2.look,if_pos rfl]
   obtain ⟨y1,y2,y3⟩:=zK6 z2.calm hv e1 hlx hxd;obtain ⟨D1,sy1,hD1⟩:=hw;refine ⟨⟨fun hh=>absurd hh hd,fun _ _=>by rw [hd1];exact ⟨z1,y1,z2.calm,hz⟩⟩,?_⟩
   rw [qC,if_neg hd,if_neg hs,hd1]
   have hz2:=y2.sz (k':=k + pre.length + 1) hz hkey (by
    rw [hx];exact ⟨by show e.2.2.size≤S;omega,by show e.2.2.size≤S;omega,fun _=>Nat.le_refl _⟩) (by rw [hlx];simp)
   refine turn (o:=some { x with kept:=x.data,loose:=false,anew:=false }) y2.calm (fun q=>?_) (by rw [y3,zs];have:=h.stamps;omega) (qG7 (zEa (e:=d1) sy1 hlx hxd z2.calm hv e1) hD1 (by rw [zs];have:=h.stamps;omega)) hz2 ⟨fun hh=>?_,fun _=>⟨fun hh=>absurd (by rw [hh,hge]) hs,fun _=>⟨_,rfl,hxd,?_,rfl,?_⟩⟩⟩
   ·rw [y2.look,z2.look];split <;> rfl
   ·rw [hge,hk2] at hh;cases hh
   ·rw [hx,hge]
   ·rw [hx];show d0.stamps < d.stamps + 1
    have:=h.stamps
    omega
theorem P2.done {v:ByteArray} {old t:List Ent} {d0 d:Dk} {D0:Int→ByteArray} {S k n:Nat} (h:P2 v old t d0 D0 S k n d t) (ho:Tree old) (ht:Tree t) (h0:Vol d0 v old):Vol d v t:=by
 have mem:∀ {p},(bP t p).1≠0→p ∈ mB t:=fun {p} hp=>List.mem_map.2 ⟨_,kF fun e=>hp (by rw [e];rfl),rfl⟩
 refine ⟨by rw [h.out v (fun hh=>hh.2 rfl)];exact h0.top,fun p hp=>(h.inn2 p (mem (by omega))).1 hp,fun p hp=>?_,fun p hp=>?_⟩
 ·obtain ⟨a,b⟩:=(h.inn2 p (mem (by omega))).2 hp
  by_cases hs:bP old p=bP t p
  ·obtain ⟨x,hx,r1,r2,r3⟩:=h0.files p (by rw [hs];exact hp)
   exact ⟨x,by rw [a hs];exact hx,r1,by rw [r2,hs],r3⟩
  ·obtain ⟨x,hx,r1,r2,r3,-⟩:=b hs;exact ⟨x,hx,r1,r2,r3⟩
 ·have hno:p ∉ mB t:=fun hm=>by
   obtain ⟨e,he,rfl⟩:=List.mem_map.1 hm;rw [qAf ht.ri he] at hp;exact (ht.each e he).2.2.1 hp
  rw [h.inn1 p hno,qP8,hp]
  by_cases hk:(bP old p).1=0
  ·rw [if_neg (by rw [hk];simp)];exact h0.none p hk
  ·rw [if_pos (fun hh=>hk hh.symm)]
end Go.Sw
end
section
set_option maxRecDepth 20000
namespace Go.Sw
open Go Go.Tr Go.Eng Go.Dk Go.Proofs.YtlihpgmgiehjkaaGreatDoor
def LOk (d:Dk):Prop:=d.Ok 1073741824∧d.L.length≤1000
structure LayOk (v:ByteArray) (old t:List Ent) (d:Dk):Prop where
 rem:∀ pre post e,old.reverse=pre ++ e :: post→LOk (eB v t d pre)∧((bP t e.1).1≠e.2.1→(cS (eB v t d pre) (inn v e.1)).1=0)
 dir:∀ pre post e,t=pre ++ e :: post→e.2.1=1→LOk (eW v old (eB v t d old.reverse) pre)∧(dY (eW v old (eB v t d old.reverse) pre) (inn v e.1)).1=0
 file:∀ pre post e,t=pre ++ e :: post→e.2.1≠1→bP old e.1≠e.2→LOk (eW v old (eB v t d old.reverse) pre)∧(cW (eW v old (eB v t d old.reverse) pre) (inn v e.1) e.2.2).1=0∧LOk (cW (eW v old (eB v t d old.reverse) pre) (inn v e.1) e.2.2).2∧(nG (cW (eW v old (eB v t d old.reverse) pre) (inn v e.1) e.2.2).2 (inn v e.1)).1=0
theorem zAe (s:ByteArray):∀ (L:List (ByteArray × Itm)),tot (Dk.del s L)≤tot L
|[]=>Int.le_refl _
|(p,x) :: r=>by
  have:=zAe s r
  rw [Dk.del];split
  ·rw [tot];omega
  ·rw [tot,tot];omega
theorem zD7 {d:Dk} {B:Int} (h:d.Ok B) (p:ByteArray):(cS d p).2.Ok (B + 1):=by
 have h0:=uK h (B':=B + 1) (by omega)
 have h1:=zMs h
 unfold cS
 (repeat' split)
 ·exact h0
 ·exact h0
 ·exact h0
 ·exact h1
 ·exact ⟨vT _ h.rise,fun e he=>h.keys e (zF he),by have:=zAe p d.L;have:=h.size;show tot (Dk.del p d.L)≤_;omega,h1.n,h1.m,h1.steps,h1.stamps,h1.armed⟩
theorem qY7 (d:Dk) (p:ByteArray):(cS d p).2.L.length≤d.L.length:=by
 have h:=(jQ d).1
 unfold cS
 (repeat' split)
 ·exact Nat.le_refl _
 ·exact Nat.le_refl _
 ·exact Nat.le_refl _
 ·rw [h];exact Nat.le_refl _
 ·exact qHb p d.L
theorem zAk {v:ByteArray} {t:List Ent}:∀ (l:List Ent) {d:Dk} {B:Int},d.Ok B→(eB v t d l).Ok (B + l.length)∧(eB v t d l).L.length≤d.L.length
|[],d,B,h=>⟨uK h (by simp),Nat.le_refl _⟩
|e :: l,d,B,h=>by
  have hs:(lH v t d e).Ok (B + 1)∧(lH v t d e).L.length≤d.L.length:=by
   unfold lH;split
   ·exact ⟨uK h (by omega),Nat.le_refl _⟩
   ·exact ⟨zD7 h _,qY7 _ _⟩
  obtain ⟨a,b⟩:=zAk (v:=v) (t:=t) l hs.1;refine ⟨?_,Nat.le_trans b hs.2⟩;rw [List.length_cons];exact uK a (by push_cast;omega)
theorem qFp (v:ByteArray) (t:List Ent) (d:Dk) (l:List Ent) (e:Ent):eB v t d (l ++ [e])=lH v t (eB v t d l) e:=by
 unfold eB;rw [List.foldl_append];rfl
theorem qFz (v:ByteArray) (old:List Ent) (d:Dk) (l:List Ent) (e:Ent):eW v old d (l ++ [e])=qC v old (eW v old d l) e:=by
 unfold eW;rw [List.foldl_append];rfl
theorem qUe {α:Type} {p:List α→Prop} (h0:p []) (hs:∀ l a,p l→p (l ++ [a])) (l:List α):p l:=by
 have h:∀ r:List α,p r.reverse:=fun r=>by
  induction r with
 |nil=>exact h0
 |cons a r ih=>rw [List.reverse_cons];exact hs _ _ ih
 have:=h l.reverse
 rwa [List.reverse_reverse] at this
theorem qSq {d:Dk} {S k n:Nat} (hc:Calm d) (h:Sz d S k n) (hS:S≤1048576) (hk:k≤1000) (hn:n≤1048576):LOk d:=⟨h.ok hc hS hk hn,Nat.le_trans h.len hk⟩
theorem zQg {v:ByteArray} {old t:List Ent} {d:Dk} {D:Int→ByteArray} {S k n:Nat} (hc:Calm d) (sy:Sy d D) (hz:Sz d S k n) (ho:Tree old) (ht:Tree t) (h0:Vol d v old) (hv:pOk v 1=true) (hvz:v.size≤1000) (hoz:∀ e ∈ old,e.1.size≤1000) (htz:∀ e ∈ t,e.1.size≤1000) (hS1:4096≤S) (hS2:S≤1048576) (hk:k≤700) (hn:n≤10000) :
  LayOk v old t d∧P2 v old t d D S k (n + old.length) (wK v old t d) t:=by
 have hol:=ho.len
 have htl:=ht.len
 have hR:∀ (pre post:List Ent),old.reverse=pre ++ post→P1 v old t d D S k n (eB v t d pre) pre:=by
  refine qUe ?_ ?_
  ·intro post _;exact ⟨hc,fun _ _=>rfl,fun p=>by rw [if_neg (by simp [mB])];rfl,Int.le_refl _,⟨D,sy,fun _ _=>rfl⟩,hz⟩
  ·intro pre e ih post hl
   have hl':old.reverse=pre ++ e :: post:=by rw [hl];simp
   rw [qFp];exact ((ih (e :: post) hl').step hl' ho ht h0 hv hvz hoz).2
 have hR0:=hR old.reverse [] (by simp)
 have hP:∀ (pre post:List Ent),t=pre ++ post→P2 v old t d D S k (n + old.length) (eW v old (eB v t d old.reverse) pre) pre:=by
  refine qUe ?_ ?_
  ·intro post _;exact P2.begin hR0 ho h0
  ·intro pre e ih post hl
   have hl':t=pre ++ e :: post:=by rw [hl];simp
   rw [qFz];exact ((ih (e :: post) hl').step hl' ho ht h0 hv hvz htz hS1).2
 have lenR:∀ {pre post:List Ent} {e:Ent},old.reverse=pre ++ e :: post→pre.length≤200:=fun {pre post e} hl=>by
  have:=congrArg List.length hl
  rw [List.length_reverse,List.length_append,List.length_cons] at this;omega
 have lenP:∀ {pre post:List Ent} {e:Ent},t=pre ++ e :: post→pre.length < 200:=fun {pre post e} hl=>by
  have:=congrArg List.length hl
  rw [List.length_append,List.length_cons] at this;omega
 refine ⟨⟨fun pre post e hl=>?_,fun pre post e hl hd=>?_,fun pre post e hl hd hs=>?_⟩,hP t [] (by simp)⟩
 ·have h:=hR pre (e :: post) hl
  have:=lenR hl
  exact ⟨qSq h.calm h.sz hS2 (by omega) (by omega),(h.step hl ho ht h0 hv hvz hoz).1⟩
 ·have h:=hP pre (e :: post) hl
  have:=lenP hl
  exact ⟨qSq h.calm h.sz hS2 (by omega) (by omega),(h.step hl ho ht h0 hv hvz htz hS1).1.dir hd⟩
 ·have h:=hP pre (e :: post) hl
  have:=lenP hl
  obtain ⟨a,b,c,q⟩:=(h.step hl ho ht h0 hv hvz htz hS1).1.file hd hs;exact ⟨qSq h.calm h.sz hS2 (by omega) (by omega),a,qSq c q hS2 (by omega) (by omega),b⟩
end Go.Sw
end
section
namespace Go.Eng
open Go Go.RowKit
def Stay (T:Nat→Prop) (A B:World):Prop:=∀ k,T k→B.heap[k]?=A.heap[k]?
def BkE (T:Nat→Prop) (W:World) (sv:Value) (len:Nat) (vals:Nat→Nat→Value):Prop :=
 ∃ a cap,sv=.slice a len cap∧(0 < len→∃ b off,a=some ⟨b,off,none⟩∧T b∧∀ i k,i < len→k < 3→W.cell? ⟨b,off + (i * 3 + k),none⟩=some (vals i k))
variable {P:Program} {N:Nat}
def MD (P:Program) (N:Nat) (fn:Func) (R:Value→World→Prop) (ds:List Deferred) (c:Code) (l:Env) (w:World):Prop :=
 bH N l=true→∀ F:Fr N,F.ds=(ds,none)→c.wpIn (FW none) 0 P (bodyPostM Fence.wide 0 P fn (Ret R)) (mk F l) w
theorem qXy {f:FuncId} {fn:Func} {c:Code} {args:List Value} {w:World} {R:Value→World→Prop}
  (hf:P.funcs[f]?=some fn) (hb:fn.body=some c) (hN:fn.ntmps=N) (hle:args.length≤N)
  (h:MD P N fn R [] c (kN 0 args) w):Calls P f args.toArray w (Ret R):=by
 subst hN;refine (callsIn_wide (n:=0)).1 (callsIn_of_wp_marks (F:=Fence.wide) hf hb trivial ?_)
 let F:Fr fn.ntmps:=⟨args.toArray ++ Array.replicate (fn.ntmps - args.toArray.size) undef,by simp;omega,([],none)⟩
 have e:mk F (kN 0 args)={ tmps:=args.toArray ++ Array.replicate (fn.ntmps - args.toArray.size) undef,defers:=[] }:=by
  show Act.mk _ _=Act.mk _ _
  rw [qEb];intro p hp;obtain ⟨_,h2⟩:=qE5 args 0 p hp;simp only [Nat.sub_zero] at h2
  have hlt:p.1 < args.length:=by
   rcases Nat.lt_or_ge p.1 args.length with h|h
   ·exact h
   ·rw [List.getElem?_eq_none h] at h2;cases h2
  show (args.toArray ++ Array.replicate (fn.ntmps - args.toArray.size) undef)[p.1]?=some p.2
  rw [Array.getElem?_append_left (by simpa using hlt)]
  simpa using h2
 rw [← e];exact h (qBl 0 args (by simpa using hle)) F rfl
theorem zRc {fn:Func} {R:Value→World→Prop} {ds:List Deferred} {x y:Code} {l:Env} {w:World}
  (h:W P N x (fun e l' w'=>e=.normal∧MD P N fn R ds y l' w') l w):MD P N fn R ds (.seq x y) l w:=fun hk F hF=>by
 have h1:=h hk F
 rw [hF] at h1;refine wpIn_seq (Code.wpIn_mono ?_ h1);rintro e a w' ⟨F',l',hf,rfl,hk',he,hQ⟩;subst he;exact hQ hk' F' hf
theorem zRd {fn:Func} {R:Value→World→Prop} {D:Nat} {c:Code} {l:Env} {w:World}
  (h:W P N c (fun e l' w'=>(e=.normal∨e=.ret)∧w'.heap[D]?=some (.deferred (some []))∧jT P l' (w'.putObj D (.deferred none)) fn.results.toList fun vs=>R (tup vs) (w'.putObj D (.deferred none))) l w) :
  MD P N fn R [{ target:=.collected D,args:=#[] }] c l w:=fun hk F hF=>by
 have h1:=h hk F
 rw [hF] at h1;refine Code.wpIn_mono ?_ h1;rintro e a w' ⟨F',l',hf,rfl,hk',he,hD,hr⟩;obtain ⟨v,r1,r2⟩:=qA7 F' hk' hr
 have hl:LeavesInM Fence.wide 0 P fn (mk F' l').tmps (Ret R) (mk F' l').defers .returning w':=by
  have:(mk F' l').defers=[{ target:=.collected D,args:=#[] }]:=congrArg Prod.fst hf
  rw [this];exact ⟨by simp,.inl ⟨D,_,rfl,run_takeDeferred hD,v,r1,r2⟩⟩
 rcases he with rfl|rfl
 ·exact hl
 ·exact hl
end Go.Eng
end
