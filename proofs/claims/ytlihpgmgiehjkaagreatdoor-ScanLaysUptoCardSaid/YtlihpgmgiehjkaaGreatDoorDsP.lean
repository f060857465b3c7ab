/-
  Plain: what a call does to a disk's bounds; what it leaves alone.
-/
import Derived.Test.YtlihpgmgiehjkaaGreatDoorTrW
import Derived.Test.YtlihpgmgiehjkaaGreatDoorSwJ
set_option linter.unusedSimpArgs false
set_option linter.unusedVariables false
section
namespace Go.Tr
open Go Go.Lib
set_option maxRecDepth 20000
structure Tree (t:List Ent):Prop where
 ri:rise t
 len:t.length≤200
 each:∀ e ∈ t,pOk e.1 5=true∧rC e.2=true∧e.2.1≠0∧(par e.1={ data:=#[] }∨(bP t (par e.1)).1=1)
theorem qT1 (t:List Ent):xS t=0↔Tree t:=by
 constructor
 ·intro h;obtain ⟨hl,ok⟩:=zE5 h;refine ⟨zHf ok,hl,fun e he=>?_⟩
  obtain ⟨i,hi,rfl⟩:=List.getElem_of_mem he
  have:=tY.1 ok i hi
  simp only [qCa,qUm,zDw,Bool.and_eq_true,Bool.not_eq_true',decide_eq_false_iff_not,Bool.or_eq_true,decide_eq_true_eq] at this;rw [uR hi] at this;exact ⟨this.1.1,this.1.2.1,this.1.2.2.1,this.2⟩
 ·intro h;unfold xS;rw [if_neg (by have:=h.len;omega)]
  have:okR t=true:=tY.2 fun i hi=>by
   obtain ⟨h1,h2,h3,h4⟩:=h.each _ (List.getElem_mem hi);simp only [qCa,qUm,zDw,Bool.and_eq_true,Bool.not_eq_true',decide_eq_false_iff_not,Bool.or_eq_true,decide_eq_true_eq];rw [uR hi];refine ⟨⟨h1,h2,h3,?_⟩,h4⟩
   rcases Nat.eq_zero_or_pos i with h|h0
   ·exact .inl h
   ·refine .inr ?_;rw [uR (by omega)]
    exact qCc h.ri (by omega) hi
  rw [this];rfl
theorem Tree.knd {t:List Ent} (h:Tree t):kinds t:=fun e he e0=>(h.each e he).2.2.1 (by rw [e0];rfl)
theorem Tree.ext {a b:List Ent} (ha:Tree a) (hb:Tree b) (h:∀ q,bP a q=bP b q):a=b:=by
 refine qZz a b (List.eq_nil_iff_forall_not_mem.2 fun p hp=>?_)
 exact (zEw p a b ha.ri hb.ri ha.knd hb.knd).1 hp (h p)
theorem kF {t:List Ent} {q:ByteArray} (h:bP t q≠qBa):(q,bP t q) ∈ t:=by
 unfold bP at h ⊢
 cases e:t.find? fun e=>decide (e.1=q) with
|none=>rw [e] at h;exact absurd rfl h
|some x =>
  have h1:=List.mem_of_find?_eq_some e
  have h2:=List.find?_some e
  simp only [decide_eq_true_eq] at h2;show (q,x.2) ∈ t
  rw [← h2];exact h1
theorem qAf {t:List Ent} (h:rise t) {e:Ent} (he:e ∈ t):bP t e.1=e.2:=by
 obtain ⟨i,hi,rfl⟩:=List.getElem_of_mem he;exact zCe h hi
theorem Tree.whole {t:List Ent} (h:Tree t) (q:ByteArray):rC (bP t q)=true:=by
 by_cases e:bP t q=qBa
 ·rw [e];decide
 ·exact (h.each _ (kF e)).2.1
theorem Tree.pok {t:List Ent} (h:Tree t) {q:ByteArray} (e:(bP t q).1≠0):pOk q 5=true:=by
 have:bP t q≠qBa:=fun e'=>e (by rw [e'];rfl)
 exact (h.each _ (kF this)).1
theorem Tree.up {t:List Ent} (h:Tree t) {q:ByteArray} (e:(bP t q).1≠0):par q={ data:=#[] }∨(bP t (par q)).1=1:=by
 have:bP t q≠qBa:=fun e'=>e (by rw [e'];rfl)
 exact (h.each _ (kF this)).2.2.2
theorem Tree.nil:Tree []:=⟨.nil,by simp,fun e he=>by simp at he⟩
end Go.Tr
end
section
set_option maxRecDepth 20000
namespace Go.Dk
open Go Go.Eng Go.Tr Go.Proofs.YtlihpgmgiehjkaaGreatDoor
structure Bd (d:Dk) (S l t:Nat):Prop where
 rise:dW d.L
 keys:∀ e ∈ d.L,e.1.size≤1048576
 len:d.L.length≤l
 lim:∀ p,(aT d p).data.size≤S∧(aT d p).kept.size≤S∧((aT d p).anew=false→(aT d p).kept.size≤(aT d p).data.size)
 n:d.n≤1001 * l
 m:d.m≤l
 steps:0≤d.steps∧d.steps≤t
 stamps:0≤d.stamps∧d.stamps≤1001 * l
 armed:-1≤d.armed∧d.armed≤9223372036854775807
theorem Bd.mono {d:Dk} {S S' l l' t t':Nat} (h:Bd d S l t) (hS:S≤S') (hl:l≤l') (ht:t≤t'):Bd d S' l' t':=by
 have h1:=h.len;have h2:=h.n;have h3:=h.m;have h4:=h.steps;have h5:=h.stamps
 exact ⟨h.rise,h.keys,by omega,fun p=>by obtain ⟨a,b,c⟩:=h.lim p;exact ⟨by omega,by omega,c⟩,by omega,by omega,by omega,by omega,h.armed⟩
theorem Bd.new:Bd Dk.new 0 0 0:=⟨List.Pairwise.nil,by simp [Dk.new],by decide,fun p=>⟨Nat.le_refl _,Nat.le_refl _,fun _=>Nat.le_refl _⟩,by decide,by decide,by decide,by decide,by decide⟩
theorem qYf {S:Nat}:∀ {L:LI},(∀ e ∈ L,e.2.data.size≤S)→tot L≤L.length * S
|[],_=>by simp [tot]
|(p,x) :: r,h=>by
  have h1:=h (p,x) (by simp)
  have h2:=qYf (L:=r) fun e he=>h e (by simp [he])
  rw [tot,List.length_cons,Int.natCast_succ,Int.add_mul,Int.one_mul]
  have h1:x.data.size≤S:=h1
  omega
theorem Bd.tot {d:Dk} {S l t:Nat} (h:Bd d S l t):Dk.tot d.L≤d.L.length * S:=qYf fun e he=>by
 have:=(h.lim e.1).1
 have e1:aT d e.1=e.2:=by rw [aT,cN h.rise (show (e.1,e.2) ∈ d.L from he)];rfl
 rw [e1] at this;exact this
theorem zHi {a b S:Nat} (h:a≤1000) (hS:S≤1048576):(a:Int) * S≤1048576000:=by
 have h1:a * S≤1000 * 1048576:=Nat.mul_le_mul h hS
 have h2:((a * S:Nat):Int)≤((1000 * 1048576:Nat):Int):=Int.ofNat_le.2 h1
 rw [Int.natCast_mul] at h2;exact h2
theorem Bd.ok {d:Dk} {S l t:Nat} (h:Bd d S l t) (hS:S≤1048576) (hl:l≤1000) (ht:t≤1000000):d.Ok 1073741824:=by
 have h1:=h.len;have h2:=h.n;have h3:=h.m;have h4:=h.steps;have h5:=h.stamps
 have h6:=h.tot
 have h7:=zHi (a:=d.L.length) (b:=0) (by omega) hS
 exact ⟨h.rise,h.keys,by omega,by omega,by omega,by omega,by omega,h.armed⟩
theorem Bd.lo {d:Dk} {S l t:Nat} (h:Bd d S l t) (hS:S≤1048576):Lo d:=fun p=>by
 obtain ⟨a,b,c⟩:=h.lim p;exact ⟨by omega,by omega,c⟩
theorem qS6 (p:ByteArray) {α:Type} (x:α):∀ (L:List (ByteArray × α)),(put p x L).length≤L.length + 1
|[]=>Nat.le_refl _
|(t,y) :: r=>by
  have:=qS6 p x r
  rw [put]
  (repeat' split) <;> simp only [List.length_cons] <;> omega
theorem Bd.step {d:Dk} {S l t:Nat} (h:Bd d S l t):Bd (bJ d).2 S l (t + 1):=by
 have h3:=h.armed;have h4:=h.steps
 have hi:=zEl d
 have hL:=jQ d
 refine ⟨by rw [hL.1];exact h.rise,by rw [hL.1];exact h.keys,by rw [hL.1];exact h.len,fun p=>by rw [hi];exact h.lim p,by rw [hL.2.2.1];exact h.n,by rw [hL.2.2.2.1];exact h.m,?_,by rw [hL.2.2.2.2];exact h.stamps,?_⟩
 ·unfold bJ;split <;> (dsimp only;omega)
 ·unfold bJ;split
  ·dsimp only;omega
  ·dsimp only;split <;> omega
theorem Bd.putd {d e:Dk} {S S' l t:Nat} (h:Bd d S l t) (hS:S≤S') {p:ByteArray} {x:Itm} (hp:p.size≤1048576) (hx:x.data.size≤S'∧x.kept.size≤S'∧(x.anew=false→x.kept.size≤x.data.size))
  (eL:e.L=put p x d.L) (eR:e.m=d.m) (en:e.n=d.n + 1) (es:e.steps=d.steps) (est:d.stamps≤e.stamps∧e.stamps≤d.stamps + 1) (ea:e.armed=d.armed):Bd e S' (l + 1) t:=by
 have h1:=h.len;have h2:=h.n;have h3:=h.m;have h4:=h.steps;have h5:=h.stamps;have h6:=h.armed
 have hl:=qS6 p x d.L
 refine ⟨by rw [eL];exact jS _ _ h.rise,fun y hy=>?_,by rw [eL];omega,fun q=>?_,by omega,by omega,by omega,by omega,by omega⟩
 ·rw [eL] at hy
  rcases qG hy with rfl|hy
  ·exact hp
  ·exact h.keys y hy
 ·have:aT e q=if q=p then x else aT d q:=by
   unfold aT;rw [eL,eX];split <;> rfl
  rw [this];split
  ·exact hx
  ·obtain ⟨a,b,c⟩:=h.lim q;exact ⟨by omega,by omega,c⟩
theorem Bd.set {d:Dk} {S S' l t:Nat} (h:Bd d S l t) (hS:S≤S') {p:ByteArray} {x:Itm} (hp:p.size≤1048576) (hx:x.data.size≤S'∧x.kept.size≤S'∧(x.anew=false→x.kept.size≤x.data.size)):Bd (pW d p x) S' (l + 1) t :=
 h.putd hS (x:={ x with stamp:=d.stamps + 1 }) hp hx rfl rfl rfl rfl ⟨by show d.stamps≤d.stamps + 1;omega,by show d.stamps + 1≤d.stamps + 1;omega⟩ rfl
theorem Bd.del {d e:Dk} {S l t:Nat} (h:Bd d S l t) {p:ByteArray} (eL:e.L=Dk.del p d.L) (eR:e.m=d.m) (en:e.n=d.n) (es:e.steps=d.steps) (est:e.stamps=d.stamps) (ea:e.armed=d.armed):Bd e S l t:=by
 have h1:=h.len;have h2:=h.n;have h3:=h.m;have h4:=h.steps;have h5:=h.stamps;have h6:=h.armed
 have hl:=qHb p d.L
 refine ⟨by rw [eL];exact vT _ h.rise,fun y hy=>h.keys y (by rw [eL] at hy;exact zF hy),by rw [eL];omega,fun q=>?_,by omega,by omega,by omega,by omega,by omega⟩
 have:aT e q=if q=p then itm0 else aT d q:=by
  unfold aT;rw [eL,kA];split <;> rfl
 rw [this];split
 ·exact ⟨Nat.zero_le _,Nat.zero_le _,fun _=>Nat.le_refl _⟩
 ·exact h.lim q
theorem vV {p:ByteArray} {α:Type} {x:α} {L:List (ByteArray × α)} (hr:dW L) (h:(aH L p).isSome=true):(put p x L).length=L.length:=by
 rw [zMp] at h;obtain ⟨i,hi⟩:=Option.isSome_iff_exists.1 h;obtain ⟨hlt,e,-⟩:=qJu hi;exact zM1 hr hlt e
theorem zLb {pick:Int} {x:Itm} {S:Nat} (h:x.data.size≤S∧x.kept.size≤S):(qG1 pick x).size≤S:=by
 unfold qG1;split
 ·split
  ·rw [ByteArray.size_extract];omega
  ·exact h.2
 ·rw [ByteArray.size_extract];omega
theorem Bd.rest {S l t:Nat} {loss:Int}:∀ (ks:List ByteArray) (n:Int) (d:Dk) (c:Nat),Bd d S l t→d.n + ks.length≤c→d.stamps + ks.length≤c→(∀ p ∈ ks,p.size≤1048576) →
  ∃ e,eQ loss ks n d=e∧dW e.L∧(∀ y ∈ e.L,y.1.size≤1048576)∧e.L.length≤l∧(∀ p,(aT e p).data.size≤S∧(aT e p).kept.size≤S∧((aT e p).anew=false→(aT e p).kept.size≤(aT e p).data.size))∧e.n≤c∧e.m=d.m∧e.steps=d.steps∧d.stamps≤e.stamps∧e.stamps≤c
|ks,n,d,c,h,h1,h2,hk=>by
  have key:∀ (ks:List ByteArray) (n:Int) (d:Dk) (c:Nat),dW d.L→(∀ y ∈ d.L,y.1.size≤1048576)→d.L.length≤l→(∀ p,(aT d p).data.size≤S∧(aT d p).kept.size≤S∧((aT d p).anew=false→(aT d p).kept.size≤(aT d p).data.size))→d.n + ks.length≤c→d.stamps + ks.length≤c→(∀ p ∈ ks,p.size≤1048576) →
    ∃ e,eQ loss ks n d=e∧dW e.L∧(∀ y ∈ e.L,y.1.size≤1048576)∧e.L.length≤l∧(∀ p,(aT e p).data.size≤S∧(aT e p).kept.size≤S∧((aT e p).anew=false→(aT e p).kept.size≤(aT e p).data.size))∧e.n≤c∧e.m=d.m∧e.steps=d.steps∧d.stamps≤e.stamps∧e.stamps≤c:=by
   intro ks
   induction ks with
  |nil=>intro n d c a b cc dd e f g;exact ⟨d,rfl,a,b,cc,dd,by simpa using e,rfl,rfl,Int.le_refl _,by simpa using f⟩
  |cons p r ih =>
    intro n d c hr hke hl hlim hn hs hps
    have hpp:=hps p (by simp)
    rw [eQ];simp only [List.length_cons] at hn hs;split
    ·rename_i hlo
     have hhas:(aH d.L p).isSome=true:=by
      unfold aT at hlo
      cases hx:aH d.L p with
     |none=>rw [hx] at hlo;cases hlo
     |some x=>rfl
     have hll:=vV (x:={ wJ (qAk (IntKind.u64.wrap loss) (IntKind.u64.wrap (n + 1))) (aT d p) with stamp:=d.stamps + 1 }) hr hhas
     obtain ⟨e,e0,e1,e2,e3,e4,e5,e6,e7,e8,e9⟩:=ih (n + 1) (pW d p (wJ (qAk (IntKind.u64.wrap loss) (IntKind.u64.wrap (n + 1))) (aT d p))) c (jS _ _ hr) (fun y hy=>by
      rcases qG hy with rfl|hy
      ·exact hpp
      ·exact hke y hy) (by show (put p _ d.L).length≤l;rw [hll];exact hl) (fun q=>by
       rw [qC1];split
       ·have:=zLb (pick:=qAk (IntKind.u64.wrap loss) (IntKind.u64.wrap (n + 1))) (x:=aT d p) ⟨(hlim p).1,(hlim p).2.1⟩
        exact ⟨this,this,fun _=>Nat.le_refl _⟩
       ·exact hlim q) (by show d.n + 1 + r.length≤c;omega) (by show d.stamps + 1 + (r.length:Int)≤c;omega) (fun q hq=>hps q (by simp [hq]))
     have e8:d.stamps + 1≤e.stamps:=e8
     exact ⟨e,e0,e1,e2,e3,e4,e5,e6,e7,by omega,e9⟩
    ·exact ih n d c hr hke hl hlim (by omega) (by omega) (fun q hq=>hps q (by simp [hq]))
  exact key ks n d c h.rise h.keys h.len h.lim h1 h2 hk
theorem Bd.restart {d:Dk} {S l t:Nat} (h:Bd d S l t) (hl:l≤1000) (M:Int):Bd (restart d M) S (l + 1) t:=by
 have h1:=h.len;have h2:=h.n;have h3:=h.m;have h4:=h.steps;have h5:=h.stamps
 have hk:(dE d.L).length=d.L.length:=by simp [dE]
 obtain ⟨e,e0,e1,e2,e3,e4,e5,e6,e7,e8,e9⟩:=Bd.rest (loss:=M) (dE d.L) 0 d (1001 * (l + 1)) h (by omega) (by push_cast;omega) (fun p hp=>by
  obtain ⟨y,hy,rfl⟩:=List.mem_map.1 hp;exact h.keys y hy)
 have er:Dk.restart d M={ e with down:=false,armed:=-1 }:=by rw [Dk.restart,e0]
 rw [er]
 push_cast at e9
 exact ⟨e1,e2,by show e.L.length≤_;omega,e4,e5,by show e.m≤_;omega,by rw [e7];exact h4,by show 0≤e.stamps∧e.stamps≤_;push_cast;omega,by show (-1:Int)≤-1∧(-1:Int)≤_;omega⟩
theorem Bd.call {d:Dk} {S l t:Nat} (h:Bd d S l t) (hl:l≤1000) (k:Int) {P Q:ByteArray} (hP:P.size≤1048576) (hQ:Q.size≤1048576) (M:Int) (hM:M≤9223372036854775807):Bd (qA0 d k P Q M) (S + Q.size) (l + 1) (t + 1):=by
 have h0:Bd d (S + Q.size) (l + 1) (t + 1):=h.mono (by omega) (by omega) (by omega)
 have hs:Bd (bJ d).2 (S + Q.size) (l + 1) (t + 1):=h.step.mono (by omega) (by omega) (by omega)
 have lp:=h.lim P
 have hsl:=jQ d
 unfold qA0;split
 ·unfold dY
  (repeat' split)
  ·exact h0
  ·exact h0
  ·exact h0
  ·exact hs
  ·exact h.step.putd (p:=P) (x:=kB) (by omega) hP ⟨Nat.zero_le _,Nat.zero_le _,fun _=>Nat.le_refl _⟩ (by rw [hsl.1]) rfl (by rw [hsl.2.2.1]) rfl ⟨Int.le_refl _,by show (bJ d).2.stamps≤_;omega⟩ rfl
 split
 ·unfold cW
  (repeat' split)
  ·exact h0
  ·exact h0
  ·exact h0
  ·exact h0
  ·exact hs
  ·exact h.step.set (by omega) hP ⟨by show Q.size≤_;omega,by show (aT d P).kept.size≤_;omega,fun e=>by cases e⟩
 split
 ·unfold append
  (repeat' split)
  ·exact h0
  ·exact h0
  ·exact hs
  ·exact h.step.set (by omega) hP ⟨by show ((aT d P).data ++ Q).size≤_;rw [ByteArray.size_append];omega,by show (aT d P).kept.size≤_;omega,fun e=>by show (aT d P).kept.size≤((aT d P).data ++ Q).size;rw [ByteArray.size_append];have:=lp.2.2 e;omega⟩
 split
 ·unfold nG
  (repeat' split)
  ·exact h0
  ·exact hs
  ·exact h.step.putd (p:=P) (x:={ aT d P with kept:=(aT d P).data,loose:=false,anew:=false }) (by omega) hP ⟨by show (aT d P).data.size≤_;omega,by show (aT d P).data.size≤_;omega,fun _=>Nat.le_refl _⟩ (by rw [hsl.1]) rfl (by rw [hsl.2.2.1]) rfl ⟨Int.le_refl _,by show (bJ d).2.stamps≤_;omega⟩ rfl
 split
 ·have aux:∀ (e m:Int),Bd (if e≠0 then (e,d) else if has d P=false∨jB d Q=false then (11,d) else if (aT d P).dir=true∨(aT d Q).dir=true then (12,d) else if P≠Q∧qG0 d Q m=false then (13,d) else if (bJ d).1≠0 then bJ d else (0,pW { (bJ d).2 with L:=Dk.del P d.L } Q (aT d P)):Int × Dk).2 (S + Q.size) (l + 1) (t + 1):=by
   intro e m
   (repeat' split)
   ·exact h0
   ·exact h0
   ·exact h0
   ·exact h0
   ·exact hs
   ·refine Bd.set (d:={ (bJ d).2 with L:=Dk.del P d.L }) (S:=S) (l:=l) (h.step.del (p:=P) (by rw [hsl.1]) rfl rfl rfl rfl rfl) (by omega) hQ ⟨by omega,by omega,lp.2.2⟩
  exact aux _ _
 split
 ·unfold cS
  (repeat' split)
  ·exact h0
  ·exact h0
  ·exact h0
  ·exact hs
  ·exact (h.step.del (e:={ (bJ d).2 with L:=Dk.del P d.L }) (p:=P) (by rw [hsl.1]) rfl rfl rfl rfl rfl).mono (by omega) (by omega) (by omega)
 split
 ·unfold zPj
  (repeat' split)
  ·exact h0
  ·exact h0
  ·exact ⟨h0.rise,h0.keys,h0.len,h0.lim,h0.n,by show d.m + 1≤_;have:=h.m;omega,h0.steps,h0.stamps,h0.armed⟩
 split
 ·exact ⟨h0.rise,h0.keys,h0.len,h0.lim,h0.n,h0.m,h0.steps,h0.stamps,by show -1≤(if -1 < M then M else -1)∧_;split <;> (dsimp only [zTz];omega)⟩
 split
 ·exact (h.restart hl M).mono (by omega) (Nat.le_refl _) (by omega)
 split
 ·unfold zMf;split
  ·exact h0
  ·refine (h.set (Nat.le_refl S) hP ⟨?_,?_,fun e=>?_⟩).mono (by omega) (Nat.le_refl _) (by omega)
   ·show (qFb (aT d P).data M).size≤S;rw [uC];omega
   ·show (qFb (aT d P).kept M).size≤S;rw [uC];omega
   ·show (qFb (aT d P).kept M).size≤(qFb (aT d P).data M).size;rw [uC,uC];exact lp.2.2 e
 ·exact h0
end Go.Dk
end
