/-
  Scan: scan and walk by the document; the law's first look.
-/
import Derived.Test.YtlihpgmgiehjkaaGreatDoorSwL
import Derived.Test.YtlihpgmgiehjkaaGreatDoorSwI
import Derived.Test.YtlihpgmgiehjkaaGreatDoorSwA
import Derived.Test.YtlihpgmgiehjkaaGreatDoorPln
set_option linter.unusedSimpArgs false
set_option linter.unusedVariables false
section
set_option maxRecDepth 20000
namespace Go.Sw
open Go Go.Tr Go.Eng Go.Dk Go.Proofs.YtlihpgmgiehjkaaGreatDoor
theorem zBg {p:ByteArray} {n:Int} {m:Nd}:∀ (l:List Sn) (kn:gL),(l.foldl wL kn) p n=some m→(∃ x ∈ l,x.1=p∧x.2.1=n∧x.2.2=m∧x.2.2.1=2)∨kn p n=some m
|[],kn,h=>.inr h
|x :: l,kn,h=>by
  rcases zBg l (wL kn x) h with ⟨y,hy,r⟩|h
  ·exact .inl ⟨y,List.mem_cons_of_mem _ hy,r⟩
  ·unfold wL at h;split at h
   ·rename_i hk;dsimp only at h;split at h
    ·rename_i hp;exact .inl ⟨x,List.mem_cons_self ..,hp.1.symm,hp.2.symm,Option.some.inj h,hk⟩
    ·exact .inr h
   ·exact .inr h
theorem zBh {e:Sn}:∀ (l:List Sn) (kn:gL),(l.foldl wL kn) e.1 e.2.1=none↔l.any (kn1 e)=false∧kn e.1 e.2.1=none
|[],kn=>by simp
|x :: l,kn=>by
  rw [List.foldl_cons,zBh l,List.any_cons,Bool.or_eq_false_iff];unfold wL kn1
  by_cases hk:x.2.2.1=2
  ·rw [if_pos hk]
   by_cases h1:e.1=x.1∧e.2.1=x.2.1
   ·rw [if_pos h1];obtain ⟨a,b⟩:=h1;simp [a,b,hk]
   ·rw [if_neg h1]
    have:(decide (x.1=e.1) && decide (x.2.1=e.2.1) && decide (x.2.2.1=2))=false:=by
     rw [Bool.eq_false_iff];intro h;simp only [Bool.and_eq_true,decide_eq_true_eq] at h;exact h1 ⟨h.1.1.symm,h.1.2.symm⟩
    rw [this];simp
  ·rw [if_neg hk];simp [hk]
def ndV (d:Dk) (v:ByteArray) (kn:gL) (q:ByteArray):Nd:=if iF d q=1 then (1,ByteArray.empty) else (kn (cC v q) (bS d q)).getD (2,(lP d q).1)
def nu (d:Dk) (v:ByteArray) (kn:gL) (q:ByteArray):Bool:=!decide (iF d q=1) && (kn (cC v q) (bS d q)).isNone
theorem qSr (d:Dk) (v:ByteArray) (kn:gL) (w:Wk) (q:ByteArray):(fQ d v kn w q).F=put (cC v q) (ndV d v kn q) w.F∧(fQ d v kn w q).T=(if iF d q=1 then w.T else put (cC v q) (bS d q) w.T)∧(fQ d v kn w q).reads=w.reads + if nu d v kn q=true then 1 else 0:=by
 unfold fQ ndV nu
 by_cases hk:iF d q=1
 ·simp only [hk,if_true];exact ⟨rfl,rfl,by show w.reads=_;simp⟩
 ·simp only [hk,if_false]
  cases kn (cC v q) (bS d q) with
 |some n=>exact ⟨rfl,rfl,by show w.reads + 0=_;simp⟩
 |none=>exact ⟨rfl,rfl,by show w.reads + 1=_;simp⟩
theorem qSm {d:Dk} {v:ByteArray} {kn:gL} {o:ByteArray}:∀ (l:List ByteArray) (w:Wk),(∀ q ∈ l,cC v q≠o)→aH (dP d v kn w l).F o=aH w.F o∧aH (dP d v kn w l).T o=aH w.T o
|[],w,_=>⟨rfl,rfl⟩
|q :: l,w,h=>by
  rw [fD];obtain ⟨a,b⟩:=qSm (d:=d) (kn:=kn) l (fQ d v kn w q) fun x hx=>h x (List.mem_cons_of_mem _ hx)
  obtain ⟨c,e,-⟩:=qSr d v kn w q
  have hq:=h q (List.mem_cons_self ..)
  have hq':¬ o=cC v q:=fun e=>hq e.symm
  refine ⟨by rw [a,c,eX,if_neg hq'],?_⟩
  rw [b,e];split
  ·rfl
  ·rw [eX,if_neg hq']
theorem qSn {d:Dk} {v:ByteArray} {kn:gL} {q:ByteArray}:∀ (l:List ByteArray) (w:Wk),l.Nodup→(∀ a ∈ l,∀ b ∈ l,cC v a=cC v b→a=b)→q ∈ l →
  aH (dP d v kn w l).F (cC v q)=some (ndV d v kn q)∧aH (dP d v kn w l).T (cC v q)=if iF d q=1 then aH w.T (cC v q) else some (bS d q)
|[],w,_,_,h=>by simp at h
|a :: l,w,hn,hi,h=>by
  rw [fD];rw [List.nodup_cons] at hn;obtain ⟨c,e,-⟩:=qSr d v kn w a
  by_cases hqa:q=a
  ·subst hqa;obtain ⟨x,y⟩:=qSm (d:=d) (kn:=kn) (o:=cC v q) l (fQ d v kn w q) fun b hb hh=>hn.1 (hi b (List.mem_cons_of_mem _ hb) q (List.mem_cons_self ..) hh ▸ hb)
   refine ⟨by rw [x,c,eX,if_pos rfl],?_⟩
   rw [y,e];split
   ·rfl
   ·rw [eX,if_pos rfl]
  ·have hql:q ∈ l:=by
    rcases List.mem_cons.1 h with h|h
    ·exact absurd h hqa
    ·exact h
   obtain ⟨x,y⟩:=qSn (d:=d) (kn:=kn) (q:=q) l (fQ d v kn w a) hn.2 (fun b hb c hc=>hi b (List.mem_cons_of_mem _ hb) c (List.mem_cons_of_mem _ hc)) hql
   refine ⟨x,?_⟩;rw [y,e]
   have hne:¬ cC v q=cC v a:=fun hh=>hqa (hi q (List.mem_cons_of_mem _ hql) a (List.mem_cons_self ..) hh)
   split
   ·split
    ·rfl
    ·rw [eX,if_neg hne]
   ·rfl
theorem qHh {d:Dk} {v:ByteArray} {kn:gL}:∀ (l:List ByteArray) (w:Wk),(dP d v kn w l).reads=w.reads + (l.countP (nu d v kn):Nat)
|[],w=>by simp [qD4]
|q :: l,w=>by
  rw [fD,qHh l,(qSr d v kn w q).2.2,List.countP_cons];split <;> (push_cast;omega)
theorem zAh {d:Dk} {D:Int→ByteArray} (hr:dW d.L) (hz:∀ e ∈ d.L,e.1.size≤1048576) (sy:Sy d D) (hdn:d.down=false) {v:ByteArray} (hv:pOk v 1=true) (hvz:v.size≤1048576) {l:List Sn} (hl:∀ s ∈ l,s.2.2.1=2→D s.2.1=s.2.2.2) :
  (kM d v l).F=pX d v∧qEq (kM d v l)=jE d v∧(kM d v l).reads=(zC5 (jE d v) l:Nat):=by
 have hv0:v≠{ data:=#[] }:=jZ hv
 have mem:=zMv hr hz sy.toFit hv0 hvz
 have nod:=qD5 hr 1048577 v hv0
 have inj:∀ a ∈ vis d 1048577 v,∀ b ∈ vis d 1048577 v,cC v a=cC v b→a=b:=fun a ha b hb e=>by
  obtain ⟨_,a1,a2⟩:=(mem a).1 ha;obtain ⟨_,b1,b2⟩:=(mem b).1 hb;exact zAz a1 a2 b1 b2 hv0 e
 have node:∀ q x,aH d.L q=some x→ndV d v (knS l) q=gZ x:=fun q x hx=>by
  unfold ndV gZ
  have hi:aT d q=x:=by rw [aT,hx];rfl
  by_cases hk:iF d q=1
  ·obtain ⟨y,hy,hd⟩:=mE.1 hk;rw [hx] at hy
   have:=Option.some.inj hy
   subst this;rw [if_pos hk,if_pos hd]
  ·have hd:x.dir=false:=by
    cases hd:x.dir with
   |false=>rfl
   |true=>exact absurd (mE.2 ⟨x,hx,hd⟩) hk
   rw [if_neg hk,if_neg (by rw [hd];decide)]
   cases hkn:knS l (cC v q) (bS d q) with
  |none =>
    have hrd:lP d q=(x.data,0):=by
     unfold lP has;rw [hdn,hx,hi,hd];rfl
    rw [hrd];rfl
  |some m =>
    rcases zBg l _ hkn with ⟨y,hy,_,h2,h3,h4⟩|h
    ·have:=hl y hy h4
     rw [h2,bS,hi,sy.kn q x hx hd] at this;show m=_
     rw [← h3,this,← h4]
    ·cases h
 have hF:(kM d v l).F=pX d v:=by
  refine qEg (qD2 _ _ _ _ _ List.Pairwise.nil) (qEi hr hv0) fun o n=>?_
  rw [qPj hr hv0]
  by_cases ho:∃ q ∈ vis d 1048577 v,cC v q=o
  ·obtain ⟨q,hq,rfl⟩:=ho;obtain ⟨h1,h2,h3⟩:=(mem q).1 hq;obtain ⟨x,hx⟩:=Option.isSome_iff_exists.1 h1
   have:=(qSn (d:=d) (kn:=knS l) (q:=q) (vis d 1048577 v) wk0 nod inj hq).1
   rw [show dP d v (knS l) wk0 (vis d 1048577 v)=kM d v l from rfl] at this
   rw [this,node q x hx];constructor
   ·intro h;exact ⟨q,x,hx,h2,h3,rfl,Option.some.inj h⟩
   ·rintro ⟨q',x',hx',a1,a2,a3,a4⟩
    have:q'=q:=zAz a1 a2 h2 h3 hv0 a3
    subst this;rw [hx] at hx';rw [Option.some.inj hx',a4]
  ·have:=(qSm (d:=d) (v:=v) (kn:=knS l) (o:=o) (vis d 1048577 v) wk0 fun q hq e=>ho ⟨q,hq,e⟩).1
   rw [show dP d v (knS l) wk0 (vis d 1048577 v)=kM d v l from rfl] at this
   rw [this];constructor
   ·intro h;cases h
   ·rintro ⟨q,x,hx,a1,a2,a3,-⟩;exact absurd ⟨q,(mem q).2 ⟨by rw [hx];rfl,a1,a2⟩,a3⟩ ho
 refine ⟨hF,?_,?_⟩
 ·unfold qEq jE;rw [hF];refine List.map_congr_left fun e he=>?_
  rw [pX,List.mem_map] at he;obtain ⟨y,hy,rfl⟩:=he;obtain ⟨y1,y2⟩:=List.mem_filter.1 hy;obtain ⟨a1,a2⟩:=iM.1 y2
  have hx:=cN hr (show (y.1,y.2) ∈ d.L from y1)
  have hT:=(qSn (d:=d) (kn:=knS l) (q:=y.1) (vis d 1048577 v) wk0 nod inj ((mem y.1).2 ⟨by rw [hx];rfl,a1,a2⟩)).2
  rw [show dP d v (knS l) wk0 (vis d 1048577 v)=kM d v l from rfl] at hT
  unfold jF;dsimp only;rw [hT,← qEn a1 a2 hv0]
  congr 2
  split
  ·rename_i hk;obtain ⟨z,hz2,hd⟩:=mE.1 hk
   have:=(sy.dir y.1 z hz2 hd).1
   rw [bS,aT,hz2];exact this.symm
  ·rfl
 ·have h1:=qHh (d:=d) (v:=v) (kn:=knS l) (vis d 1048577 v) wk0
  rw [show dP d v (knS l) wk0 (vis d 1048577 v)=kM d v l from rfl,show wk0.reads=0 from rfl,Int.zero_add] at h1
  rw [h1]
  congr 1
  have hperm:(vis d 1048577 v).Perm ((d.L.filter (inV v)).map fun e=>e.1):=by
   refine (List.perm_ext_iff_of_nodup nod ?_).2 fun q=>?_
   ·have:((d.L.filter (inV v)).map fun e=>e.1).Pairwise fun a b=>blt a b=true:=by
     rw [List.pairwise_map];exact List.Pairwise.filter _ hr
    exact this.imp fun {a b} h=>qNn h
   ·rw [mem q,List.mem_map];constructor
    ·rintro ⟨a,b,c⟩;obtain ⟨x,hx⟩:=Option.isSome_iff_exists.1 a;exact ⟨(q,x),List.mem_filter.2 ⟨cB hx,iM.2 ⟨b,c⟩⟩,rfl⟩
    ·rintro ⟨e,he,rfl⟩;obtain ⟨y1,y2⟩:=List.mem_filter.1 he;obtain ⟨a1,a2⟩:=iM.1 y2;exact ⟨by rw [cN hr (show (e.1,e.2) ∈ d.L from y1)];rfl,a1,a2⟩
  rw [hperm.countP_eq,zC5,jE,pX,List.map_map,List.countP_map,List.countP_map];refine List.countP_congr fun e he=>?_
  obtain ⟨y1,y2⟩:=List.mem_filter.1 he;obtain ⟨a1,a2⟩:=iM.1 y2
  have hx:=cN hr (show (e.1,e.2) ∈ d.L from y1)
  have hse:jF d v (cC v e.1,gZ e.2)=(cC v e.1,bS d e.1,gZ e.2):=by
   unfold jF;dsimp only;rw [← qEn a1 a2 hv0]
  show nu d v (knS l) e.1=true↔(!knB (jF d v (cC v e.1,gZ e.2)) l)=true
  rw [hse]
  have hkd:decide (iF d e.1=1)=decide ((gZ e.2).1=1):=by
   rw [decide_eq_decide,mE,gZ];constructor
   ·rintro ⟨x,h1,h2⟩;rw [hx] at h1;rw [Option.some.inj h1,if_pos h2]
   ·intro h;refine ⟨e.2,hx,?_⟩;split at h
    ·assumption
    ·cases h
  have hkn:=zBh (e:=(cC v e.1,bS d e.1,gZ e.2)) l (fun _ _=>none)
  have hkn:knS l (cC v e.1) (bS d e.1)=none↔l.any (kn1 (cC v e.1,bS d e.1,gZ e.2))=false:=by
   refine Iff.trans hkn ?_;simp
  unfold nu knB;rw [hkd]
  cases ha:l.any (kn1 (cC v e.1,bS d e.1,gZ e.2)) with
 |false =>
   rw [hkn.2 ha];simp
 |true =>
   cases hh:knS l (cC v e.1) (bS d e.1) with
  |none=>rw [hkn.1 hh] at ha;cases ha
  |some m=>simp
end Go.Sw
end
section
namespace Go.Proofs.YtlihpgmgiehjkaaGreatDoor
open Go Go.Eng Go.RowKit Go.Tr Go.Dk
def scH:ByteArray:={ data:=#[104,117,98] }
def scHA:ByteArray:={ data:=#[104,117,98,47,97] }
def scHAx:ByteArray:={ data:=#[104,117,98,47,97,47,120] }
def scA:ByteArray:={ data:=#[97] }
def zMb:ByteArray:={ data:=#[97,47,120] }
def scHi:ByteArray:={ data:=#[104,105] }
def scX:Itm:=⟨false,scHi,ByteArray.empty,true,true,1⟩
def dS1:Dk:=⟨[(scH,kB)],[],1,0,-1,false,1,0⟩
def dS2:Dk:=⟨[(scH,kB),(scHA,kB)],[],2,0,-1,false,2,0⟩
def dS3:Dk:=⟨[(scH,kB),(scHA,kB),(scHAx,scX)],[],3,1,-1,false,3,0⟩
theorem sc1:dY Dk.new scH=(0,dS1):=by kernel_rfl
theorem sc2:dY dS1 scHA=(0,dS2):=by kernel_rfl
theorem sc3:cW dS2 scHAx scHi=(0,dS3):=by kernel_rfl
theorem zPf:dS1.Ok 1099511627776:=⟨by simp [dW,dS1],by intro e he;simp only [dS1,List.mem_cons,List.not_mem_nil,or_false] at he;subst he;decide,by decide,by decide,by decide,by decide,by decide,by decide⟩
theorem zMa:dW dS2.L:=by
 refine List.pairwise_cons.2 ⟨fun y hy=>?_,List.pairwise_singleton _ _⟩
 simp only [List.mem_cons,List.not_mem_nil,or_false] at hy;subst hy;rw [← lL];decide
theorem zL9:dW dS3.L:=by
 refine List.pairwise_cons.2 ⟨fun y hy=>?_,List.pairwise_cons.2 ⟨fun y hy=>?_,List.pairwise_singleton _ _⟩⟩
 ·simp only [List.mem_cons,List.not_mem_nil,or_false] at hy
  rcases hy with rfl|rfl <;> (rw [← lL];decide)
 ·simp only [List.mem_cons,List.not_mem_nil,or_false] at hy;subst hy;rw [← lL];decide
theorem zSi:dS2.Ok 1099511627776:=⟨zMa,by intro e he;simp only [dS2,List.mem_cons,List.not_mem_nil,or_false] at he;rcases he with rfl|rfl <;> decide,by decide,by decide,by decide,by decide,by decide,by decide⟩
theorem ok_S3:dS3.Ok 1099511627776:=⟨zL9,by intro e he;simp only [dS3,List.mem_cons,List.not_mem_nil,or_false] at he;rcases he with rfl|rfl|rfl <;> decide,by decide,by decide,by decide,by decide,by decide,by decide⟩
end Go.Proofs.YtlihpgmgiehjkaaGreatDoor
end
section
set_option maxRecDepth 20000
namespace Go.Sw
open Go Go.Tr Go.Eng Go.Dk Go.Proofs.YtlihpgmgiehjkaaGreatDoor
theorem qUk {d:Dk} {v:ByteArray} (h:gP d v=0):pOk v 1=true∧d.down=false:=by
 unfold gP at h;split at h
 ·cases h
 ·rename_i h1;split at h
  ·cases h
  ·rename_i h2;exact ⟨by simpa using h1,by simpa using h2⟩
structure Fine (d:Dk) (D:Int→ByteArray):Prop where
 ok:d.Ok 1073741824
 sy:Sy d D
 len:d.L.length≤1000
theorem Fine.st {d:Dk} {D:Int→ByteArray} (h:Fine d D):∀ e ∈ d.L,0≤e.2.stamp∧e.2.stamp≤1099511627776:=fun e he=>by
 have:=h.sy.st e.1 e.2 (cN h.ok.rise he)
 have:=h.ok.stamps
 omega
end Go.Sw
namespace Go.Proofs.YtlihpgmgiehjkaaGreatDoor
open Go Go.Eng Go.RowKit Go.Maps Go.Tr Go.Dk Go.Sw
theorem zAi {d:Dk} {D:Int→ByteArray} (hf:Fine d D) (v:ByteArray) (hv:v.size≤1048576) (l:List Sn) (fs:Bool) (hsn:∀ x ∈ l,zFc x) (hll:l.length≤1099511627776) (hl:∀ s ∈ l,s.2.2.1=2→D s.2.1=s.2.2.2) (r1 r2:Nat) :
  HFunM Tryz.prog 11 [.ptr 0 6 0 0,.v (.string v),.lst fs (kL l)] [(0,.bx false 64 (d.cells r1 r2))] (d.maps kS r1 r2)
   (fun h st g=>g=d.maps kS r1 r2∧if gP d v=0 then h=.tup [.own 1,.own 2,.v (.int .i64 (zC5 (jE d v) l)),.v (.int .i64 0)]∧st=[(0,.bx false 64 (d.cells r1 r2)),(1,.sl true 54 3 (bR (pX d v))),(2,.sl true 83 4 (kL (jE d v)))]
    else h=.tup [.v (.slice none 0 0),.v (.slice none 0 0),.v (.int .i64 0),.v (.int .i64 (gP d v))]∧st=[(0,.bx false 64 (d.cells r1 r2))]):=by
 have h:=zF4 d _ hf.ok (by decide) (by have:=hf.len;omega) hf.st v hv l fs hsn hll (fun h=>Nat.le_trans (qZ9 hf.ok.rise (jZ h)) (by have:=hf.len;omega)) r1 r2
 by_cases h0:gP d v=0
 ·obtain ⟨a,b⟩:=qUk h0;obtain ⟨e1,e2,e3⟩:=zAh hf.ok.rise hf.ok.keys hf.sy b a hv hl;rw [e1,e2,e3] at h;exact h
 ·simp only [h0,if_false] at h ⊢;exact h
theorem qG2 {d:Dk} {D:Int→ByteArray} (hf:Fine d D) (v:ByteArray) (hv:v.size≤1048576) (r1 r2:Nat) :
  HFunM Tryz.prog 9 [.ptr 0 6 0 0,.v (.string v)] [(0,.bx false 64 (d.cells r1 r2))] (d.maps kS r1 r2)
   (fun h st g=>g=d.maps kS r1 r2∧if gP d v=0 then h=.tup [.own 1,.v (.int .i64 0)]∧st=[(0,.bx false 64 (d.cells r1 r2)),(1,.sl true 54 3 (bR (pX d v)))]
    else h=.tup [.v (.slice none 0 0),.v (.int .i64 (gP d v))]∧st=[(0,.bx false 64 (d.cells r1 r2))]):=by
 have h:=zPz d _ hf.ok (by decide) (by have:=hf.len;omega) hf.st v hv (fun h=>Nat.le_trans (qZ9 hf.ok.rise (jZ h)) (by have:=hf.len;omega)) r1 r2
 by_cases h0:gP d v=0
 ·obtain ⟨a,b⟩:=qUk h0;obtain ⟨e1,-,-⟩:=zAh (l:=[]) hf.ok.rise hf.ok.keys hf.sy b a hv (fun s hs=>by simp at hs)
  rw [e1] at h;exact h
 ·simp only [h0,if_false] at h ⊢;exact h
theorem zNb:∃ D,Fine dS3 D:=by
 obtain ⟨D1,s1,-,-⟩:=gD zFu (by decide) 1 scH ByteArray.empty 0
 rw [show qA0 Dk.new (kT 1) scH ByteArray.empty 0=(dY Dk.new scH).2 from rfl,sc1] at s1
 obtain ⟨D2,s2,-,-⟩:=gD s1 (by decide) 1 scHA ByteArray.empty 0
 rw [show qA0 (0,dS1).2 (kT 1) scHA ByteArray.empty 0=(dY dS1 scHA).2 from rfl,sc2] at s2
 obtain ⟨D3,s3,-,-⟩:=gD s2 (by decide) 2 scHAx scHi 0
 rw [show qA0 (0,dS2).2 (kT 2) scHAx scHi 0=(cW dS2 scHAx scHi).2 from rfl,sc3] at s3
 exact ⟨D3,⟨ok_S3.rise,ok_S3.keys,by decide,by decide,by decide,by decide,by decide,by decide⟩,s3,by decide⟩
theorem zP6:pX dS3 scH=[(scA,(1,ByteArray.empty)),(zMb,(2,scHi))]:=by kernel_rfl
theorem zT5:gP dS3 scH=0:=by kernel_rfl
theorem zT2:scH.size≤1048576∧scHA.size≤1048576∧scHAx.size≤1048576∧scHi.size≤1048576:=by decide
set_option maxHeartbeats 2000000 in
theorem vN:HFun Tryz.prog 7 [] (fun h st=>h=.v (.bool true)):=by
 refine jP (N:=42) Tryz.func7 rfl Tryz.ntmps7 Tryz.results7 (by simp) ?_
 obtain ⟨z1,z2,z3,z4⟩:=zT2;refine zLt ?_;refine aA ?_;refine aC (fun K hK=>?_);simp (disch:=omega) only [push_cast,↓iC9,simprocAttr];refine hK _ ?_;clear hK K
 refine aA ?_;refine aX ?_;refine bN 32 [] cl5 (zPi) rfl rfl rfl rfl (by simp only [push_cast,simprocAttr];exact rfl) (by decide) (by decide) (by decide) (by simp only [push_cast,simprocAttr];try rfl) (by simp only [push_cast,simprocAttr];try rfl) ?_
 rintro _ _ _ ⟨r1,r2,rfl,rfl,rfl⟩
 have qTd:Dk.new.Ok 1099511627776:=⟨List.Pairwise.nil,by simp [Dk.new],by decide,by decide,by decide,by decide,by decide,by decide⟩
 have c1:=qCv Dk.new 1099511627776 qTd (Int.le_refl _) scH r1 r2 z1
 have c2:=qCv dS1 1099511627776 zPf (Int.le_refl _) scHA r1 r2 z2
 have c3:=qSk dS2 1099511627776 zSi (Int.le_refl _) scHAx r1 r2 z3 scHi z4
 rw [sc1] at c1;rw [sc2] at c2;rw [sc3] at c3;obtain ⟨D,hf⟩:=zNb
 have c4:=qG2 hf scH z1 r1 r2
 rw [zT5,zP6] at c4;simp only [if_true] at c4;simp only [bM] at c1 c2 c3 c4;refine aG 1 (fun K1 hK1=>?_);simp (disch:=omega) only [push_cast,↓iC9,simprocAttr,aE,aD,bM];refine hK1 _ ?_;(try clear hK1 K1)
 refine aR ?_;refine aA ?_;refine aA ?_;refine aX ?_;refine aG 4 (fun K1 hK1=>?_);simp (disch:=omega) only [push_cast,↓iC9,simprocAttr];refine hK1 _ ?_;(try clear hK1 K1)
 refine bN 72 [32] zLf (c1) rfl rfl rfl rfl (by simp only [push_cast,simprocAttr];exact rfl) (by decide) (by decide) (by decide) (by simp only [push_cast,simprocAttr];try rfl) (by simp only [push_cast,simprocAttr];try rfl) ?_
 rintro _ _ _ ⟨rfl,rfl,rfl⟩;refine aG 4 (fun K1 hK1=>?_);simp (disch:=omega) only [push_cast,↓iC9,simprocAttr,aE,aD];refine hK1 _ ?_;(try clear hK1 K1)
 refine bN 112 [32] zLf (c2) rfl rfl rfl rfl (by simp only [push_cast,simprocAttr];exact rfl) (by decide) (by decide) (by decide) (by simp only [push_cast,simprocAttr];try rfl) (by simp only [push_cast,simprocAttr];try rfl) ?_
 rintro _ _ _ ⟨rfl,rfl,rfl⟩;refine aG 4 (fun K1 hK1=>?_);simp (disch:=omega) only [push_cast,↓iC9,simprocAttr,aE,aD];refine hK1 _ ?_;(try clear hK1 K1)
 refine bN 152 [32] zQ5 (c3) rfl rfl rfl rfl (by simp only [push_cast,simprocAttr];exact rfl) (by decide) (by decide) (by decide) (by simp only [push_cast,simprocAttr];try rfl) (by simp only [push_cast,simprocAttr];try rfl) ?_
 rintro _ _ _ ⟨rfl,rfl,rfl⟩;refine aG 2 (fun K1 hK1=>?_);simp (disch:=omega) only [push_cast,↓iC9,simprocAttr,aE,aD];refine hK1 _ ?_;(try clear hK1 K1)
 refine aR ?_;refine aB ?_;refine aW rfl ?_;refine aN ?_;refine aA ?_;refine bC [0,1] [32] (by simp only [zZ,zR,zP,zQ,zN,zS,zM,zX,zU,Nat.reduceEqDiff,reduceIte];exact rfl) ?_
 refine aX ?_;refine aG 1 (fun K1 hK1=>?_);simp (disch:=omega) only [push_cast,↓iC9,simprocAttr];refine hK1 _ ?_;(try clear hK1 K1)
 refine bN 192 [32] cl9 (c4) rfl rfl rfl rfl (by simp only [push_cast,simprocAttr];exact rfl) (by decide) (by decide) (by decide) (by simp only [push_cast,simprocAttr];try rfl) (by simp only [push_cast,simprocAttr];try rfl) ?_
 rintro _ _ _ ⟨rfl,rfl,rfl⟩;refine aG 5 (fun K1 hK1=>?_);simp (disch:=omega) only [push_cast,↓iC9,simprocAttr,aE,aD];refine hK1 _ ?_;(try clear hK1 K1)
 refine aR ?_;refine bC [0,1,2,3] [32,193] (by simp only [zZ,zR,zP,zQ,zN,zS,zM,zX,zU,Nat.reduceEqDiff,reduceIte];exact rfl) ?_
 have hg1:∀ x,(bR [(scA,1,ByteArray.empty),(zMb,2,scHi)]).getD 1 x=[.v (.string zMb),.v (.int .i64 2),.v (.string scHi)]:=fun _=>rfl
 have hh:decide ((zMb,(2:Int),scHi)=({ data:=#[97,47,120] },2,{ data:=#[104,105] }))=true:=by decide
 refine aA ?_;refine aX ?_;refine aG 14 (fun K1 hK1=>?_);simp (disch:=omega) only [push_cast,↓iC9,simprocAttr,yV,yU,hg1]
 refine ⟨_,eqE _ _ _ _ _ _,?_⟩;with_reducible refine aU ?_;simp (disch:=omega) only [push_cast,↓iC9,simprocAttr,hh]
 refine hK1 _ ?_;(try clear hK1 K1);refine aG 2 (fun K1 hK1=>?_);simp (disch:=omega) only [push_cast,↓iC9,simprocAttr,aE,aD];refine hK1 _ ?_;(try clear hK1 K1)
 refine aR ?_;refine aB ?_;refine bB ?_;simp only [yA,yM,yH,yE,aL,aV,yK,yJ,zS,zM,Nat.reduceEqDiff,reduceIte,reduceCtorEq];exact bQ rfl
end Go.Proofs.YtlihpgmgiehjkaaGreatDoor
end
