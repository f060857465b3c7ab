/-
  Scan: what every change of a disk keeps: each item's folder is gX; a stamp stands for one content: plain.
-/
import Derived.Test.YtlihpgmgiehjkaaGreatDoorRkA
import Derived.Test.YtlihpgmgiehjkaaGreatDoorSwJ
set_option linter.unusedSimpArgs false
set_option linter.unusedVariables false
set_option maxRecDepth 20000
namespace Go.Sw
open Go Go.Tr Go.Eng Go.Dk Go.Proofs.YtlihpgmgiehjkaaGreatDoor
theorem qD7 {d:Dk} {p:ByteArray} {k:Int} (h:may d p k=0) (hu:jB d p=true):par p={ data:=#[] }∨∃ y,aH d.L (par p)=some y∧y.dir=true:=by
 rw [← qZk h,zH6,Bool.or_eq_true,decide_eq_true_eq,decide_eq_true_eq] at hu
 rcases hu with h|h
 ·exact .inl h
 ·exact .inr (mE.1 h)
structure Sy (d:Dk) (D:Int→ByteArray):Prop extends Fit d where
 kn:∀ p x,aH d.L p=some x→x.dir=false→D x.stamp=x.data
theorem Sy.congr {d e:Dk} {D:Int→ByteArray} (h:Sy d D) (hL:e.L=d.L) (hs:d.stamps≤e.stamps):Sy e D :=
 ⟨⟨fun p x hx=>by rw [hL] at hx ⊢;exact h.par p x hx,fun p x hx=>h.key p x (hL ▸ hx),fun p x hx=>h.dir p x (hL ▸ hx),fun p x hx=>by have:=h.st p x (hL ▸ hx);omega⟩,fun p x hx=>h.kn p x (hL ▸ hx)⟩
theorem Sy.put {d e:Dk} {D D':Int→ByteArray} (h:Sy d D) {p:ByteArray} {x:Itm} (hL:e.L=Dk.put p x d.L) (hs:d.stamps≤e.stamps) (hp:pOk p 6=true) (hpar:par p={ data:=#[] }∨∃ y,aH d.L (par p)=some y∧y.dir=true)
  (hno:∀ y,aH d.L p=some y→y.dir=true→x.dir=true) (hdir:x.dir=true→x.stamp=0∧x.loose=false) (hst:0≤x.stamp∧x.stamp≤e.stamps) (hD:∀ n,n≤d.stamps→D' n=D n) (hk:x.dir=false→D' x.stamp=x.data):Sy e D':=by
 have look:∀ q,aH e.L q=if q=p then some x else aH d.L q:=fun q=>by rw [hL,eX]
 have parent:∀ q,(∃ y,aH d.L q=some y∧y.dir=true)→∃ y,aH e.L q=some y∧y.dir=true:=fun q ⟨y,hy,hd⟩=>by
  by_cases e:q=p
  ·subst e;exact ⟨x,by rw [look,if_pos rfl],hno y hy hd⟩
  ·exact ⟨y,by rw [look,if_neg e];exact hy,hd⟩
 refine ⟨⟨fun q y hy=>?_,fun q y hy=>?_,fun q y hy=>?_,fun q y hy=>?_⟩,fun q y hy=>?_⟩
 all_goals
  rw [look] at hy
  by_cases e:q=p
  ·subst e;rw [if_pos rfl] at hy
   have hy:=Option.some.inj hy
   subst hy
   first
   |exact hpar.imp id (parent _)
   |exact hp
   |exact hdir
   |exact hst
   |exact hk
  ·rw [if_neg e] at hy
   first
   |exact (h.par q y hy).imp id (parent _)
   |exact h.key q y hy
   |exact h.dir q y hy
   |(have:=h.st q y hy;omega)
   |(intro hd;rw [hD _ (h.st q y hy).2];exact h.kn q y hy hd)
theorem Sy.del {d e:Dk} {D:Int→ByteArray} (h:Sy d D) {p:ByteArray} (hL:e.L=Dk.del p d.L) (hs:e.stamps=d.stamps) (hno:∀ q y,aH d.L q=some y→par q≠p):Sy e D:=by
 have look:∀ q,aH e.L q=if q=p then none else aH d.L q:=fun q=>by rw [hL,kA]
 have old:∀ q y,aH e.L q=some y→aH d.L q=some y:=fun q y hy=>by
  rw [look] at hy;split at hy
  ·cases hy
  ·exact hy
 refine ⟨⟨fun q y hy=>?_,fun q y hy=>h.key q y (old q y hy),fun q y hy=>h.dir q y (old q y hy),fun q y hy=>by rw [hs];exact h.st q y (old q y hy)⟩,fun q y hy=>h.kn q y (old q y hy)⟩
 rcases h.par q y (old q y hy) with e1|⟨z,hz,hd⟩
 ·exact .inl e1
 ·exact .inr ⟨z,by rw [look,if_neg (hno q y (old q y hy))];exact hz,hd⟩
theorem Sy.set {d:Dk} {D:Int→ByteArray} (h:Sy d D) (h0:0≤d.stamps) {p:ByteArray} {x:Itm} (hp:pOk p 6=true) (hpar:par p={ data:=#[] }∨∃ y,aH d.L (par p)=some y∧y.dir=true)
  (hno:∀ y,aH d.L p=some y→y.dir=false) (hx:x.dir=false):Sy (pW d p x) (fun n=>if n=d.stamps + 1 then x.data else D n):=by
 refine h.put (p:=p) (x:={ x with stamp:=d.stamps + 1 }) rfl (by show d.stamps≤d.stamps + 1;omega) hp hpar (fun y hy hd=>by rw [hno y hy] at hd;cases hd) (fun hd=>by rw [hx] at hd;cases hd) ⟨by show 0≤d.stamps + 1;omega,Int.le_refl _⟩ (fun n hn=>?_) (fun _=>?_)
 ·rw [if_neg (by omega)]
 ·rw [if_pos rfl]
theorem zCn {d:Dk} {p:ByteArray} (h:file d p=0):may d p 1=0∧∃ x,aH d.L p=some x∧x.dir=false∧aT d p=x:=by
 unfold file at h;split at h
 ·rename_i h1;exact absurd h h1
 ·rename_i h1;refine ⟨Decidable.of_not_not h1,?_⟩;split at h
  ·cases h
  ·rename_i h2;split at h
   ·cases h
   ·rename_i h3
    have h2:has d p=true:=by cases hh:has d p <;> simp_all
    obtain ⟨x,hx⟩:=Option.isSome_iff_exists.1 (show (aH d.L p).isSome=true from h2)
    have hi:aT d p=x:=by rw [aT,hx];rfl
    exact ⟨x,hx,by rw [hi] at h3;simpa using h3,hi⟩
abbrev mR (d e:Dk) (D:Int→ByteArray):Prop:=∃ D',Sy e D'∧(∀ n,n≤d.stamps→D' n=D n)∧d.stamps≤e.stamps
theorem qEr {d e:Dk} {D:Int→ByteArray} (h:Sy d D) (hL:e.L=d.L) (hs:e.stamps=d.stamps):mR d e D:=⟨D,h.congr hL (by omega),fun _ _=>rfl,by omega⟩
theorem sH {d:Dk} {D:Int→ByteArray} (h:Sy d D):mR d (bJ d).2 D:=qEr h (jQ d).1 (jQ d).2.2.2.2
theorem wH {d e:Dk} {D:Int→ByteArray} (h:Sy e D) (hs:e.stamps=d.stamps) (h0:0≤d.stamps) {p:ByteArray} {x:Itm} (hp:pOk p 6=true) (hpar:par p={ data:=#[] }∨∃ y,aH e.L (par p)=some y∧y.dir=true)
  (hno:∀ y,aH e.L p=some y→y.dir=false) (hx:x.dir=false):mR d (pW e p x) D :=
 ⟨_,h.set (by omega) hp hpar hno hx,fun n hn=>by rw [if_neg (by omega)],by show d.stamps≤e.stamps + 1;omega⟩
theorem qDw {d:Dk} {p:ByteArray} (h:¬ (aT d p).dir=true) {y:Itm} (hy:aH d.L p=some y):y.dir=false:=by
 have:aT d p=y:=by rw [aT,hy];rfl
 rw [this] at h;simpa using h
theorem zH0 {d:Dk} {p:ByteArray} (h:∀ y,aH d.L p=some y→y.dir=false):(aT d p).dir=false:=by
 unfold aT
 cases hx:aH d.L p with
|none=>rfl
|some y=>exact h y hx
theorem zQx {d:Dk} {p q:ByteArray} {y:Itm} (hn:eY d p=[]) (hy:aH d.L q=some y):par q≠p:=fun e=>by
 have:q ∈ eY d p:=by
  simp only [eY,List.mem_map,List.mem_filter,decide_eq_true_eq];exact ⟨(q,y),⟨cB hy,e⟩,rfl⟩
 rw [hn] at this;simp at this
theorem qEs (loss:Int):∀ (ks:List ByteArray) (n:Int) (d:Dk) (D:Int→ByteArray),Sy d D→0≤d.stamps→mR d (eQ loss ks n d) D
|[],_,d,D,h,_=>qEr h rfl rfl
|p :: r,n,d,D,h,h0=>by
  rw [eQ];split
  ·rename_i hl;obtain ⟨x,hx⟩:∃ x,aH d.L p=some x:=by
    unfold aT at hl
    cases hx:aH d.L p with
   |none=>rw [hx] at hl;cases hl
   |some x=>exact ⟨x,rfl⟩
   have hi:aT d p=x:=by rw [aT,hx];rfl
   have hd:x.dir=false:=by
    cases hd:x.dir with
   |false=>rfl
   |true=>have:=(h.dir p x hx hd).2;rw [hi,this] at hl;cases hl
   obtain ⟨D1,s1,e1,l1⟩:=wH (d:=d) h rfl h0 (x:=wJ (qAk (IntKind.u64.wrap loss) (IntKind.u64.wrap (n + 1))) (aT d p)) (h.key p x hx) (h.par p x hx) (fun y hy=>by rw [hx] at hy;injection hy with hy;subst hy;exact hd) (by rw [hi];exact hd)
   obtain ⟨D2,s2,e2,l2⟩:=qEs loss r (n + 1) _ D1 s1 (by show 0≤d.stamps + 1;omega)
   exact ⟨D2,s2,fun n hn=>by rw [e2 n (Int.le_trans hn l1),e1 n hn],Int.le_trans l1 l2⟩
  ·exact qEs loss r n d D h h0
theorem gD {d:Dk} {D:Int→ByteArray} (h:Sy d D) (h0:0≤d.stamps) (k:Int) (P Q:ByteArray) (M:Int):mR d (qA0 d (kT k) P Q M) D:=by
 have same:mR d d D:=qEr h rfl rfl
 have hs:Sy (bJ d).2 D:=h.congr (jQ d).1 (by rw [(jQ d).2.2.2.2];omega)
 have hL:=(jQ d).1
 have hst:=(jQ d).2.2.2.2
 by_cases k1:k=1
 ·subst k1;show mR d (dY d P).2 D
  unfold dY;split
  ·exact same
  split
  ·exact same
  split
  ·exact same
  split
  ·exact sH h
  rename_i a b c e
  have a:=Decidable.of_not_not a
  have b:jB d P=true:=by simpa using b
  have:=hs.put (e:={ (bJ d).2 with L:=Dk.put P kB d.L,n:=d.n + 1 }) (D':=D) (p:=P) (x:=kB) (by rw [hL]) (Int.le_refl _) (qBb a) (by rw [hL];exact qD7 a b) (fun y _ _=>rfl) (fun _=>⟨rfl,rfl⟩) ⟨Int.le_refl _,by show 0≤(bJ d).2.stamps;omega⟩ (fun _ _=>rfl) (fun hd=>by cases hd)
  exact ⟨D,this,fun _ _=>rfl,by show d.stamps≤(bJ d).2.stamps;omega⟩
 by_cases k2:k=2
 ·subst k2;show mR d (cW d P Q).2 D
  unfold cW;split
  ·exact same
  split
  ·exact same
  split
  ·exact same
  split
  ·exact same
  split
  ·exact sH h
  rename_i a b c e f
  have a:=Decidable.of_not_not a
  have b:jB d P=true:=by simpa using b
  exact wH hs hst h0 (qBb a) (by rw [hL];exact qD7 a b) (fun y hy=>qDw c (by rw [hL] at hy;exact hy)) (by simpa using c)
 by_cases k3:k=3
 ·subst k3;show mR d (cS d P).2 D
  unfold cS;split
  ·exact same
  split
  ·exact same
  split
  ·exact same
  split
  ·exact sH h
  rename_i a b c e
  have c:=Decidable.of_not_not c
  exact ⟨D,hs.del (e:={ (bJ d).2 with L:=Dk.del P d.L }) (p:=P) (by rw [hL]) rfl (fun q y hy=>zQx c (by rw [hL] at hy;exact hy)),fun _ _=>rfl,by show d.stamps≤(bJ d).2.stamps;omega⟩
 by_cases k4:k=4
 ·subst k4;show mR d (zGe d P Q).2 D
  have aux:∀ (e m:Int),(e=0→may d P 1=0∧may d Q 1=0)→mR d (if e≠0 then (e,d) else if has d P=false∨jB d Q=false then (11,d) else if (aT d P).dir=true∨(aT d Q).dir=true then (12,d) else if P≠Q∧qG0 d Q m=false then (13,d) else if (bJ d).1≠0 then bJ d else (0,pW { (bJ d).2 with L:=Dk.del P d.L } Q (aT d P)):Int × Dk).2 D:=by
   intro e m he;split
   ·exact same
   split
   ·exact same
   split
   ·exact same
   split
   ·exact same
   split
   ·exact sH h
   rename_i a b c _ _;obtain ⟨a1,a2⟩:=he (Decidable.of_not_not a)
   have b2:jB d Q=true:=by cases hh:jB d Q <;> simp_all
   have b1:has d P=true:=by cases hh:has d P <;> simp_all
   have c1:¬ (aT d P).dir=true:=fun e=>c (.inl e)
   have c2:¬ (aT d Q).dir=true:=fun e=>c (.inr e)
   have hdel:Sy { (bJ d).2 with L:=Dk.del P d.L } D:=hs.del (p:=P) (by rw [hL]) rfl (fun q y hy=>by
    rw [hL] at hy;intro e
    rcases h.par q y hy with e2|⟨z,hz,hd⟩
    ·have:=jZ (qBb a1)
     exact this (by rw [← e];exact e2)
    ·rw [e] at hz;rw [qDw c1 hz] at hd;cases hd)
   refine wH hdel hst h0 (qBb a2) ?_ (fun y hy=>?_) (by simpa using c1)
   ·rcases qD7 a2 b2 with e|⟨y,hy,hd⟩
    ·exact .inl e
    ·refine .inr ⟨y,?_,hd⟩;show aH (Dk.del P d.L) (par Q)=some y
     rw [kA,if_neg (fun e=>by rw [e] at hy;rw [qDw c1 hy] at hd;cases hd)]
     exact hy
   ·have hy:aH (Dk.del P d.L) Q=some y:=hy
    rw [kA] at hy;split at hy
    ·cases hy
    ·exact qDw c2 hy
  refine aux _ _ fun e=>?_
  split at e
  ·rename_i h1;exact ⟨h1,e⟩
  ·rename_i h1;exact absurd e h1
 by_cases k5:k=5
 ·subst k5;show mR d (append d P Q).2 D
  unfold append;split
  ·exact same
  split
  ·exact same
  split
  ·exact sH h
  rename_i a b c;obtain ⟨f1,x,hx,hd,hi⟩:=zCn (Decidable.of_not_not a);refine wH hs hst h0 (qBb f1) (by rw [hL];exact h.par P x hx) (fun y hy=>?_) (by show (aT d P).dir=false;rw [hi];exact hd)
  rw [hL,hx] at hy
  injection hy with hy
  subst hy;exact hd
 by_cases k6:k=6
 ·subst k6;show mR d (restart d M) D
  obtain ⟨D1,s1,e1,l1⟩:=qEs M (dE d.L) 0 d D h h0;exact ⟨D1,s1.congr rfl (Int.le_refl _),e1,l1⟩
 by_cases k7:k=7
 ·subst k7;show mR d (zMf (fun s=>qFb s M) d P).2 D
  unfold zMf;split
  ·exact same
  rename_i a;obtain ⟨f1,x,hx,hd,hi⟩:=zCn (Decidable.of_not_not a);refine wH h rfl h0 (qBb f1) (h.par P x hx) (fun y hy=>?_) (by show (aT d P).dir=false;rw [hi];exact hd)
  rw [hx] at hy
  injection hy with hy
  subst hy;exact hd
 ·rw [zM2 k1 k2 k3 k4 k5 k6 k7];exact same
theorem zFu:Sy Dk.new (fun _=>ByteArray.empty):=⟨⟨fun p x hx=>(by cases hx),fun p x hx=>(by cases hx),fun p x hx=>(by cases hx),fun p x hx=>(by cases hx)⟩,fun p x hx=>(by cases hx)⟩
end Go.Sw
