/-
  ref02.Same: are two lists of texts alike?
-/
import Derived.Test.YtdfjeokjmigkaaaGreatKept
import Derived.Test.YtdfjeokjmigkaaaGreatMgA
import Derived.Test.YtdfjeokjmigkaaaGreatGc
import Derived.Test.YtdfjeokjmigkaaaGreatTyZ
set_option linter.unusedVariables false
set_option linter.unusedSimpArgs false
section
namespace Go.DiffM
section
variable {α:Type} [DecidableEq α]
def knS:List Nat→Nat→Nat→List (Nat × Nat)
|[],_,_=>[]
|x :: r,i,j=>(if x=0 then [(i,j)] else []) ++ knS r (if x=2 then i else i + 1) (if x=1 then j else j + 1)
def kn (a b:List α):List (Nat × Nat):=knS (steps a b) 0 0
end
section
variable {α:Type}
def KN (a b:List α):List (Nat × Nat)→Nat→Nat→Prop
|[],_,_=>True
|(p,q) :: r,i,j=>i≤p∧j≤q∧(∃ (h1:p < a.length) (h2:q < b.length),a[p]=b[q])∧KN a b r (p + 1) (q + 1)
theorem KN.low {a b:List α}:∀ {l:List (Nat × Nat)} {i j i' j':Nat},KN a b l i j→i'≤i→j'≤j→KN a b l i' j'
|[],_,_,_,_,_,_,_=>trivial
|(p,q) :: r,i,j,i',j',⟨h1,h2,h3,h4⟩,hi,hj=>⟨by omega,by omega,h3,h4⟩
theorem KN.len {a b:List α}:∀ {l:List (Nat × Nat)} {i j:Nat},KN a b l i j→l.length≤a.length - i
|[],_,_,_=>Nat.zero_le _
|(x,y) :: r,i,j,⟨h1,h2,⟨h3,h4,_⟩,h5⟩=>by
  have:=h5.len
  simp only [List.length_cons];omega
theorem KN.mem {a b:List α}:∀ {l:List (Nat × Nat)} {i j:Nat},KN a b l i j→∀ p ∈ l,i≤p.1∧j≤p.2∧p.1 < a.length∧p.2 < b.length
|[],_,_,_,p,hp=>by simp at hp
|(x,y) :: r,i,j,⟨h1,h2,⟨h3,h4,_⟩,h5⟩,p,hp=>by
  rcases List.mem_cons.1 hp with rfl|hp
  ·exact ⟨h1,h2,h3,h4⟩
  ·have:=h5.mem p hp;exact ⟨by omega,by omega,this.2.2.1,this.2.2.2⟩
end
section
variable {α:Type} [DecidableEq α]
theorem qR0 (a b:List α):∀ (L:List Nat) (i j:Nat),L=steps (a.drop i) (b.drop j)→KN a b (knS L i j) i j
|[],_,_,_=>trivial
|op :: rest,i,j,h=>by
  rcases zC5 a b i j op rest h.symm with ⟨rfl,hi,hj,he,hr⟩|⟨rfl,hi,hr⟩|⟨rfl,hj,hr⟩
  ·rw [knS,if_pos rfl,if_neg (by omega),if_neg (by omega)]
   exact ⟨Nat.le_refl _,Nat.le_refl _,⟨hi,hj,he⟩,qR0 a b rest _ _ hr⟩
  ·rw [knS,if_neg (by omega),if_neg (by omega),if_pos rfl]
   exact (qR0 a b rest _ _ hr).low (by omega) (by omega)
  ·rw [knS,if_neg (by omega),if_pos rfl,if_neg (by omega)]
   exact (qR0 a b rest _ _ hr).low (by omega) (by omega)
theorem qX (a b:List α):KN a b (kn a b) 0 0:=qR0 a b _ 0 0 (by simp)
def plc (n:Nat) (l:List (Nat × Nat)):List Int:=l.foldl (fun (o:List Int) (p:Nat × Nat)=>o.set p.1 (p.2:Int)) (List.replicate n (-1))
def look:List (Nat × Nat)→Nat→Option Nat
|[],_=>none
|(p,q) :: r,i=>if p=i then some q else look r i
def qBy (l:List (Nat × Nat)) (i:Nat):Int:=match look l i with|some q=>q|none=>-1
theorem qP0 {l:List (Nat × Nat)} {i:Nat} (h:∀ p ∈ l,p.1≠i):look l i=none:=by
 induction l with
|nil=>rfl
|cons x r ih =>
  obtain ⟨p,q⟩:=x;rw [look,if_neg (h (p,q) (by simp)),ih fun y hy=>h y (by simp [hy])]
end
section
variable {α:Type}
theorem zBr {a b:List α} (n:Nat):∀ (l:List (Nat × Nat)) (i j:Nat) (o:List Int),KN a b l i j→o.length=n→∀ k,k < n→(l.foldl (fun (o:List Int) (p:Nat × Nat)=>o.set p.1 (p.2:Int)) o)[k]?=some (match look l k with|some q=>(q:Int)|none=>o.getD k (-1))
|[],_,_,o,_,ho,k,hk=>by simp [look,List.getD_eq_getElem?_getD,List.getElem?_eq_getElem (show k < o.length by omega)]
|(p,q) :: r,i,j,o,⟨h1,h2,⟨h3,h4,_⟩,h5⟩,ho,k,hk=>by
  rw [List.foldl_cons,zBr n r _ _ _ h5 (by rw [List.length_set,ho]) k hk]
  rw [look]
  by_cases e:p=k
  ·subst e;rw [if_pos rfl,qP0 (fun y hy=>by have:=(h5.mem y hy).1;omega)]
   simp [List.getD_eq_getElem?_getD,List.getElem?_set,ho,hk]
  ·rw [if_neg e];simp [List.getD_eq_getElem?_getD,List.getElem?_set,e]
theorem qRn (n:Nat) (l:List (Nat × Nat)):(plc n l).length=n:=by
 have:∀ (l:List (Nat × Nat)) (o:List Int),(l.foldl (fun (o:List Int) (p:Nat × Nat)=>o.set p.1 (p.2:Int)) o).length=o.length:=by
  intro l
  induction l with
 |nil=>intro o;rfl
 |cons x r ih=>intro o;rw [List.foldl_cons,ih,List.length_set]
 rw [plc,this,List.length_replicate]
end
section
variable {α:Type} [DecidableEq α]
theorem zH0 (o a:List α) (k:Nat) (hk:k < o.length):(plc o.length (kn o a))[k]'(by rw [qRn];exact hk)=qBy (kn o a) k:=by
 have:=zBr o.length (kn o a) 0 0 (List.replicate o.length (-1)) (qX o a) (by simp) k hk
 have h2:(plc o.length (kn o a))[k]?=_:=this
 rw [List.getElem?_eq_getElem (by rw [qRn];exact hk)] at h2
 simp only [Option.some.injEq] at h2;rw [h2,qBy];split <;> simp [List.getD_eq_getElem?_getD,hk]
end
theorem zJt {l:List (Nat × Nat)} {i q:Nat} (h:look l i=some q):(i,q) ∈ l:=by
 induction l with
|nil=>simp [look] at h
|cons x r ih =>
  obtain ⟨p,y⟩:=x;rw [look] at h
  by_cases e:p=i
  ·rw [if_pos e] at h;cases h;subst e;exact List.mem_cons_self ..
  ·rw [if_neg e] at h;exact List.mem_cons_of_mem _ (ih h)
section
variable {α:Type}
structure Ck (α:Type) where
 st:Bool
 b:List α
 l:List α
 r:List α
structure Cu (α:Type) where
 i:Nat
 j:Nat
 k:Nat
 out:List (Ck α)
def rD (cs:List (Ck α)) (s:α):List (Ck α):=match cs.getLast? with
|some c=>if c.st then cs.dropLast ++ [⟨true,c.b ++ [s],c.l ++ [s],c.r ++ [s]⟩] else cs ++ [⟨true,[s],[s],[s]⟩]
|none=>[⟨true,[s],[s],[s]⟩]
def lM (o a b:List α) (u:Cu α) (i j k:Nat):Cu α :=
 ⟨i,j,k,if u.i < i∨u.j < j∨u.k < k then u.out ++ [⟨false,(o.take i).drop u.i,(a.take j).drop u.j,(b.take k).drop u.k⟩] else u.out⟩
def qWv (s:α) (u:Cu α):Cu α:=⟨u.i + 1,u.j + 1,u.k + 1,rD u.out s⟩
def tri (x y:List (Nat × Nat)):List (Nat × Nat × Nat):=x.flatMap fun p=>(y.filter fun q=>p.1 == q.1).map fun q=>(p.1,p.2,q.2)
variable [Inhabited α]
def chT (o a b:List α):List (Nat × Nat × Nat)→Cu α→Cu α
|[],u=>u
|(i,j,k) :: r,u=>chT o a b r (qWv (o.getD i default) (lM o a b u i j k))
def chI (o a b:List α) (x y:List (Nat × Nat)):Nat→Nat→Cu α→Cu α
|0,_,u=>u
|n + 1,i,u=>chI o a b x y n (i + 1) (match look x i,look y i with
 |some j,some k=>qWv (o.getD i default) (lM o a b u i j k)
 |_,_=>u)
end
section
variable {α:Type} [DecidableEq α] [Inhabited α]
def lY (o a b:List α):List (Ck α):=(lM o a b (chT o a b (tri (kn o a) (kn o b)) ⟨0,0,0,[]⟩) o.length a.length b.length).out
end
section
variable {α:Type} {o a b:List α}
theorem zB9 {p i k:Nat} {y:List (Nat × Nat)} (hy:KN o b y i k) (h:p < i):(y.filter fun z=>p == z.1)=[]:=by
 refine List.filter_eq_nil_iff.2 fun z hz=>?_
 have:=(hy.mem z hz).1
 simp;omega
theorem zG9 {p q i k:Nat} {x y:List (Nat × Nat)} (hy:KN o b y i k) (h:p < i):tri ((p,q) :: x) y=tri x y:=by
 rw [tri,List.flatMap_cons];dsimp only;rw [zB9 hy h];rfl
theorem qJ2 {p q i j:Nat}:∀ {x y:List (Nat × Nat)} (hx:KN o a x i j) (h:p < i),tri x ((p,q) :: y)=tri x y
|[],y,_,_=>rfl
|(s,t) :: r,y,⟨h1,h2,h3,h4⟩,h=>by
  have ih:=qJ2 (y:=y) (q:=q) h4 (show p < s + 1 by omega)
  unfold tri at ih ⊢;rw [List.flatMap_cons,List.flatMap_cons,ih]
  congr 2
  rw [List.filter_cons_of_neg (by simp;omega)]
theorem zHa {p q q2 j k:Nat} {x y:List (Nat × Nat)} (hx:KN o a x (p + 1) j) (hy:KN o b y (p + 1) k):tri ((p,q) :: x) ((p,q2) :: y)=(p,q,q2) :: tri x y:=by
 have:=qJ2 (y:=y) (q:=q2) hx (Nat.lt_succ_self p)
 unfold tri at this ⊢;rw [List.flatMap_cons,this];rw [List.filter_cons_of_pos (by simp),zB9 hy (Nat.lt_succ_self p)];rfl
variable [Inhabited α]
theorem qGx (x y:List (Nat × Nat)):∀ (n i:Nat) (x' y':List (Nat × Nat)) (j k:Nat) (u:Cu α),(∀ m,i≤m→look x m=look x' m)→(∀ m,i≤m→look y m=look y' m)→KN o a x' i j→KN o b y' i k→i + n=o.length →
  chI o a b x y n i u=chT o a b (tri x' y') u
|0,i,x',y',j,k,u,lx,ly,hx,hy,hn=>by
  cases x' with
 |nil=>rfl
 |cons p r=>obtain ⟨p,q⟩:=p;obtain ⟨h1,h2,⟨h3,h4,_⟩,h5⟩:=hx;omega
|n + 1,i,x',y',j,k,u,lx,ly,hx,hy,hn=>by
  have nl:∀ {c:List α} {z:List (Nat × Nat)} {j:Nat},KN o c z (i + 1) j→look z i=none:=fun hz=>qP0 fun p hp=>by have:=(hz.mem p hp).1;omega
  have up:∀ {c:List α} {z:List (Nat × Nat)} {j:Nat},KN o c z i j→(∃ q r,z=(i,q) :: r∧KN o c r (i + 1) (q + 1))∨KN o c z (i + 1) j:=fun {c z j} hz=>by
   cases z with
  |nil=>exact .inr trivial
  |cons p r =>
    obtain ⟨p,q⟩:=p;obtain ⟨h1,h2,h3,h4⟩:=hz
    by_cases e:p=i
    ·subst e;exact .inl ⟨q,r,rfl,h4⟩
    ·exact .inr ⟨by omega,h2,h3,h4⟩
  have sk:∀ {q m:Nat} {r:List (Nat × Nat)},i + 1≤m→look ((i,q) :: r) m=look r m:=fun {q m r} hm=>by rw [look,if_neg (by omega)]
  rw [chI,lx i (Nat.le_refl _),ly i (Nat.le_refl _)]
  rcases up hx with ⟨q,r,rfl,h1⟩|h1
  ·rcases up hy with ⟨q2,s,rfl,h2⟩|h2
   ·rw [zHa h1 h2,chT];simp only [look,if_true];exact qGx x y n (i + 1) r s _ _ _ (fun m hm=>(lx m (by omega)).trans (sk hm)) (fun m hm=>(ly m (by omega)).trans (sk hm)) h1 h2 (by omega)
   ·rw [zG9 h2 (Nat.lt_succ_self i),nl h2];simp only [look,if_true];exact qGx x y n (i + 1) r y' _ _ _ (fun m hm=>(lx m (by omega)).trans (sk hm)) (fun m hm=>ly m (by omega)) h1 h2 (by omega)
  ·rw [nl h1]
   rcases up hy with ⟨q2,s,rfl,h2⟩|h2
   ·rw [qJ2 h1 (Nat.lt_succ_self i)];exact qGx x y n (i + 1) x' s _ _ _ (fun m hm=>lx m (by omega)) (fun m hm=>(ly m (by omega)).trans (sk hm)) h1 h2 (by omega)
   ·exact qGx x y n (i + 1) x' y' _ _ _ (fun m hm=>lx m (by omega)) (fun m hm=>ly m (by omega)) h1 h2 (by omega)
end
section
variable {α:Type} {o a b:List α}
theorem look_ok {l:List (Nat × Nat)} {i j m q:Nat} (h:KN a b l i j) (e:look l m=some q):i≤m∧j≤q∧m < a.length∧q < b.length:=h.mem _ (zJt e)
theorem zBw:∀ {l:List (Nat × Nat)} {i j:Nat},KN a b l i j→∀ {m m' q q':Nat},look l m=some q→look l m'=some q'→m < m'→q < q'
|[],_,_,_,m,m',q,q',h,_,_=>by simp [look] at h
|(x,y) :: r,i,j,⟨h1,h2,h3,h4⟩,m,m',q,q',h,h',hm=>by
  rw [look] at h h'
  by_cases e:x=m
  ·rw [if_pos e] at h;rw [if_neg (by omega)] at h'
   simp only [Option.some.injEq] at h
   have:=(look_ok h4 h').2.1
   omega
  ·rw [if_neg e] at h
   by_cases e':x=m'
   ·have:=(look_ok h4 h).1;omega
   ·rw [if_neg e'] at h';exact zBw h4 h h' hm
structure Nxt (x:List (Nat × Nat)) (n j lim:Nat):Prop where
 low:∀ m q,n≤m→look x m=some q→j≤q
 lt:∀ m q,look x m=some q→q < lim
 le:j≤lim
theorem Nxt.one {x:List (Nat × Nat)} {n j lim:Nat} (h:Nxt x n j lim):Nxt x (n + 1) j lim:=⟨fun m q hm e=>h.low m q (by omega) e,h.lt,h.le⟩
theorem Nxt.step {x:List (Nat × Nat)} {n j lim q i k:Nat} (h:Nxt x n j lim) (hk:KN o a x i k) (e:look x n=some q):Nxt x (n + 1) (q + 1) lim :=
 ⟨fun m q' hm e'=>zBw hk e e' (by omega),h.lt,h.lt n q e⟩
theorem Nxt.init {x:List (Nat × Nat)} (h:KN o a x 0 0):Nxt x 0 0 a.length:=⟨fun _ _ _ _=>Nat.zero_le _,fun m q e=>(look_ok h e).2.2.2,Nat.zero_le _⟩
end
end Go.DiffM
end
section
set_option maxRecDepth 20000
namespace Go.Proofs.YtdfjeokjmigkaaaGreat
open Go Go.Eng Go.RowKit Go.DiffM
def nM:List Nat→Nat→Nat→List (Int × Int)
|[],_,_=>[]
|x :: r,i,j=>(if x=0 then [((i:Int),(j:Int))] else []) ++ nM r (if x=2 then i else i + 1) (if x=1 then j else j + 1)
theorem rZ {α:Type} [DecidableEq α]:∀ (n:Nat) (a b:List α),a.length + b.length≤n→∀ x ∈ steps a b,x≤2
|_,[],[],_=>by simp [steps]
|0,x :: xs,_,h=>by simp at h
|0,[],y :: ys,h=>by simp at h
|n + 1,x :: xs,[],h=>by
  simp only [List.length_cons] at h
  have:=rZ n xs [] (by omega)
  rw [steps];intro z hz;rcases List.mem_cons.1 hz with rfl|hz
  ·omega
  ·exact this z hz
|n + 1,[],y :: ys,h=>by
  simp only [List.length_cons] at h
  have:=rZ n [] ys (by omega)
  rw [steps];intro z hz;rcases List.mem_cons.1 hz with rfl|hz
  ·omega
  ·exact this z hz
|n + 1,x :: xs,y :: ys,h=>by
  simp only [List.length_cons] at h
  have h1:=rZ n xs ys (by omega)
  have h2:=rZ n xs (y :: ys) (by simp only [List.length_cons];omega)
  have h3:=rZ n (x :: xs) ys (by simp only [List.length_cons];omega)
  rw [steps];split
  ·intro z hz;rcases List.mem_cons.1 hz with rfl|hz
   ·omega
   ·exact h1 z hz
  ·split
   ·intro z hz;rcases List.mem_cons.1 hz with rfl|hz
    ·omega
    ·exact h2 z hz
   ·intro z hz;rcases List.mem_cons.1 hz with rfl|hz
    ·omega
    ·exact h3 z hz
theorem qL7 (l:List Nat):∀ (n i j:Nat),nM (List.replicate n 0 ++ l) i j=(List.range n).map (fun (k:Nat)=>(((i + k:Nat):Int),((j + k:Nat):Int))) ++ nM l (i + n) (j + n)
|0,i,j=>by simp
|n + 1,i,j=>by
  rw [List.replicate_succ,List.cons_append,nM,if_pos rfl,if_neg (by omega),if_neg (by omega),qL7 l n,List.range_succ_eq_map,List.map_cons,List.map_map]
  simp only [Nat.add_zero,List.cons_append,List.nil_append,Function.comp_def]
  congr 1
  congr 1
  ·apply List.map_congr_left;intro k _;simp only [Nat.succ_eq_add_one,Prod.mk.injEq];omega
  ·congr 1 <;> omega
theorem qL6 (l:List Nat):∀ (n i j:Nat),nM (List.replicate n 1 ++ l) i j=nM l (i + n) j
|0,i,j=>by simp
|n + 1,i,j=>by
  rw [List.replicate_succ,List.cons_append,nM,if_neg (by omega),if_neg (by omega),if_pos rfl,qL6 l n,List.nil_append]
  congr 1;omega
theorem qL5 (l:List Nat):∀ (n i j:Nat),nM (List.replicate n 2 ++ l) i j=nM l i (j + n)
|0,i,j=>by simp
|n + 1,i,j=>by
  rw [List.replicate_succ,List.cons_append,nM,if_neg (by omega),if_pos rfl,if_neg (by omega),qL5 l n,List.nil_append]
  congr 1;omega
theorem qF7:∀ (l:List (Nat × Nat)) (i j:Nat),Fine l→(∀ x ∈ kW l,x≤2)→nM (kW l) i j=vV l i j
|[],_,_,_,_=>rfl
|(op,n) :: r,i,j,hf,h=>by
  rw [rA] at h ⊢
  have hn:=hf.head
  have hop:op≤2:=h op (by simp;left;simp only at hn;omega)
  have ih:=fun i j=>qF7 r i j hf.tail (fun x hx=>h x (by simp [hx]))
  rw [vV]
  have:op=0∨op=1∨op=2:=by omega
  rcases this with rfl|rfl|rfl
  ·rw [qL7,ih];rfl
  ·rw [qL6,ih];rfl
  ·rw [qL5,ih];rfl
theorem zB1 (a b:List ByteArray):nM (steps a b) 0 0=qP3 a b:=by
 obtain ⟨h1,h2⟩:=qJj a b;rw [← h2];exact qF7 _ 0 0 h1 (by rw [h2];exact rZ _ a b (Nat.le_refl _))
end Go.Proofs.YtdfjeokjmigkaaaGreat
end
section
set_option maxRecDepth 20000
namespace Go.Proofs.YtdfjeokjmigkaaaGreat
open Go Go.Eng Go.RowKit Go.DiffM

def tW (p:Nat × Nat):Int × Int:=((p.1:Int),(p.2:Int))
theorem qUm:∀ (s:List Nat) (i j:Nat),nM s i j=(knS s i j).map tW
|[],_,_=>rfl
|x :: r,i,j=>by
  rw [nM,knS,qUm r,List.map_append]
  congr 1
  split <;> rfl
theorem qL8 (a b:List ByteArray):qP3 a b=(kn a b).map tW:=by rw [← zB1,kn,qUm]
theorem zEq (l:List Int) (i:Nat) (x:Int):(iD l).set i [.v (.int .i64 x)]=iD (l.set i x):=by simp [iD,List.map_set,qR2]
abbrev zDl (l:List Int):Row:=.sl true 3 1 (iD l)
def bV (o a:List ByteArray):List Int:=plc o.length (kn o a)
theorem qDl (o a:List ByteArray):(bV o a).length=o.length:=qRn _ _
set_option maxHeartbeats 4000000 in
theorem qTz (o a:List ByteArray) (ho:o.length≤400) (ha:a.length≤400):HFun Tryz.prog 65 [.lst false (aK o),.lst false (aK a)] (fun h st =>
  h=.tup [.own 0,.v (.int .i64 0)]∧st=[(0,zDl (bV o a))]):=by
 refine eF (N:=38) Tryz.func65 rfl Tryz.ntmps65 Tryz.results65 (by simp) ?_
 refine zE ?_;refine zJ (fun K hK=>?_);simp (disch:=omega) only [push_cast,↓Int.cast_ofNat_Int,simprocAttr];refine hK _ ?_
 refine zE ?_;refine zJ (fun K hK=>?_);simp (disch:=omega) only [push_cast,↓Int.cast_ofNat_Int,simprocAttr]
 refine hat 112 zXx (zSq o a) (.cons (aH (aN _)) (.cons (aH (aN _)) .nil)) ?_;rintro _ _ (⟨hlim,rfl,rfl⟩|⟨-,-,rfl,rfl⟩)
 ·omega
 rw [qL8];with_reducible refine aB ?_;simp (disch:=omega) only [push_cast,↓Int.cast_ofNat_Int,simprocAttr]
 refine hK _ ?_;refine zE ?_;refine zE ?_;refine zJ (fun K hK=>?_);simp (disch:=omega) only [push_cast,↓Int.cast_ofNat_Int,simprocAttr];refine hK _ ?_
 refine zA ?_;refine yC rfl ?_;refine zC ?_;refine zE ?_;refine yB [0,6] [112] (by simp only [zZ,zR,zP,zQ,zN,zS,zM,zX,zU,Nat.reduceEqDiff,reduceIte];exact rfl) ?_
 have e1:[[FV.v (.int .i64 (-1))]]=iD [-1]:=rfl
 refine zJ (fun K hK=>?_);simp (disch:=omega) only [push_cast,↓Int.cast_ofNat_Int,simprocAttr,e1,aF]
 refine hat 184 zXw (zHu (-1) o.length (by omega)) (.cons (jK (zJ8 _) rfl) (.cons (.v _) .nil)) ?_
 rintro _ _ ⟨rfl,rfl⟩;with_reducible refine aB ?_;simp (disch:=omega) only [push_cast,↓Int.cast_ofNat_Int,simprocAttr]
 refine hK _ ?_;refine zE ?_;refine zE ?_;refine zJ (fun K hK=>?_);simp (disch:=omega) only [push_cast,↓Int.cast_ofNat_Int,simprocAttr,pQ,List.length_map];refine hK _ ?_
 refine zA ?_;refine zD ?_
 have hmem:=(qX o a).mem
 have hLl:(kn o a).length≤400:=by have:=(qX o a).len;omega
 have hd:bV o a=((kn o a).drop 0).foldl (fun (o:List Int) (p:Nat × Nat)=>o.set p.1 (p.2:Int)) (List.replicate o.length (-1)):=rfl
 generalize bV o a=P at *
 generalize kn o a=L at *
 refine bR (fun x:Nat × List Int=>⟨[(8,.own 184),(24,.own 112),(25,.v (.int .i64 L.length)),(26,.v (.int .i64 x.1))],[(112,qHe (L.map tW)),(184,zDl x.2)]⟩)
  (fun x=>x.1≤L.length∧x.2.length=o.length∧P=(L.drop x.1).foldl (fun (o:List Int) (p:Nat × Nat)=>o.set p.1 (p.2:Int)) x.2) (fun x=>L.length - x.1) [8,24,25,26] [112,184] (0,List.replicate o.length (-1)) rfl ⟨Nat.zero_le _,by simp,hd⟩ ?_
 rintro ⟨n,out⟩ ⟨hn,hl,hP⟩;simp only at hn hl hP
 by_cases hlt:n < L.length
 ·obtain ⟨p,q,hpq⟩:∃ p q,L[n]=(p,q):=⟨L[n].1,L[n].2,rfl⟩
  have hp:=(hmem (p,q) (hpq ▸ List.getElem_mem hlt)).2.2.1
  rw [List.drop_eq_getElem_cons hlt,hpq,List.foldl_cons] at hP
  have hlm:n < (L.map tW).length:=by rw [List.length_map];exact hlt
  have hge:(L.map tW)[n]=((p:Int),(q:Int)):=by rw [List.getElem_map,hpq];rfl
  have hll:(nN (L.map tW)).length=L.length:=by rw [pQ,List.length_map]
  refine zE ?_;refine zJ (fun K hK=>?_);simp (disch:=omega) only [push_cast,↓Int.cast_ofNat_Int,simprocAttr,hll];refine hK _ ?_
  refine zE ?_;refine yD rfl ?_;refine zC ?_;refine zE ?_;refine zD ?_;refine zE ?_;refine zJ (fun K hK=>?_);simp (disch:=omega) only [push_cast,↓Int.cast_ofNat_Int,simprocAttr,hll,sK,qHu hlm,hge];refine hK _ ?_
  have hil:(iD out).length=o.length:=by rw [dW,hl]
  refine zA ?_;refine zJ (fun K hK=>?_);simp (disch:=omega) only [push_cast,↓Int.cast_ofNat_Int,simprocAttr,hil,zEq,fL,gC,hl];(repeat refine ⟨by first|omega|decide|((repeat' apply And.intro) <;> first|omega|decide),?_⟩);refine hK _ ?_
  refine zB ?_;refine zA ?_;refine zJ (fun K hK=>?_);simp (disch:=omega) only [push_cast,↓Int.cast_ofNat_Int,simprocAttr];refine hK _ ?_
  refine zA ?_;exact ⟨(n + 1,out.set p q),rfl,⟨hlt,by simpa using hl,hP⟩,by dsimp only;omega⟩
 ·have hne:n=L.length:=by omega
  subst hne
  have hll:(nN (L.map tW)).length=L.length:=by rw [pQ,List.length_map]
  rw [List.drop_length,List.foldl_nil] at hP;refine zE ?_;refine zJ (fun K hK=>?_);simp (disch:=omega) only [push_cast,↓Int.cast_ofNat_Int,simprocAttr,hll];refine hK _ ?_
  refine zE ?_;refine yC rfl ?_;refine zT ?_;refine zG ?_;refine zG ?_;refine zH ?_;refine zE ?_;refine zJ (fun K hK=>?_);simp (disch:=omega) only [push_cast,↓Int.cast_ofNat_Int,simprocAttr];refine hK _ ?_
  refine zA ?_;refine zW ?_;simp only [yA,yM,yH,yE,aA,aC,yK,yJ,zS,zM,Nat.reduceEqDiff,reduceIte,reduceCtorEq];exact qBk rfl (qBj _) ⟨rfl,by rw [hP]⟩
end Go.Proofs.YtdfjeokjmigkaaaGreat
end
section
set_option maxRecDepth 20000
namespace Go.Proofs.YtdfjeokjmigkaaaGreat
open Go Go.Eng Go.RowKit

end Go.Proofs.YtdfjeokjmigkaaaGreat
end
