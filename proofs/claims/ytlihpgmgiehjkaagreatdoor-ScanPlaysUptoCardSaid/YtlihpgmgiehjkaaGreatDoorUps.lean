/-
  Steps of a disk that are handed in, opened; how much they hold.
-/
import Derived.Test.YtlihpgmgiehjkaaGreatDoorDsA
import Derived.Test.YtlihpgmgiehjkaaGreatDoorDlD
import Derived.Test.YtlihpgmgiehjkaaGreatDoorTrB
set_option linter.unusedSimpArgs false
set_option linter.unusedVariables false
section
set_option maxRecDepth 20000
namespace Go.Dk
open Go Go.Eng Go.Tr Go.Proofs.YtlihpgmgiehjkaaGreatDoor
structure Bd (d:Dk) (S l t:Nat):Prop where
 rise:eU d.L
 keys:∀ e ∈ d.L,e.1.size≤1048576
 len:d.L.length≤l
 lim:∀ p,(aP d p).data.size≤S∧(aP d p).kept.size≤S∧((aP d p).anew=false→(aP d p).kept.size≤(aP d p).data.size)
 n:d.n≤1001 * l
 m:d.m≤l
 steps:0≤d.steps∧d.steps≤t
 stamps:0≤d.stamps∧d.stamps≤1001 * l
 armed:-1≤d.armed∧d.armed≤9223372036854775807
theorem Bd.mono {d:Dk} {S S' l l' t t':Nat} (h:Bd d S l t) (hS:S≤S') (hl:l≤l') (ht:t≤t'):Bd d S' l' t':=by
 have h1:=h.len;have h2:=h.n;have h3:=h.m;have h4:=h.steps;have h5:=h.stamps
 exact ⟨h.rise,h.keys,by omega,fun p=>by obtain ⟨a,b,c⟩:=h.lim p;exact ⟨by omega,by omega,c⟩,by omega,by omega,by omega,by omega,h.armed⟩
theorem Bd.new:Bd Dk.new 0 0 0:=⟨List.Pairwise.nil,by simp [Dk.new],by decide,fun p=>⟨Nat.le_refl _,Nat.le_refl _,fun _=>Nat.le_refl _⟩,by decide,by decide,by decide,by decide,by decide⟩
theorem zGi {S:Nat}:∀ {L:LI},(∀ e ∈ L,e.2.data.size≤S)→tot L≤L.length * S
|[],_=>by simp [tot]
|(p,x) :: r,h=>by
  have h1:=h (p,x) (by simp)
  have h2:=zGi (L:=r) fun e he=>h e (by simp [he])
  rw [tot,List.length_cons,Int.natCast_succ,Int.add_mul,Int.one_mul]
  have h1:x.data.size≤S:=h1
  omega
theorem Bd.tot {d:Dk} {S l t:Nat} (h:Bd d S l t):Dk.tot d.L≤d.L.length * S:=zGi fun e he=>by
 have:=(h.lim e.1).1
 have e1:aP d e.1=e.2:=by rw [aP,dX h.rise (show (e.1,e.2) ∈ d.L from he)];rfl
 rw [e1] at this;exact this
theorem zH6 {a b S:Nat} (h:a≤1000) (hS:S≤1048576):(a:Int) * S≤1048576000:=by
 have h1:a * S≤1000 * 1048576:=Nat.mul_le_mul h hS
 have h2:((a * S:Nat):Int)≤((1000 * 1048576:Nat):Int):=Int.ofNat_le.2 h1
 rw [Int.natCast_mul] at h2;exact h2
theorem Bd.ok {d:Dk} {S l t:Nat} (h:Bd d S l t) (hS:S≤1048576) (hl:l≤1000) (ht:t≤1000):d.Ok 1073741824:=by
 have h1:=h.len;have h2:=h.n;have h3:=h.m;have h4:=h.steps;have h5:=h.stamps
 have h6:=h.tot
 have h7:=zH6 (a:=d.L.length) (b:=0) (by omega) hS
 exact ⟨h.rise,h.keys,by omega,by omega,by omega,by omega,by omega,h.armed⟩
theorem Bd.lo {d:Dk} {S l t:Nat} (h:Bd d S l t) (hS:S≤1048576):Lo d:=fun p=>by
 obtain ⟨a,b,c⟩:=h.lim p;exact ⟨by omega,by omega,c⟩
theorem Bd.rok {d:Dk} {S l t:Nat} (h:Bd d S l t) (hS:S≤1048576) (hl:l≤1000) (ht:t≤1000) {R:LN} {k:Nat} (hR:Rel d R k) (hk:k≤4194303):ROk d R:=by
 have h1:=h.len;have h4:=h.steps;have h5:=h.stamps
 have h6:=h.tot
 have h7:=zH6 (a:=d.L.length) (b:=0) (by omega) hS
 exact ⟨h.rise,by omega,h.keys,by omega,by omega,by omega,h.armed,hR.look,hR.nod,by have:=hR.rl;omega⟩
theorem zBa (p:ByteArray) {α:Type} (x:α):∀ (L:List (ByteArray × α)),(put p x L).length≤L.length + 1
|[]=>Nat.le_refl _
|(t,y) :: r=>by
  have:=zBa p x r
  rw [put]
  (repeat' split) <;> simp only [List.length_cons] <;> omega
theorem Bd.step {d:Dk} {S l t:Nat} (h:Bd d S l t):Bd (aW d).2 S l (t + 1):=by
 have h3:=h.armed;have h4:=h.steps
 have hi:=zFe d
 have hL:=dL d
 refine ⟨by rw [hL.1];exact h.rise,by rw [hL.1];exact h.keys,by rw [hL.1];exact h.len,fun p=>by rw [hi];exact h.lim p,by rw [hL.2.2.1];exact h.n,by rw [hL.2.2.2.1];exact h.m,?_,by rw [hL.2.2.2.2];exact h.stamps,?_⟩
 ·unfold aW;split <;> (dsimp only;omega)
 ·unfold aW;split
  ·dsimp only;omega
  ·dsimp only;split <;> omega
theorem Bd.putd {d e:Dk} {S S' l t:Nat} (h:Bd d S l t) (hS:S≤S') {p:ByteArray} {x:Itm} (hp:p.size≤1048576) (hx:x.data.size≤S'∧x.kept.size≤S'∧(x.anew=false→x.kept.size≤x.data.size))
  (eL:e.L=put p x d.L) (eR:e.m=d.m) (en:e.n=d.n + 1) (es:e.steps=d.steps) (est:d.stamps≤e.stamps∧e.stamps≤d.stamps + 1) (ea:e.armed=d.armed):Bd e S' (l + 1) t:=by
 have h1:=h.len;have h2:=h.n;have h3:=h.m;have h4:=h.steps;have h5:=h.stamps;have h6:=h.armed
 have hl:=zBa p x d.L
 refine ⟨by rw [eL];exact nF _ _ h.rise,fun y hy=>?_,by rw [eL];omega,fun q=>?_,by omega,by omega,by omega,by omega,by omega⟩
 ·rw [eL] at hy
  rcases qAf hy with rfl|hy
  ·exact hp
  ·exact h.keys y hy
 ·have:aP e q=if q=p then x else aP d q:=by
   unfold aP;rw [eL,kA];split <;> rfl
  rw [this];split
  ·exact hx
  ·obtain ⟨a,b,c⟩:=h.lim q;exact ⟨by omega,by omega,c⟩
theorem Bd.set {d:Dk} {S S' l t:Nat} (h:Bd d S l t) (hS:S≤S') {p:ByteArray} {x:Itm} (hp:p.size≤1048576) (hx:x.data.size≤S'∧x.kept.size≤S'∧(x.anew=false→x.kept.size≤x.data.size)):Bd (jJ d p x) S' (l + 1) t :=
 h.putd hS (x:={ x with stamp:=d.stamps + 1 }) hp hx rfl rfl rfl rfl ⟨by show d.stamps≤d.stamps + 1;omega,by show d.stamps + 1≤d.stamps + 1;omega⟩ rfl
theorem Bd.del {d e:Dk} {S l t:Nat} (h:Bd d S l t) {p:ByteArray} (eL:e.L=Dk.del p d.L) (eR:e.m=d.m) (en:e.n=d.n) (es:e.steps=d.steps) (est:e.stamps=d.stamps) (ea:e.armed=d.armed):Bd e S l t:=by
 have h1:=h.len;have h2:=h.n;have h3:=h.m;have h4:=h.steps;have h5:=h.stamps;have h6:=h.armed
 have hl:=qH5 p d.L
 refine ⟨by rw [eL];exact qCw _ h.rise,fun y hy=>h.keys y (by rw [eL] at hy;exact qHv hy),by rw [eL];omega,fun q=>?_,by omega,by omega,by omega,by omega,by omega⟩
 have:aP e q=if q=p then itm0 else aP d q:=by
  unfold aP;rw [eL,nN];split <;> rfl
 rw [this];split
 ·exact ⟨Nat.zero_le _,Nat.zero_le _,fun _=>Nat.le_refl _⟩
 ·exact h.lim q
theorem qVs {p:ByteArray} {α:Type} {x:α} {L:List (ByteArray × α)} (hr:eU L) (h:(aS L p).isSome=true):(put p x L).length=L.length:=by
 rw [zBk] at h;obtain ⟨i,hi⟩:=Option.isSome_iff_exists.1 h;obtain ⟨hlt,e,-⟩:=qDg hi;exact zNi hr hlt e
theorem zQt {pick:Int} {x:Itm} {S:Nat} (h:x.data.size≤S∧x.kept.size≤S):(xF pick x).size≤S:=by
 unfold xF;split
 ·split
  ·rw [ByteArray.size_extract];omega
  ·exact h.2
 ·rw [ByteArray.size_extract];omega
theorem Bd.rest {S l t:Nat} {loss:Int}:∀ (ks:List ByteArray) (n:Int) (d:Dk) (c:Nat),Bd d S l t→d.n + ks.length≤c→d.stamps + ks.length≤c→(∀ p ∈ ks,p.size≤1048576) →
  ∃ e,gQ loss ks n d=e∧eU e.L∧(∀ y ∈ e.L,y.1.size≤1048576)∧e.L.length≤l∧(∀ p,(aP e p).data.size≤S∧(aP e p).kept.size≤S∧((aP e p).anew=false→(aP e p).kept.size≤(aP e p).data.size))∧e.n≤c∧e.m=d.m∧e.steps=d.steps∧d.stamps≤e.stamps∧e.stamps≤c
|ks,n,d,c,h,h1,h2,hk=>by
  have key:∀ (ks:List ByteArray) (n:Int) (d:Dk) (c:Nat),eU d.L→(∀ y ∈ d.L,y.1.size≤1048576)→d.L.length≤l→(∀ p,(aP d p).data.size≤S∧(aP d p).kept.size≤S∧((aP d p).anew=false→(aP d p).kept.size≤(aP d p).data.size))→d.n + ks.length≤c→d.stamps + ks.length≤c→(∀ p ∈ ks,p.size≤1048576) →
    ∃ e,gQ loss ks n d=e∧eU e.L∧(∀ y ∈ e.L,y.1.size≤1048576)∧e.L.length≤l∧(∀ p,(aP e p).data.size≤S∧(aP e p).kept.size≤S∧((aP e p).anew=false→(aP e p).kept.size≤(aP e p).data.size))∧e.n≤c∧e.m=d.m∧e.steps=d.steps∧d.stamps≤e.stamps∧e.stamps≤c:=by
   intro ks
   induction ks with
  |nil=>intro n d c a b cc dd e f g;exact ⟨d,rfl,a,b,cc,dd,by simpa using e,rfl,rfl,Int.le_refl _,by simpa using f⟩
  |cons p r ih =>
    intro n d c hr hke hl hlim hn hs hps
    have hpp:=hps p (by simp)
    rw [gQ];simp only [List.length_cons] at hn hs;split
    ·rename_i hlo
     have hhas:(aS d.L p).isSome=true:=by
      unfold aP at hlo
      cases hx:aS d.L p with
     |none=>rw [hx] at hlo;cases hlo
     |some x=>rfl
     have hll:=qVs (x:={ qBi (qDl (IntKind.u64.wrap loss) (IntKind.u64.wrap (n + 1))) (aP d p) with stamp:=d.stamps + 1 }) hr hhas
     obtain ⟨e,e0,e1,e2,e3,e4,e5,e6,e7,e8,e9⟩:=ih (n + 1) (jJ d p (qBi (qDl (IntKind.u64.wrap loss) (IntKind.u64.wrap (n + 1))) (aP d p))) c (nF _ _ hr) (fun y hy=>by
      rcases qAf hy with rfl|hy
      ·exact hpp
      ·exact hke y hy) (by show (put p _ d.L).length≤l;rw [hll];exact hl) (fun q=>by
       rw [qWn];split
       ·have:=zQt (pick:=qDl (IntKind.u64.wrap loss) (IntKind.u64.wrap (n + 1))) (x:=aP d p) ⟨(hlim p).1,(hlim p).2.1⟩
        exact ⟨this,this,fun _=>Nat.le_refl _⟩
       ·exact hlim q) (by show d.n + 1 + r.length≤c;omega) (by show d.stamps + 1 + (r.length:Int)≤c;omega) (fun q hq=>hps q (by simp [hq]))
     have e8:d.stamps + 1≤e.stamps:=e8
     exact ⟨e,e0,e1,e2,e3,e4,e5,e6,e7,by omega,e9⟩
    ·exact ih n d c hr hke hl hlim (by omega) (by omega) (fun q hq=>hps q (by simp [hq]))
  exact key ks n d c h.rise h.keys h.len h.lim h1 h2 hk
theorem Bd.restart {d:Dk} {S l t:Nat} (h:Bd d S l t) (hl:l≤1000) (M:Int):Bd (restart d M) S (l + 1) t:=by
 have h1:=h.len;have h2:=h.n;have h3:=h.m;have h4:=h.steps;have h5:=h.stamps
 have hk:(dG d.L).length=d.L.length:=by simp [dG]
 obtain ⟨e,e0,e1,e2,e3,e4,e5,e6,e7,e8,e9⟩:=Bd.rest (loss:=M) (dG d.L) 0 d (1001 * (l + 1)) h (by omega) (by push_cast;omega) (fun p hp=>by
  obtain ⟨y,hy,rfl⟩:=List.mem_map.1 hp;exact h.keys y hy)
 have er:Dk.restart d M={ e with down:=false,armed:=-1 }:=by rw [Dk.restart,e0]
 rw [er]
 push_cast at e9
 exact ⟨e1,e2,by show e.L.length≤_;omega,e4,e5,by show e.m≤_;omega,by rw [e7];exact h4,by show 0≤e.stamps∧e.stamps≤_;push_cast;omega,by show (-1:Int)≤-1∧(-1:Int)≤_;omega⟩
theorem Bd.call {d:Dk} {S l t:Nat} (h:Bd d S l t) (hl:l≤1000) (k:Int) {P Q:ByteArray} (hP:P.size≤1048576) (hQ:Q.size≤1048576) (M:Int) (hM:M≤9223372036854775807):Bd (vX d k P Q M) (S + Q.size) (l + 1) (t + 1):=by
 have h0:Bd d (S + Q.size) (l + 1) (t + 1):=h.mono (by omega) (by omega) (by omega)
 have hs:Bd (aW d).2 (S + Q.size) (l + 1) (t + 1):=h.step.mono (by omega) (by omega) (by omega)
 have lp:=h.lim P
 have hsl:=dL d
 unfold vX;split
 ·unfold eG
  (repeat' split)
  ·exact h0
  ·exact h0
  ·exact h0
  ·exact hs
  ·exact h.step.putd (p:=P) (x:=qFi) (by omega) hP ⟨Nat.zero_le _,Nat.zero_le _,fun _=>Nat.le_refl _⟩ (by rw [hsl.1]) rfl (by rw [hsl.2.2.1]) rfl ⟨Int.le_refl _,by show (aW d).2.stamps≤_;omega⟩ rfl
 split
 ·unfold dR
  (repeat' split)
  ·exact h0
  ·exact h0
  ·exact h0
  ·exact h0
  ·exact hs
  ·exact h.step.set (by omega) hP ⟨by show Q.size≤_;omega,by show (aP d P).kept.size≤_;omega,fun e=>by cases e⟩
 split
 ·unfold append
  (repeat' split)
  ·exact h0
  ·exact h0
  ·exact hs
  ·exact h.step.set (by omega) hP ⟨by show ((aP d P).data ++ Q).size≤_;rw [ByteArray.size_append];omega,by show (aP d P).kept.size≤_;omega,fun e=>by show (aP d P).kept.size≤((aP d P).data ++ Q).size;rw [ByteArray.size_append];have:=lp.2.2 e;omega⟩
 split
 ·unfold zRy
  (repeat' split)
  ·exact h0
  ·exact hs
  ·exact h.step.putd (p:=P) (x:={ aP d P with kept:=(aP d P).data,loose:=false,anew:=false }) (by omega) hP ⟨by show (aP d P).data.size≤_;omega,by show (aP d P).data.size≤_;omega,fun _=>Nat.le_refl _⟩ (by rw [hsl.1]) rfl (by rw [hsl.2.2.1]) rfl ⟨Int.le_refl _,by show (aW d).2.stamps≤_;omega⟩ rfl
 split
 ·have aux:∀ (e m:Int),Bd (if e≠0 then (e,d) else if has d P=false∨fF d Q=false then (11,d) else if (aP d P).dir=true∨(aP d Q).dir=true then (12,d) else if P≠Q∧jY d Q m=false then (13,d) else if (aW d).1≠0 then aW d else (0,jJ { (aW d).2 with L:=Dk.del P d.L } Q (aP d P)):Int × Dk).2 (S + Q.size) (l + 1) (t + 1):=by
   intro e m
   (repeat' split)
   ·exact h0
   ·exact h0
   ·exact h0
   ·exact h0
   ·exact hs
   ·refine Bd.set (d:={ (aW d).2 with L:=Dk.del P d.L }) (S:=S) (l:=l) (h.step.del (p:=P) (by rw [hsl.1]) rfl rfl rfl rfl rfl) (by omega) hQ ⟨by omega,by omega,lp.2.2⟩
  exact aux _ _
 split
 ·unfold dA
  (repeat' split)
  ·exact h0
  ·exact h0
  ·exact h0
  ·exact hs
  ·exact (h.step.del (e:={ (aW d).2 with L:=Dk.del P d.L }) (p:=P) (by rw [hsl.1]) rfl rfl rfl rfl rfl).mono (by omega) (by omega) (by omega)
 split
 ·unfold zPl
  (repeat' split)
  ·exact h0
  ·exact h0
  ·exact ⟨h0.rise,h0.keys,h0.len,h0.lim,h0.n,by show d.m + 1≤_;have:=h.m;omega,h0.steps,h0.stamps,h0.armed⟩
 split
 ·exact ⟨h0.rise,h0.keys,h0.len,h0.lim,h0.n,h0.m,h0.steps,h0.stamps,by show -1≤(if -1 < M then M else -1)∧_;split <;> (dsimp only [zTp];omega)⟩
 split
 ·exact (h.restart hl M).mono (by omega) (Nat.le_refl _) (by omega)
 split
 ·unfold rZ;split
  ·exact h0
  ·refine (h.set (Nat.le_refl S) hP ⟨?_,?_,fun e=>?_⟩).mono (by omega) (Nat.le_refl _) (by omega)
   ·show (dM (aP d P).data M).size≤S;rw [tC];omega
   ·show (dM (aP d P).kept M).size≤S;rw [tC];omega
   ·show (dM (aP d P).kept M).size≤(dM (aP d P).data M).size;rw [tC,tC];exact lp.2.2 e
 ·exact h0
end Go.Dk
end
section
set_option maxRecDepth 20000
namespace Go.Proofs.YtlihpgmgiehjkaaGreatDoor
open Go Go.Eng Go.RowKit Go.Tr Go.Dk
abbrev BB:Int:=1099511627776
theorem zH4:Dk.new.Ok BB:=⟨List.Pairwise.nil,by simp [Dk.new],by decide,by decide,by decide,by decide,by decide,by decide⟩
end Go.Proofs.YtlihpgmgiehjkaaGreatDoor
end
section
set_option maxRecDepth 20000
namespace Go.Dk
open Go Go.Eng Go.Tr Go.Proofs.YtlihpgmgiehjkaaGreatDoor
structure Stp where
 k:Int
 P:ByteArray
 Q:ByteArray
 N:Int
def zGo (s:Stp):List FV:=[.v (.int .i64 s.k),.v (.string s.P),.v (.string s.Q),.v (.int .i64 s.N)]
def vZ (l:List Stp):List (List FV):=l.map zGo
theorem qCh (l:List Stp):(vZ l).length=l.length:=List.length_map _
theorem zGm (l:List Stp):Wid 4 (vZ l)=True:=eq_true (xL l fun _=>rfl)
theorem zGn {l:List Stp} {i:Nat} {d:List FV} (h:i < l.length):(vZ l).getD i d=[.v (.int .i64 l[i].k),.v (.string l[i].P),.v (.string l[i].Q),.v (.int .i64 l[i].N)]:=by unfold vZ;rw [nW h];rfl
structure Stp.Ok (s:Stp):Prop where
 P:s.P.size≤1048576
 Q:s.Q.size≤1048576
 N:-9223372036854775808≤s.N∧s.N≤9223372036854775807
def tD (l:List Stp):Nat:=(l.map fun s=>s.Q.size).sum
theorem zD3 {l:List Stp} {i:Nat} (h:i < l.length):tD (l.take (i + 1))=tD (l.take i) + l[i].Q.size:=by
 unfold tD;rw [List.take_succ_eq_append_getElem h,List.map_append,List.sum_append,List.map_cons,List.map_nil,List.sum_cons,List.sum_nil,Nat.add_zero]
theorem zAz (l:List Stp) (i:Nat):tD (l.take i)≤tD l:=by
 have:tD l=tD (l.take i) + tD (l.drop i):=by
  unfold tD;rw [← List.sum_append,← List.map_append,List.take_append_drop]
 omega
end Go.Dk
namespace Go.Proofs.YtlihpgmgiehjkaaGreatDoor
open Go Go.Eng Go.RowKit Go.Tr Go.Dk
end Go.Proofs.YtlihpgmgiehjkaaGreatDoor
end
section
namespace Go.Proofs.YtlihpgmgiehjkaaGreatDoor
open Go Go.Eng Go.RowKit Go.ChangeShapes Go.WideShapes Go.ChangeAt Go.Tr Go.Dk
def NR (n:Int):Prop:=-9223372036854775808≤n∧n≤9223372036854775807
theorem zR9 {n:Int} (h:(Lit.int .i64 n).wf=true):NR n:=by
 simp only [Lit.wf,Bool.and_eq_true,decide_eq_true_eq] at h;exact h
theorem zLg {b:Nat} {f:FV} (h:Fit (.sl b [.int .i64,.str,.str,.int .i64]) f):∃ t:List Stp,f=.lst false (vZ t)∧∀ s ∈ t,NR s.N:=by
 cases h with
|sl hb hl h =>
  rename_i xs
  have:∀ x ∈ xs,∃ e:Stp,x=zGo e∧NR e.N:=fun x hx=>by
   have h1:=hl x hx
   match x,h1 with
  |[f0,f1,f2,f3],_ =>
   have a:=h _ hx 0 (by simp) (by simp)
   have b:=h _ hx 1 (by simp) (by simp)
   have c:=h _ hx 2 (by simp) (by simp)
   have d:=h _ hx 3 (by simp) (by simp)
   simp only [List.getElem_cons_zero,List.getElem_cons_succ] at a b c d
   cases a;cases b;cases c
   cases d with
  |int hm=>exact ⟨⟨_,_,_,_⟩,rfl,zR9 hm⟩
  clear hb hl h
  induction xs with
 |nil=>exact ⟨[],rfl,fun s hs=>by cases hs⟩
 |cons x r ih =>
   obtain ⟨e,rfl,he⟩:=this x (by simp)
   obtain ⟨t,ht,htn⟩:=ih (fun y hy=>this y (by simp [hy]))
   simp only [FV.lst.injEq,true_and] at ht;refine ⟨e :: t,by rw [ht];rfl,fun s hs=>?_⟩
   rcases List.mem_cons.1 hs with rfl|hs
   ·exact he
   ·exact htn s hs
theorem zNp (l:List Stp):tD l + l.length≤fw (.lst false (vZ l))∧∀ s ∈ l,s.P.size≤fw (.lst false (vZ l))∧s.Q.size≤fw (.lst false (vZ l)):=by
 rw [zJ8]
 have:∀ l:List Stp,tD l + l.length≤((vZ l).map fws).sum∧∀ s ∈ l,s.P.size≤((vZ l).map fws).sum∧s.Q.size≤((vZ l).map fws).sum:=by
  intro l
  induction l with
 |nil=>exact ⟨Nat.le_refl _,by simp⟩
 |cons x r ih =>
   have e1:((vZ (x :: r)).map fws).sum=fws (zGo x) + ((vZ r).map fws).sum:=by simp [vZ]
   have e2:x.P.size + x.Q.size + 2≤fws (zGo x):=by simp [fws,zGo,zJ7];omega
   have e3:tD (x :: r)=x.Q.size + tD r:=by simp [tD]
   rw [e1,e3];refine ⟨by simp only [List.length_cons];omega,fun e he=>?_⟩
   rcases List.mem_cons.1 he with rfl|he
   ·exact ⟨by omega,by omega⟩
   ·have:=ih.2 e he;exact ⟨by omega,by omega⟩
 obtain ⟨h1,h2⟩:=this l;exact ⟨by omega,fun e he=>by have:=h2 e he;exact ⟨by omega,by omega⟩⟩
end Go.Proofs.YtlihpgmgiehjkaaGreatDoor
end
