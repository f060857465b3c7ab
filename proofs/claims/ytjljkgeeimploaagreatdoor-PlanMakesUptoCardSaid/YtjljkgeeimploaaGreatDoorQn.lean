/- What the walk of the law stands on. -/
import Derived.Test.YtjljkgeeimploaaGreatDoorQm
import Derived.OwnWalkIn
import Derived.TacticsInMore
import Derived.LoopNIn
import Derived.LoopIn
set_option linter.defProp false
set_option maxRecDepth 20000
set_option maxHeartbeats 16000000
namespace Go.Proofs.Y
open Go Go.Eng Go.RowKit Go.Tr Go.Rc Go.Dk Go.DiffM
def zY7 (C:List Cfl) (hC:C.length≤140737488355328) (hs:∀ c ∈ C,c.h.length≤140737488355328∧c.s.length≤140737488355328):HFun Tryz.prog 10 [.lst false (cfs false C),.lst false (cfs false C)] (fun h st=>h=.v (.bool true)):=by
 refine bP (N:=76) Tryz.func10 rfl Tryz.ntmps10 Tryz.results10 (by simp) ?_
 refine goA 7 ?_;push_cast[qFg];refine goP [0,1,5] [] ?_;refine goL (fun i:Nat=>⟨[(0,.lst false (cfs false C)),(1,.lst false (cfs false C)),(5,.v (.int .i64 i))],[]⟩) (fun i=>i≤C.length) (fun i=>C.length - i) [0,1,5] [] 0 (by push_cast <;> rfl) (g7 _) ?_
 intro i hi
 by_cases hlt:i < C.length
 ·obtain ⟨s1,s2⟩:=hs _ (c7 hlt)
  have hg:(cfs false C).getD i []=cfF false C[i]:=zFc hlt
  obtain ⟨c,hx⟩:∃ c,C[i]=c:=⟨_,rfl⟩;rw [hx] at s1 s2;obtain ⟨p,ch,cs,t,f⟩:=c
  have c1:=lR ch ch s1
  have c2:=lR cs cs s2
  rw [i7 rfl] at c1 c2;refine goA 3 ?_;push_cast(disch:=omega)[qFg];refine qSp 11 [(8,some 48),(10,none)] [[],[(48,.bx true 39 ([.string ByteArray.empty,.slice none 0 0,.slice none 0 0,.string ByteArray.empty,.bool false,.int .i64 0,.string ByteArray.empty].map .v))],[(48,.bx true 39 [.v (.string p),.lst false (aG ch),.lst false (aG cs),.v (.string t),.v (.bool f),.v (.int .i64 0),.v (.string ByteArray.empty)])]] [] [(9,7,56,39,[.string ByteArray.empty,.slice none 0 0,.slice none 0 0,.string ByteArray.empty,.bool false,.int .i64 0,.string ByteArray.empty])] mixed (by kernel_rfl) (by kernel_rfl) (by kernel_rfl) (by repeat' first|exact trivial|refine ⟨⟨rfl,rfl,rfl⟩,by kernel_rfl,rfl,?_⟩) rfl (fun K hK K1 hK1=>?_);push_cast(disch:=omega)[qEq,qAu,wT,sF,qA2,qFj,qA6,qFk,qA7,wW,sP,bDp,bDz,qFg,zZc,zFc hlt,hx,cfF]
  refine hK1 _ ?_;(try clear hK1 K1);with_reducible refine aS ?_;push_cast
  refine hK _ ?_;clear hK K;refine goP [0,1,5,6,7] [48,56] ?_;refine goA 5 ?_;push_cast;refine cVt cl9 c1 (.cons (aD (yT _)) (.cons (aD (yT _)) .nil)) ?_;push_cast;refine cVt cl9 c2 (.cons (aD (yT _)) (.cons (aD (yT _)) .nil)) ?_;push_cast(disch:=omega);exact ⟨i + 1,rfl,hlt,by omega⟩
 ·refine goA 5 ?_;push_cast(disch:=omega)[qFg];exact aQ rfl
def zTa (C:List Cfl):mD (cfs true C)=cfs false C:=by
 simp only [mD,cfs,bAm]
 apply x7
 intro h _;simp only [Function.comp,cfF,d8,m4,yC0,zSe,yT]
def zZd {T:List CfV} {i:Nat} {d:List HV} (h:i < T.length):(cfT T).getD i d=zDf T[i]:=by unfold cfT;rw [fQ h]
def yF0 {F:List Leaf} {S:HS} {id:Nat} {T:List CfV} (hr:rlk S.st id=some (.hl true 39 7 (cfT T))) (hF:∀ f ∈ cfL T,f ∈ F):LendF F S (.own id) (.lst false (cfs false (T.map Prod.fst))):=by
 refine LendF.row hr (by simp [cfs,cfT]) (fun y hy=>by obtain ⟨s,-,rfl⟩:=m6.1 hy;rfl) (fun i k hi hk hi' hk'=>?_)
 have hiT:i < T.length:=by simpa [cfT] using hi
 have e1:(cfT T)[i]=zDf T[i]:=by simp [cfT]
 have e2:(cfs false (T.map Prod.fst))[i]=cfF false T[i].1:=by simp [cfs]
 have hk7:k < 7:=by simpa [e1,zDf] using hk
 have m1:lfE 44 (hd T[i].2.1 T[i].1.h.length) T[i].1.h ∈ cfL T:=bBk.2 ⟨T[i],c7 hiT,by simp⟩
 have m2:lfE 44 (hd T[i].2.2 T[i].1.s.length) T[i].1.s ∈ cfL T:=bBk.2 ⟨T[i],c7 hiT,by simp⟩
 simp only [e1,e2]
 match k,hk7 with
|0,_=>exact .v _
|1,_=>exact .leaf (hF _ m1) (zQb _ _ _)
|2,_=>exact .leaf (hF _ m2) (zQb _ _ _)
|3,_=>exact .v _
|4,_=>exact .v _
|5,_=>exact .v _
|6,_=>exact .v _
def qKy (c:CfV):List (List HV):=[[.v (hd c.2.1 c.1.h.length)],[.v (hd c.2.2 c.1.s.length)]]
def apQ (T:List CfV):List (List HV):=T.flatMap qKy
def qJv (T:List CfV):(apQ T).length=2 * T.length:=by simp only [apQ,qPq qKy 2 (fun _=>rfl)]
def zTj (T:List CfV) (c:CfV):apQ T ++ [[.v (hd c.2.1 c.1.h.length)],[.v (hd c.2.2 c.1.s.length)]]=apQ (T ++ [c]):=by simp [apQ,qKy]
def zFh (T:List CfV) (f:HV→HV) (hf:∀ x,f (.v x)=.v x):(apQ T).map (List.map f)=apQ T:=by
 induction T with
|nil=>rfl
|cons z Z ih=>unfold apQ at ih ⊢;rw [s9,d6,ih];simp [qKy,hf]
def zTk (T:List CfV) (p:Nat→Bool):(apQ T).map (List.map (HV.kill p))=apQ T:=zFh T _ fun x=>by rw [HV.kill]
def qQa (r:Nat→Nat) (j:Nat):Nat ⊕ Nat:=if j < 6 then .inl (r j) else .inr (j - 6)
def zMw {r:Nat→Nat} (hr:∀ i j,i < 6→j < 6→r i=r j→i=j) (i j:Nat) (h:qQa r i=qQa r j):i=j:=by
 unfold qQa at h;split at h <;> split at h <;> simp only [Sum.inr.injEq,Sum.inl.injEq,reduceCtorEq] at h
 ·rename_i a b;exact hr i j a b h
 ·omega
def zZe {T:List CfV} {q r:Nat} (hq:q < T.length) (hr:r < 2):(cfL T)[2 * q + r]?=[lfE 44 (hd T[q].2.1 T[q].1.h.length) T[q].1.h,lfE 44 (hd T[q].2.2 T[q].1.s.length) T[q].1.s][r]? :=
 qGq (fun c:CfV=>[lfE 44 (hd c.2.1 c.1.h.length) c.1.h,lfE 44 (hd c.2.2 c.1.s.length) c.1.s]) 2 (fun _=>rfl) T q r hq hr
def yEa {T:List CfV} {st:aC} {n:Nat} (hn:n≤T.length) (hT:∀ t ∈ T,t.1.h.length≤1000000000∧t.1.s.length≤1000000000) (j:Nat) (hj:j < (apQ (T.take n)).length) :
  ∃ e m,(apQ (T.take n))[j]=[e]∧ApAt (cfL T) st 44 3 (.inr j) e m∧m≤1000000000:=by
 have hl:(T.take n).length=n:=by rw [l7];omega
 have hj':j < 2 * n:=by rw [qJv,hl] at hj;exact hj
 obtain ⟨q,hq⟩:∃ q,q=j / 2:=⟨_,rfl⟩;obtain ⟨r,hr⟩:∃ r,r=j % 2:=⟨_,rfl⟩
 have hjq:j=2 * q + r:=by omega
 have hr2:r < 2:=by omega
 have hqT:q < T.length:=by omega
 have hg:(apQ (T.take n))[j]?=(qKy T[q])[r]?:=by
  rw [hjq];show ((T.take n).flatMap qKy)[2 * q + r]?=_
  rw [qGq qKy 2 (fun _=>rfl) _ q r (by omega) hr2]
  simp
 rw [c9 hj] at hg
 have tb:=hT _ (c7 hqT)
 have lg:(cfL T)[j]?=_:=hjq ▸ zZe hqT hr2
 rcases (show r=0∨r=1 by omega) with rfl|rfl
 ·exact ⟨_,_,q9 hg,ApAt.leaf lg rfl rfl,tb.1⟩
 ·exact ⟨_,_,q9 hg,ApAt.leaf lg rfl rfl,tb.2⟩
def yD8:BT ([],[],[]):=fun k=>by
 match k with
|0=>exact ⟨by simp [t3],by simp [t3]⟩
|1=>exact ⟨by simp [t3],by simp [t3]⟩
|k + 2=>exact ⟨by simp [t3],by simp [t3]⟩
def qK7 {A H S:List Ent} {Q:Cfl→Prop} (hq:∀ p,Q (qSi A H S p)):∀ (L:List (Ba × Int)) (x:T3) (C:List Cfl),(∀ c ∈ C,Q c)→∀ c ∈ (kU A H S L x C).1.2,Q c
|[],x,C,h=>h
|(p,w) :: r,x,C,h=>by
  rw [kU];split
  ·split
   ·exact qK7 hq r _ C h
   ·intro c hc;simp at hc
  ·refine qK7 hq r _ _ fun c hc=>?_
   rcases m8.1 hc with hc|hc
   ·exact h c hc
   ·simp at hc;subst hc;exact hq p
def qF9 {A H S:List Ent}:∀ (L:List (Ba × Int)) (x:T3) (C:List Cfl),(kU A H S L x C).1.2.length≤C.length + L.length
|[],x,C=>a7 _
|(p,w) :: r,x,C=>by
  rw [kU];split
  ·split
   ·have:=qF9 (A:=A) (H:=H) (S:=S) r (cR p (uW A H S p w) (ksW w) x).1 C
    simp only [i6];omega
   ·simp
  ·have:=qF9 (A:=A) (H:=H) (S:=S) r x (C ++ [qSi A H S p])
   simp only [i8,i6,bAj] at this ⊢;omega
def qK8 {A H S:List Ent} (hH:B3 H) (hS:B3 S):∀ (L:List (Ba × Int)) (x:T3) (C:List Cfl),(∀ q ∈ L,q.1.size≤1048576)→BT x→BT (kU A H S L x C).1.1
|[],x,C,_,h=>h
|(p,w) :: r,x,C,hL,h=>by
  rw [kU];split
  ·split
   ·exact qK8 hH hS r _ C (fun q hq=>hL q (u9 _ hq)) (tE (zM6 hH hS (hL _ (bAz ..))) _ h)
   ·exact yD8
  ·exact qK8 hH hS r _ _ (fun q hq=>hL q (u9 _ hq)) h
end Go.Proofs.Y
namespace Go.Eng
open Go Go.RowKit
section
variable {P:Program} {N:Nat} {ds:List (Option Nat)} {K:HS→Prop} {S S':HS} {c:Ctx} {look:Nat→Option Value} {w:World}
theorem Inv.trim (I:Inv c S look w) (id n:Nat) {ty sz:Nat} {nw:Bool} {els:List (List FV)} (hr:rlk S.st id=some (.sl nw ty sz els)) (hn:n < els.length):Inv c (S.trim id n) look w:=by
 obtain ⟨ρ,xs,G⟩:=I;obtain ⟨o1,o2,o3⟩:=dC G hr
 have hl0:=o1.1
 rcases o1.2 with ⟨h3,h4⟩|⟨g,cap,cur,h3,hb1,hb2,h4,h5,h6,h7⟩
 ·omega
 let ρ':Nat→Value:=fun i=>if i=id then .slice (some ⟨g,0,none⟩) n cap else ρ i
 let xs':Nat→List Value:=fun i=>if i=id then (xs id).take (n * sz) else xs i
 have hown:∀ i b,(ρ' i).ownBlock=some b→(ρ i).ownBlock=some b:=fun i b h=>by
  by_cases e:i=id
  ·subst e
   have h:(if i=i then Value.slice (some ⟨g,0,none⟩) n cap else ρ i).ownBlock=some b:=h
   rw [g8 rfl] at h;rw [h3];exact h
  ·have h:(if i=id then Value.slice (some ⟨g,0,none⟩) n cap else ρ i).ownBlock=some b:=h
   rw [b7 e] at h;exact h
 have hsz:n * sz≤els.length * sz:=m5 _ (by omega)
 have back:∀ i r,rlk (S.trim id n).st i=some r→∃ r0,rlk S.st i=some r0∧((i=id∧r=.sl nw ty sz (els.take n))∨(i≠id∧r=r0.trim id n)):=by
  intro i r hi;simp only [HS.trim,qN0] at hi
  by_cases e:i=id
  ·subst e;rw [g8 rfl,hr] at hi;simp only [n8,a6] at hi;exact ⟨_,hr,.inl ⟨rfl,hi.symm⟩⟩
  ·rw [b7 e] at hi
   cases hs:rlk S.st i with
  |none=>rw [hs] at hi;cases hi
  |some r0=>rw [hs] at hi;simp only [n8,a6] at hi;exact ⟨r0,rfl,.inr ⟨e,hi.symm⟩⟩
 have hA:∀ b,c.A ρ' (S.trim id n).st b→c.A ρ S.st b:=by
  rintro b (h0|⟨i,r,hi,hb⟩)
  ·exact .inl h0
  ·obtain ⟨r0,h1,-⟩:=back i r hi;exact .inr ⟨i,r0,h1,hown i b hb⟩
 have tr1:∀ v y,RepH w (c.A ρ S.st) c.n0 ρ v y→RepH w (c.A ρ S.st) c.n0 ρ' v (y.trim id n):=by
  intro v y h
  induction h with
 |v x=>rw [HV.trim];exact .v x
 |lst h=>rw [HV.trim];exact .lst h
 |own j h1 =>
   rw [HV.trim];split
   ·exact .junk _
   ·rename_i e
    have e2:ρ' j=ρ j:=by show (if j=id then _ else _)=_;rw [b7 e]
    rw [← e2];exact .own j (by rw [e2];exact h1)
 |vw s o m hg hm hc hn' hx' ha =>
   rw [HV.trim];rename_i i len c0 c' a a';split
   ·rename_i e;subst e;split
    ·rename_i e2;obtain ⟨rfl,rfl⟩:=e2;rw [h3] at hg
     cases hg
     obtain ⟨g',hg',rfl⟩:=ha (by omega)
     cases hg'
     have e2:ρ' i=.slice (some ⟨g,0,none⟩) m cap:=by show (if i=i then _ else _)=_;rw [g8 rfl]
     have:Value.slice (some ⟨g,0 * s,none⟩) m c'=ρ' i:=by rw [e2,hc];simp
     rw [this];exact .own i (by rw [e2];rfl)
    ·exact .junk _
   ·rename_i e
    have e2:ρ' i=ρ i:=by show (if i=id then _ else _)=_;rw [b7 e]
    exact .vw s o m (by rw [e2];exact hg) hm hc hn' hx' ha
 |ptr s i k h =>
   rw [HV.trim];rename_i j _ _ _;split
   ·exact .junk _
   ·rename_i e
    have e2:ρ' j=ρ j:=by show (if j=id then _ else _)=_;rw [b7 e]
    exact .ptr s i k (by rw [e2];exact h)
 |elt h h1 h2=>rw [HV.trim];exact .elt h h1 h2
 |agg hn h1 h ih=>rw [HV.trim];exact .agg (by simpa using hn) h1 (fun j a b=>by rw [d9];exact ih j a (by simpa using b))
 |tup hn h ih=>rw [HV.trim];exact .tup (by simpa using hn) (fun j a b=>by rw [d9];exact ih j a (by simpa using b))
 |junk v=>rw [HV.trim];exact .junk v
 have tr:∀ v y,RepH w (c.A ρ S.st) c.n0 ρ v y→RepH w (c.A ρ' (S.trim id n).st) c.n0 ρ' v (y.trim id n):=fun v y h=>(tr1 v y h).up (a7 _) (fun _ _ _=>rfl) (fun b _=>hA b) (a7 _)
 refine ⟨ρ',xs',fun i r hi=>?_,fun i j r s b hne hi hj hbi hbj=>?_,fun k y hk=>?_,G.kept,G.a0⟩
 ·obtain ⟨r0,h1,h2⟩:=back i r hi
  rcases h2 with ⟨rfl,rfl⟩|⟨hne,rfl⟩
  ·have e1:ρ' i=.slice (some ⟨g,0,none⟩) n cap:=by show (if i=i then _ else _)=_;rw [g8 rfl]
   have e2:xs' i=(xs i).take (n * sz):=by show (if i=i then _ else _)=_;rw [g8 rfl]
   have hlen:(els.take n).length=n:=by simp;omega
   refine ⟨?_,⟨fun y hy=>o2 y (bA6 hy),fun p k hp hk=>?_⟩,fun b hb=>(G.rows i _ hr).new b (hown i b hb)⟩
   ·rw [e1,e2];simp only [Row.ty,Row.sz,Row.len,hlen];refine ⟨by rw [l7,hl0];omega,.inr ⟨g,cap,cur,rfl,hb1,hb2,by omega,h5,h6,?_⟩⟩
    rw [← h7,List.take_take,bBo hsz]
   ·rw [hlen] at hp;simp only [z6] at hk ⊢;obtain ⟨u,u1,u2,u3⟩:=o3 p k (by omega) hk
    have hks:=o2 _ (c7 (show p < els.length by omega))
    refine ⟨u,?_,u2,u3.up (a7 _) (fun _ _ _=>rfl) (fun b _=>hA b) (a7 _)⟩
    rw [e2,o6 (rL hp (by omega))]
    exact u1
  ·have e1:ρ' i=ρ i:=by show (if i=id then _ else _)=_;rw [b7 hne]
   have e2:xs' i=xs i:=by show (if i=id then _ else _)=_;rw [b7 hne]
   have R:=G.rows i r0 h1
   have rp:=R.rep
   have f1:(r0.trim id n).ty=r0.ty∧(r0.trim id n).sz=r0.sz∧(r0.trim id n).len=r0.len∧(r0.trim id n).nw=r0.nw:=by cases r0 <;> simp [Row.trim,Row.ty,Row.sz,Row.len,Row.nw]
   rw [e2];refine ⟨by rw [e1,f1.1,f1.2.1,f1.2.2.1];exact R.own,?_,fun b hb=>by rw [f1.2.2.2];rw [e1] at hb;exact R.new b hb⟩
   cases r0 with
  |sl nw ty sz els =>
    refine ⟨rp.1,fun p k hp hk=>?_⟩
    obtain ⟨u,u1,u2,u3⟩:=rp.2 p k hp hk;exact ⟨u,u1,u2,u3.up (a7 _) (fun _ _ _=>rfl) (fun b _=>hA b) (a7 _)⟩
  |bx nw ty cells =>
    refine ⟨by rw [e1];exact rp.1,fun k hk=>?_⟩
    rw [c8] at hk;obtain ⟨u,u1,u2,u3⟩:=rp.2 k hk;refine ⟨u,u1,u2,?_⟩;rw [d9];exact tr _ _ u3
  |hl nw ty sz els =>
    refine ⟨fun y hy=>?_,fun p k hp hk=>?_⟩
    ·obtain ⟨z,hz,rfl⟩:=m6.1 hy;rw [c8];exact rp.1 z hz
    ·simp only [c8] at hp;simp only [d9,c8] at hk ⊢;obtain ⟨u,u1,u2,u3⟩:=rp.2 p k hp hk;exact ⟨u,u1,u2,tr _ _ u3⟩
 ·obtain ⟨r0,h1,-⟩:=back i r hi;obtain ⟨s0,h2,-⟩:=back j s hj;exact G.apart i j r0 s0 b hne h1 h2 (hown i b hbi) (hown j b hbj)
 ·simp only [HS.trim,qPm] at hk
  cases hx0:hlk S.env k with
 |none=>rw [hx0] at hk;cases hk
 |some x0 =>
   rw [hx0] at hk;simp only [n8,a6] at hk;subst hk;obtain ⟨v,h1,h2⟩:=G.env k x0 hx0;exact ⟨v,h1,tr v x0 h2⟩
end
section
variable {P:Program} {N:Nat} {ds:List (Option Nat)} {K:List Leaf→HS→Prop} {F:List Leaf} {S S':HS}
theorem qG2 {ops:List Oper} (id n:Nat) {ty sz:Nat} {nw:Bool} {els:List (List FV)} (hr:rlk S.st id=some (.sl nw ty sz els)) (hn:n < els.length) (hs:S.trim id n=S') (h:wZ P N ds K ops F S'):wZ P N ds K ops F S:=fun c l w ⟨c1,hu,I⟩ =>
 h c l w ⟨c1,hu,hs ▸ I.trim id n hr hn⟩
end
end Go.Eng
namespace Go.Proofs.Y
open Go Go.Eng Go.RowKit Go.Tr
attribute [local push_cast] qGb qB4
def zA8 (w:World) (g c:Nat) (t:List Ent) (ad:Option Addr) (cd:Nat) (hl:t.length≤1048576) (h1:RepH w (fun _=>False) w.heap.size (fun _=>undef) (.slice (some ⟨g,0,none⟩) t.length c) (.lst false (aG t)))
  (h2:RepH w (fun _=>False) w.heap.size (fun _=>undef) (.slice ad t.length cd) (.lst false (aG t))) (hc:t.length + 1≤c) (hcell:w.cell? ⟨g,t.length * 3,none⟩=some (.string spare.1)) :
  Calls Tryz.prog 11 #[.slice (some ⟨g,0,none⟩) t.length c,.slice ad t.length cd] w (Ret fun r w'=>r=.bool true∧Below w.heap.size w w'):=by
 refine nQ (args:=[_,_]) Tryz.func11 rfl Tryz.ntmps11 Tryz.results11 (by simp) ?_
 have c22:=lR t t (by omega)
 rw [i7 rfl] at c22
 (repeat first|refine aF ?_|refine zV ?_|refine aA ?_|refine zY ?_);refine bF (fun K hK=>?_);push_cast[Nat.reduceBEq,Nat.reduceAdd,Nat.reduceLT,Nat.reduceEqDiff,reduceIte,reduceCtorEq,Nat.reduceLeDiff,Nat.reduceSub];refine hK _ _ ?_;clear hK K
 (repeat first|refine aF ?_|refine zV ?_|refine aA ?_|refine zY ?_);refine bF (fun K hK=>?_);push_cast[Nat.reduceBEq,Nat.reduceAdd,Nat.reduceLT,Nat.reduceEqDiff,reduceIte,reduceCtorEq,Nat.reduceLeDiff,Nat.reduceSub]
 refine ⟨cl9,Ret.mono (c22 w [_,_] ⟨rfl,fun i h1' h2'=>?_⟩) ?_⟩
 ·match i,h1' with
 |0,_=>exact h1
 |1,_=>exact h2
 rintro u w1 ⟨B,h,st,h8,rfl,ρ',xs',G',hr⟩
 have hu:=bL hr
 subst hu
 have hcell1:=dR B hcell
 have hw:IntKind.i64.wrap ((t.length:Int) + 1)=(t.length:Int) + 1:=qD0 (by omega) (by omega)
 have hx:((t.length:Int) + 1).toNat=t.length + 1:=by omega
 have hsub:gW (some ⟨g,0,none⟩) c (Int.toNat 0) 3=some ⟨g,0,none⟩:=by
  rw [gW,b7 (show ¬ c=Int.toNat 0 by show ¬ c=0;omega)]
  rfl
 have e1:t.length + 1 - Int.toNat 0=t.length + 1:=rfl
 have e2:c - Int.toNat 0=c:=rfl
 have e3:decide (spare.1=({ data:=#[115,112,97,114,101] }:Ba))=true:=by decide +kernel
 have e4:gW (some ⟨g,0,none⟩) c 0 3=some ⟨g,0,none⟩:=hsub
 refine v2s ?_;try push_cast[Nat.reduceBEq,Nat.reduceAdd,Nat.reduceLT,Nat.reduceEqDiff,reduceIte,reduceCtorEq,Nat.reduceLeDiff,Nat.reduceSub,qMr,hw,hx,hc,kt9,zSh,hsub,e1,e2,hcell1,e3,e4,t8]
 refine ⟨by omega,by omega,?_⟩
 refine hK _ _ ?_;clear hK K
 (repeat first|refine yN ?_|refine yP ?_|refine yQ ?_|refine yR rfl ?_|refine yS ?_|refine zY ?_|refine aF ?_|refine zV ?_|refine aA ?_|refine bW ?_|refine dB ?_)
 simp only [qDn,jE,tup,lk,Nat.reduceEqDiff,reduceIte,reduceCtorEq];exact ⟨by trivial,B⟩
def zMy {w:World} {A:Nat→Prop} {n0:Nat} {ρ:Nat→Value} {v:Value} {id g n cap m sz:Nat} (h:RepH w A n0 ρ v (.vw id sz 0 m)) (hg:ρ id=.slice (some ⟨g,0,none⟩) n cap) (hm:m + 1≤cap):∃ c1,v=.slice (some ⟨g,0,none⟩) m c1∧m + 1≤c1:=by
 cases h with
|vw _ _ _ hρ h1 hc hn hx ha =>
  rw [hg] at hρ;simp only [bBg] at hρ;obtain ⟨rfl,rfl,rfl⟩:=hρ;obtain ⟨g',eg,rfl⟩:=ha (by omega)
  simp only [a6,bBv] at eg;obtain ⟨rfl,-,-⟩:=eg;exact ⟨cap,by rw [bDx,hc,t8],hm⟩
def zH5 {w:World} {A:Nat→Prop} {n0:Nat} {ρ:Nat→Value} {v:Value} {fr:Bool} {t:List Ent} (h:RepH w A n0 ρ v (.lst fr (aG t))):∃ ad cd,v=.slice ad t.length cd:=by
 generalize hx:aG t=xs at h
 cases h with
|lst hF =>
  cases hF with
 |lst sz vals hn =>
   subst hx;rw [yV] at hn;subst hn;exact ⟨_,_,rfl⟩
section
variable {S:HS} {id:Nat} {t:List Ent} {h2:HV}
theorem zRk (hl:t.length≤1048576) (hr:rlk S.st id=some (rowE (t ++ [spare]))) (L2:Lend S.st h2 (.lst false (aG t)))
  {c:Ctx} {look:Nat→Option Value} {w:World} {ρ:Nat→Value} {xs:Nat→List Value} {vs:List Value} (G:Eng.Good c S look w ρ xs) (R:pX w (c.A ρ S.st) c.n0 ρ vs [.vw id 3 0 t.length,h2]) :
  Calls Tryz.prog 11 vs.toArray w (Ret fun v w'=>v=.bool true∧Below w.heap.size w w'):=by
 obtain ⟨R1,R2⟩:=R
 match vs,R1 with
|[v0,v1],_ =>
 have r0:=R2 0 (by simp) (by simp)
 have r1:=R2 1 (by simp) (by simp)
 simp only [l6,bAe] at r0 r1
 have l0:=qEl G r0 (zEq (ys:=aG t) (by rw [bAf,wQ,List.take_left' rfl,yT]) hr)
 have l1:=qEl G r1 L2
 obtain ⟨o1,o2,o3⟩:=dC G hr;rw [yV,i8] at o1;obtain ⟨g,cap,hg,hcap,-,hcell⟩:=fM o1 (by simp)
 have hsp:w.cell? ⟨g,t.length * 3,none⟩=some (.string spare.1):=by
  obtain ⟨u,u1,-,u3⟩:=o3 t.length 0 (by rw [yV];simp) (by rw [o2 _ (c7 _)];omega)
  have e:(aG (t ++ [spare]))[t.length]'(by rw [yV];simp)=qNh spare:=by simp [aG]
  have e2:((aG (t ++ [spare]))[t.length]'(by rw [yV];simp))[0]'(by rw [e];simp [qNh])=.v (.string spare.1):=by simp only [e];rfl
  rw [e2] at u3
  cases u3
  exact hcell _ _ u1
 have hcap':t.length + 1≤cap:=by simpa using hcap
 obtain ⟨c1,rfl,hc1⟩:∃ c1,v0=.slice (some ⟨g,0,none⟩) t.length c1∧t.length + 1≤c1:=zMy r0 hg hcap';obtain ⟨ad,cd,rfl⟩:∃ ad cd,v1=.slice ad t.length cd:=zH5 l1;exact zA8 w g c1 t ad cd hl l0 l1 hc1 hsp
theorem qR0 (hl:t.length≤1048576) {K:HV→HS→Prop} (hr:rlk S.st id=some (rowE (t ++ [spare]))) (L2:Lend S.st h2 (.lst false (aG t))) (hK:K (.v (.bool true)) S):HAt Tryz.prog 11 [.vw id 3 0 t.length,h2] S K :=
 ⟨yLe,fun c look w ρ xs vs G R=>Ret.mono (zRk hl hr L2 G R) fun v w' ⟨e,B⟩=>⟨_,_,hK,ρ,xs,G.below B,by subst e;exact .v _⟩⟩
end
end Go.Proofs.Y
namespace Go.Tr
open Go Go.Eng Go.RowKit
def mkE (q:Int):List Value:=[.string ByteArray.empty,.int .i64 q,.string ByteArray.empty]
def xG (k:Nat) (q:Int):List Value:=(List.replicate k (mkE q)).flatten
def vG (k:Nat) (q:Int):(xG k q).length=k * 3:=by simp [xG,mkE]
def qFz (k:Nat) (q:Int):xG (k + 1) q=xG k q ++ mkE q:=by rw [xG,bD3,List.flatten_append];simp [xG]
def qEb:∀ (n:Nat) (q:Int) (k:Nat),k < n→(xG n q)[k * 3 + 1]?=some (.int .i64 q)
|0,q,k,h=>by omega
|n + 1,q,k,h=>by
  rw [qFz]
  by_cases e:k < n
  ·rw [bAk (by rw [vG];omega)];exact qEb n q k e
  ·have:k=n:=by omega
   subst this;rw [bAa (by rw [vG];omega),vG]
   rw [show k * 3 + 1 - k * 3=1 by omega];rfl
def qCv (i:Nat):Int:=1000 + (i:Int)
def qF7 (i:Nat):Int:=2000 + (i:Int)
def qZe {P:Program} {w:World} {base e n cap g i ty:Nat} {xs:List Value} {vs:Array Value} (h:Own w base e 3 (.slice (some ⟨g,0,none⟩) n cap) n xs) (hk:bU P ty=some (some vs.size)) (hv:∀ v ∈ vs.toList,v.oneCell'=true) (hi:i + vs.size≤n * 3) :
  ∃ w',(storeVar ty ⟨g,i,none⟩ (.agg vs)).run P w=.ok () w'∧Own w' base e 3 (.slice (some ⟨g,0,none⟩) n cap) n (splice xs i vs.toList)∧Only g w w':=by
 have hl:=h.1
 rcases h.2 with ⟨hv',_⟩|⟨g',cap',cur,hv',hb,hg,hn,hm,hs,ht⟩
 ·cases hv'
 ·cases hv'
  have hlt:i + vs.size≤cur.size:=by rw [hs];exact l5 hi (m5 _ hn)
  obtain ⟨w',h1,h2,h3⟩:=nZ (P:=P) (ty:=ty) (i:=i) (vs:=vs) (show Blk w g cur e from hg) hk hv hlt
  have hlen:(splice cur.toList i vs.toList).length=cur.size:=by simp [splice];omega
  refine ⟨w',h1,⟨?_,.inr ⟨g,cap,_,rfl,hb,h2,hn,hm,by rw [bAq,hlen];exact hs,?_⟩⟩,h3⟩
  ·simp [splice];omega
  ·rw [bEd,← ht]
   have hle:n * 3≤cur.toList.length:=by rw [q7,hs];exact m5 _ hn
   apply bBx
   intro j
   by_cases hj:j < n * 3
   ·rw [o6 hj,dQ _ _ _ (by simpa using hlt),dQ _ _ _ (by rw [l7];simp;omega),o6 hj]
   ·rw [bAn (by omega),dQ _ _ _ (by rw [l7];simp;omega),b7 (by simp;omega),bAn (by omega)]
def qQn {k:Nat} {xs cs:List Value} {a:Nat} (hc:cs.length=3) (ha:a=k * 3) (hl:a + 3≤xs.length):(splice xs a cs).take ((k + 1) * 3)=xs.take a ++ cs:=by
 subst ha
 have e:(k + 1) * 3=(xs.take (k * 3) ++ cs).length:=by simp [hc];omega
 rw [splice,e,List.take_left' rfl]
def yDp (q:Int):Instr.fill (fun i=>some (i * 3,3)) ((Array.range (1 * 3)).map ((#[.string ByteArray.empty,.int .i64 0,.string ByteArray.empty]:Array Value)[· % (#[.string ByteArray.empty,.int .i64 0,.string ByteArray.empty]:Array Value).size]!)) #[(0,Value.agg #[.string ByteArray.empty,.int .i64 q,.string ByteArray.empty])].toList=some #[.string ByteArray.empty,.int .i64 q,.string ByteArray.empty]:=by kernel_rfl
def yDo (a:Option Addr) (n c:Nat):Instr.fill (fun i=>some (i * 1,1)) ((Array.range (1 * 1)).map ((#[.slice none 0 0]:Array Value)[· % (#[.slice none 0 0]:Array Value).size]!)) #[(0,Value.slice a n c)].toList=some #[.slice a n c]:=by kernel_rfl
end Go.Tr
namespace Go.Proofs.Y
open Go Go.Eng Go.RowKit Go.Tr
attribute [local push_cast] qGb qB4
def zFe (q:Int) (w:World):(Instr.build 42 #[(0,.int .i64 q)]).run Tryz.prog w=.ok (.agg #[.int .i64 q,.string ByteArray.empty]) w:=by kernel_rfl
def zFd (q:Int) (w:World):(Instr.build 44 #[(1,.agg #[.int .i64 q,.string ByteArray.empty])]).run Tryz.prog w=.ok (.agg #[.string ByteArray.empty,.int .i64 q,.string ByteArray.empty]) w:=by kernel_rfl
def qSm (w:World) (n L cap:Nat) (ad:Option Addr) (V:Nat→Value) (m:Nat→Nat) (X:Nat→List Value) (ow:Nat→Nat) (T:Nat→Prop) (hv:0 < n→ad=some ⟨L,0,none⟩)
  (hM:Marked w w T 44 3 n V m X) (ht:∀ j,j < n→Tag w ow (V j) j) (hT:∀ j b,j < n→(V j).ownBlock=some b→T b) (hL:∀ j,j < n→ow L=n + 1∧L < w.heap.size∧¬ T L∧w.cell? ⟨L,j,none⟩=some (V j))
  (hn:n≤1000000) (hm:∀ j,j < n→m j≤1000000000) :
  Calls Tryz.prog 12 #[.slice ad n cap] w (Ret fun r w'=>r=.bool true∧Kept T w w'):=by
 refine nQ (args:=[_]) Tryz.func12 rfl Tryz.ntmps12 Tryz.results12 (by simp) ?_
 have hd:∀ i j b,i < n→j < n→(V i).ownBlock=some b→(V j).ownBlock=some b→i=j:=fun i j b hi hj h1 h2=>by
  rw [← (ht i hi b h1).1,(ht j hj b h2).1]
 have hV:∀ j,j < n→∃ a c,V j=.slice a (m j) c∧(0 < m j→∃ g,a=some ⟨g,0,none⟩):=fun j hj=>by
  obtain ⟨a,c,h1,h2⟩:=Own.form (hM.own j hj);exact ⟨a,c,h1,fun h=>by obtain ⟨g,e,-⟩:=h2 h;exact ⟨g,e⟩⟩
 (repeat first|refine aF ?_|refine zV ?_|refine aA ?_|refine zY ?_);refine bF (fun K hK=>?_);push_cast;refine hK _ _ ?_;clear hK K
 (repeat first|refine aF ?_|refine zV ?_|refine aA ?_|refine zY ?_);refine bF (fun K hK=>?_);push_cast;refine hK _ _ ?_;clear hK K
 refine kB (l':=_) [0,3] (by simp only [keep,lk,Nat.reduceEqDiff,reduceIte];exact rfl) ?_
 (repeat first|refine aF ?_|refine zV ?_|refine aA ?_|refine zY ?_)
 refine eC ?_;refine oU (fun x:Nat × (Nat→List Value)=>[(0,.slice ad n cap),(3,.int .i64 x.1)]) (fun x w1=>x.1≤n∧Marked w w1 T 44 3 n V m x.2∧∀ j,j < x.1→x.2 j=xG (m j) (qCv j)) (fun x=>n - x.1) [0,3] (0,X) rfl ⟨g7 _,hM,fun j hj=>absurd hj (y5 _)⟩ ?_
 rintro ⟨i,Y⟩ w1 ⟨hi,hM1,hY⟩;simp only at hi hM1 hY
 (repeat first|refine aF ?_|refine zV ?_|refine aA ?_|refine zY ?_);refine bF (fun K hK=>?_);push_cast[qJ0];refine hK _ _ ?_;clear hK K
 (repeat first|refine aF ?_|refine zV ?_|refine aA ?_|refine zY ?_)
 refine dZ rfl (fun hlt=>?_) (fun hge=>?_)
 ·have hin:i < n:=by simpa using hlt
  obtain rfl:=hv (by omega)
  (repeat first|refine aF ?_|refine zV ?_|refine aA ?_|refine zY ?_)
  refine eC ?_
  (repeat first|refine aF ?_|refine zV ?_|refine aA ?_|refine zY ?_);refine bF (fun K hK=>?_);push_cast;refine hK _ _ ?_;clear hK K
  (repeat first|refine aF ?_|refine zV ?_|refine aA ?_|refine zY ?_)
  refine eC ?_
  have hin':(0:Int)≤i∧(i:Int) < n:=by omega
  obtain ⟨av,cv,hVi⟩:=cW (hM1.own i hin);refine oU (fun x:Nat × (Nat→List Value)=>[(0,.slice (some ⟨L,0,none⟩) n cap),(3,.int .i64 i),(4,.int .i64 x.1)]) (fun x w1=>x.1≤m i∧Marked w w1 T 44 3 n V m x.2∧(∀ j,j < i→x.2 j=xG (m j) (qCv j))∧(x.2 i).take (x.1 * 3)=xG x.1 (qCv i)) (fun x=>m i - x.1) [0,3,4] (0,Y) rfl ⟨g7 _,hM1,hY,rfl⟩ ?_
  clear hM1 hY;rintro ⟨k,Y⟩ w1 ⟨hk,hM1,hY,hY2⟩;simp only at hk hM1 hY hY2
  have cL:∀ {w1:World},Kept T w w1→w1.cell? ⟨L,i,none⟩=some (V i):=fun K=>by
   obtain ⟨-,b,d,e⟩:=hL i hin;rw [gU (K.block L b d)];exact e
  have c1:=cL hM1.kept
  rw [hVi] at c1
  (repeat first|refine aF ?_|refine zV ?_|refine aA ?_|refine zY ?_);refine bF (fun K hK=>?_);push_cast[qJ0,qMr,qU6,hin',c1];refine hK _ _ ?_;clear hK K
  (repeat first|refine aF ?_|refine zV ?_|refine aA ?_|refine zY ?_)
  refine dZ rfl (fun hlk=>?_) (fun hgk=>?_)
  ·have hkm:k < m i:=by simpa using hlk
   have hkm':(0:Int)≤k∧(k:Int) < m i:=by omega
   have hmi:=hm i hin
   have ho:=hM1.own i hin
   rw [hVi] at ho;obtain ⟨ac,cv',hcv,hcap,hcap2,hcell⟩:=fM ho (by omega)
   cases hcv
   have hw4:IntKind.i64.wrap (1000 + (i:Int))=qCv i:=qD0 (by omega) (by omega)
   (repeat first|refine aF ?_|refine zV ?_|refine aA ?_|refine zY ?_)
   refine eC ?_;refine kB (l':=_) [0,3,4] (by simp only [keep,lk,Nat.reduceEqDiff,reduceIte];exact rfl) ?_
   (repeat first|refine aF ?_|refine zV ?_|refine aA ?_|refine zY ?_);refine bF (fun K hK=>?_);push_cast[qJ0,qMr,qU6,hin',c1,hkm',hw4,yHm,yHl]
   refine ⟨_,zFe (qCv i),?_⟩;refine v2s ?_;try push_cast
   refine ⟨_,zFd (qCv i),?_⟩;refine v2s ?_;try push_cast[qMr,hkm']
   obtain ⟨w3,s1,s2,s3⟩:=qZe (P:=Tryz.prog) (ty:=44) (i:=k * 3) (vs:=#[.string ByteArray.empty,.int .i64 (qCv i),.string ByteArray.empty]) ho yF1 (fun v hv=>by simp at hv;rcases hv with rfl|rfl|rfl <;> rfl) (by show k * 3 + 3≤m i * 3;omega)
   refine ⟨w3,s1,?_⟩;refine v2s ?_;try push_cast
   refine hK _ _ ?_;clear hK K
   have hM3:=hM1.turn hd hT hin (by rw [hVi];rfl) s3 (by rw [hVi];exact s2)
   have hwr:IntKind.i64.wrap ((k:Int) + 1)=(k:Int) + 1:=qD0 (by omega) (by omega)
   (repeat first|refine yN ?_|refine yP ?_|refine yQ ?_|refine yR rfl ?_|refine yS ?_|refine zY ?_|refine aF ?_|refine zV ?_|refine aA ?_|refine bW ?_|refine dB ?_)
   (repeat first|refine aF ?_|refine zV ?_|refine aA ?_|refine zY ?_);refine bF (fun K hK=>?_);push_cast[hwr];refine hK _ _ ?_;clear hK K
   (repeat first|refine yN ?_|refine yP ?_|refine yQ ?_|refine yR rfl ?_|refine yS ?_|refine zY ?_|refine aF ?_|refine zV ?_|refine aA ?_|refine bW ?_|refine dB ?_)
   refine ⟨(k + 1,qMs Y i (splice (Y i) (k * 3) (mkE (qCv i)))),rfl,⟨by show k + 1≤m i;omega,hM3,fun j hj=>?_,?_⟩,by show m i - (k + 1) < m i - k;omega⟩
   ·show qMs Y i _ j=_
    rw [qD2 _ _ _ _ (by omega)];exact hY j hj
   ·show (qMs Y i _ i).take ((k + 1) * 3)=_
    rw [uY]
    have hlen:(Y i).length=m i * 3:=(hM1.own i hin).1
    rw [qQn rfl rfl (by omega),hY2,qFz]
  ·have hkm:k=m i:=by simp at hgk;omega
   subst hkm
   (repeat first|refine yN ?_|refine yP ?_|refine yQ ?_|refine yR rfl ?_|refine yS ?_|refine zY ?_|refine aF ?_|refine zV ?_|refine aA ?_|refine bW ?_|refine dB ?_)
   have hwr:IntKind.i64.wrap ((i:Int) + 1)=(i:Int) + 1:=qD0 (by omega) (by omega)
   (repeat first|refine aF ?_|refine zV ?_|refine aA ?_|refine zY ?_);refine bF (fun K hK=>?_);push_cast[hwr];refine hK _ _ ?_;clear hK K
   (repeat first|refine yN ?_|refine yP ?_|refine yQ ?_|refine yR rfl ?_|refine yS ?_|refine zY ?_|refine aF ?_|refine zV ?_|refine aA ?_|refine bW ?_|refine dB ?_)
   refine ⟨(i + 1,Y),rfl,⟨hin,hM1,fun j hj=>?_⟩,by show n - (i + 1) < n - i;omega⟩
   by_cases e:j=i
   ·subst e
    have hlen:(Y j).length=m j * 3:=(hM1.own j hin).1
    rw [← hlen,t6] at hY2;exact hY2
   ·exact hY j (by have:j < i + 1:=hj;omega)
 ·have hin:i=n:=by simp at hge;omega
  have hY':Marked w w1 T 44 3 n V m (fun j=>xG (m j) (qCv j)):=⟨hM1.kept,fun j hj=>by have:=hM1.own j hj;rw [hY j (by omega)] at this;exact this⟩
  have hG:=hY'.grown ht hL (fun j=>xG 20 (qF7 j)) V 22
  clear hY' hM1 hY hM hge
  (repeat first|refine yN ?_|refine yP ?_|refine yQ ?_|refine yR rfl ?_|refine yS ?_|refine zY ?_|refine aF ?_|refine zV ?_|refine aA ?_|refine bW ?_|refine dB ?_)
  (repeat first|refine aF ?_|refine zV ?_|refine aA ?_|refine zY ?_);refine bF (fun K hK=>?_);push_cast;refine hK _ _ ?_;clear hK K
  (repeat first|refine aF ?_|refine zV ?_|refine aA ?_|refine zY ?_);refine bF (fun K hK=>?_);push_cast;refine hK _ _ ?_;clear hK K
  (repeat first|refine aF ?_|refine zV ?_|refine aA ?_|refine zY ?_)
  refine eC ?_;refine oU (fun x:Nat × Value × (Nat→Value) × (Nat→Nat)=>[(0,.slice ad n cap),(5,x.2.1),(6,.int .i64 x.1)]) (fun x w1=>x.1≤n∧Grown w w1 T 44 3 22 n x.1 x.1 L V m (fun j=>xG (m j) (qCv j)) (fun j=>xG 20 (qF7 j)) x.2.2.2 x.2.2.1 x.2.1) (fun x=>n - x.1) [0,5,6] (0,.slice none 0 0,V,ow) rfl ⟨g7 _,hG⟩ ?_
  clear hG;rintro ⟨i,lv,U,ow'⟩ w1 ⟨hi,hG⟩;simp only at hi hG
  (repeat first|refine aF ?_|refine zV ?_|refine aA ?_|refine zY ?_);refine bF (fun K hK=>?_);push_cast[qJ0];refine hK _ _ ?_;clear hK K
  (repeat first|refine aF ?_|refine zV ?_|refine aA ?_|refine zY ?_)
  refine dZ rfl (fun hlt=>?_) (fun hge=>?_)
  ·have hin:i < n:=by simpa using hlt
   obtain rfl:=hv (by omega)
   have hin':(0:Int)≤i∧(i:Int) < n:=by omega
   have c1:=(hG.outer i hin).2.2
   (repeat first|refine aF ?_|refine zV ?_|refine aA ?_|refine zY ?_)
   refine eC ?_
   (repeat first|refine aF ?_|refine zV ?_|refine aA ?_|refine zY ?_);refine bF (fun K hK=>?_);push_cast[qJ0,qU6,hin',c1];refine hK _ _ ?_;clear hK K
   (repeat first|refine aF ?_|refine zV ?_|refine aA ?_|refine zY ?_);refine bF (fun K hK=>?_);push_cast;refine hK _ _ ?_;clear hK K
   refine kB (l':=_) [0,5,6,7,8] (by simp only [keep,lk,Nat.reduceEqDiff,reduceIte];exact rfl) ?_
   (repeat first|refine aF ?_|refine zV ?_|refine aA ?_|refine zY ?_)
   refine eC ?_
   have hmi:=hm i hin
   refine oU (fun x:Nat × Value × (Nat→Nat)=>[(0,.slice (some ⟨L,0,none⟩) n cap),(5,lv),(6,.int .i64 i),(7,x.2.1),(8,.int .i64 x.1)])
    (fun x w1=>x.1≤20∧Grown w w1 T 44 3 22 n i (i + 1) L V m (fun j=>xG (m j) (qCv j)) (fun j=>xG 20 (qF7 j)) x.2.2 U lv∧Tag w1 x.2.2 x.2.1 i∧(∀ b,x.2.1.ownBlock=some b→w.heap.size≤b∨T b)∧Own w1 0 44 3 x.2.1 (m i + x.1) (xG (m i) (qCv i) ++ xG x.1 (qF7 i))) (fun x=>20 - x.1) [0,5,6,7,8] (0,V i,ow') rfl
    ⟨g7 _,⟨hG.kept,hG.rd,fun j h1 h2=>hG.own j (by omega) h2,hG.grown,hG.long,hG.newL,hG.tagV,hG.tagU,hG.tagL,hG.outer⟩,hG.tagV i hin,fun b hb=>.inr (hT i b hin hb),by have:=hG.own i (a7 _) hin;simpa [xG] using this⟩ ?_
   clear hG c1;rintro ⟨k,x,ow1⟩ w1 ⟨hk,hG,htx,hTx,hox⟩;simp only at hk hG htx hTx hox
   (repeat first|refine aF ?_|refine zV ?_|refine aA ?_|refine zY ?_);refine bF (fun K hK=>?_);push_cast;refine hK _ _ ?_;clear hK K
   (repeat first|refine aF ?_|refine zV ?_|refine aA ?_|refine zY ?_)
   refine dZ rfl (fun hlk=>?_) (fun hgk=>?_)
   ·have hk20:k < 20:=by simp at hlk;omega
    (repeat first|refine aF ?_|refine zV ?_|refine aA ?_|refine zY ?_)
    refine eC ?_
    have hw4:IntKind.i64.wrap (2000 + (i:Int))=qF7 i:=qD0 (by omega) (by omega)
    (repeat first|refine aF ?_|refine zV ?_|refine aA ?_|refine zY ?_);refine bF (fun K hK=>?_);push_cast[hw4]
    refine ⟨_,zFe (qF7 i),?_⟩;refine v2s ?_;try push_cast
    refine ⟨_,zFd (qF7 i),?_⟩;refine v2s ?_;try push_cast
    obtain ⟨w2,b1,b2,b3,b4⟩:=tF (P:=Tryz.prog) (w:=w1) (len:=1) #[.string ByteArray.empty,.int .i64 (qF7 i),.string ByteArray.empty] yA2 (by omega) (by simp [maxLen]) (yDp (qF7 i)) rfl
    refine ⟨_,w2,b1,?_⟩
    have hG2:=hG.up b3
    have hox2:=hox.up b3
    have htx2:=htx.up b3.size
    obtain ⟨x',w3,s1,s2,s3,s5,s6⟩:=qMl (P:=Tryz.prog) (t:=22) (ty:=22) yA2 rfl (by omega) (by omega) hox2 (news:=mkE (qF7 i)) (m:=1) (.inl ⟨⟨w1.heap.size,0,none⟩,1,rfl,fun j u hj=>by
     rw [y8,s7];exact b2.rd w1.heap.size rfl j u hj⟩) rfl (fun u hu=>by simp [mkE] at hu;rcases hu with rfl|rfl|rfl <;> rfl) (by omega)
    refine v2s ?_;try push_cast
    refine ⟨x',w3,s1,?_⟩;refine v2s ?_;try push_cast
    refine hK _ _ ?_;clear hK K;rw [u6,← qFz] at s2;obtain ⟨g1,g2,g3⟩:=hG2.app hin htx2 s2 s3 s5 s6 hTx
    have hwr:IntKind.i64.wrap ((k:Int) + 1)=(k:Int) + 1:=qD0 (by omega) (by omega)
    (repeat first|refine yN ?_|refine yP ?_|refine yQ ?_|refine yR rfl ?_|refine yS ?_|refine zY ?_|refine aF ?_|refine zV ?_|refine aA ?_|refine bW ?_|refine dB ?_)
    (repeat first|refine aF ?_|refine zV ?_|refine aA ?_|refine zY ?_);refine bF (fun K hK=>?_);push_cast[hwr];refine hK _ _ ?_;clear hK K
    (repeat first|refine yN ?_|refine yP ?_|refine yQ ?_|refine yR rfl ?_|refine yS ?_|refine zY ?_|refine aF ?_|refine zV ?_|refine aA ?_|refine bW ?_|refine dB ?_)
    exact ⟨(k + 1,x',_),rfl,⟨hk20,g1,g2,g3,s2⟩,by show 20 - (k + 1) < 20 - k;omega⟩
   ·have hk20:k=20:=by simp at hgk;omega
    subst hk20
    (repeat first|refine yN ?_|refine yP ?_|refine yQ ?_|refine yR rfl ?_|refine yS ?_|refine zY ?_|refine aF ?_|refine zV ?_|refine aA ?_|refine bW ?_|refine dB ?_)
    refine kB (l':=_) [0,5,6,7] (by simp only [keep,lk,Nat.reduceEqDiff,reduceIte];exact rfl) ?_
    (repeat first|refine aF ?_|refine zV ?_|refine aA ?_|refine zY ?_);refine bF (fun K hK=>?_);push_cast
    obtain ⟨w2,b1,b2,b3,b4⟩:=tF (P:=Tryz.prog) (w:=w1) (parts:=#[(0,x)]) (len:=1) #[x] yA1 (by omega) (by simp [maxLen]) (by obtain ⟨a,c,rfl⟩:=cW hox;exact yDo a _ c) rfl
    refine ⟨_,w2,b1,?_⟩
    have hG2:=hG.up b3
    have hox2:=hox.up b3
    have htx2:=htx.up b3.size
    obtain ⟨lv',w3,s1,s2,s3,s5,s6⟩:=qMl (P:=Tryz.prog) (t:=37) (ty:=37) yA1 rfl (by omega) (by omega) hG2.long (news:=[x]) (m:=1) (.inl ⟨⟨w1.heap.size,0,none⟩,1,rfl,fun j u hj=>by
     rw [y8,s7];exact b2.rd w1.heap.size rfl j u hj⟩) rfl (by obtain ⟨a,c,rfl⟩:=cW hox;simp [Value.oneCell']) (by omega)
    refine v2s ?_;try push_cast
    refine ⟨lv',w3,s1,?_⟩;refine v2s ?_;try push_cast
    refine hK _ _ ?_;clear hK K
    have g1:=hG2.next hin htx2 hox2 s2 s3 s5
    have hwr:IntKind.i64.wrap ((i:Int) + 1)=(i:Int) + 1:=qD0 (by omega) (by omega)
    (repeat first|refine yN ?_|refine yP ?_|refine yQ ?_|refine yR rfl ?_|refine yS ?_|refine zY ?_|refine aF ?_|refine zV ?_|refine aA ?_|refine bW ?_|refine dB ?_)
    (repeat first|refine aF ?_|refine zV ?_|refine aA ?_|refine zY ?_);refine bF (fun K hK=>?_);push_cast[hwr];refine hK _ _ ?_;clear hK K
    (repeat first|refine yN ?_|refine yP ?_|refine yQ ?_|refine yR rfl ?_|refine yS ?_|refine zY ?_|refine aF ?_|refine zV ?_|refine aA ?_|refine bW ?_|refine dB ?_)
    exact ⟨(i + 1,lv',_,_),rfl,⟨hin,g1⟩,by show n - (i + 1) < n - i;omega⟩
  ·have hin:i=n:=by simp at hge;omega
   subst hin
   (repeat first|refine yN ?_|refine yP ?_|refine yQ ?_|refine yR rfl ?_|refine yS ?_|refine zY ?_|refine aF ?_|refine zV ?_|refine aA ?_|refine bW ?_|refine dB ?_)
   refine kB (l':=_) [0,5] (by simp only [keep,lk,Nat.reduceEqDiff,reduceIte];exact rfl) ?_
   (repeat first|refine aF ?_|refine zV ?_|refine aA ?_|refine zY ?_);refine bF (fun K hK=>?_);push_cast;refine hK _ _ ?_;clear hK K
   (repeat first|refine aF ?_|refine zV ?_|refine aA ?_|refine zY ?_)
   refine eC ?_
   have hK:=hG.kept
   refine oU (fun x:Nat=>[(0,.slice ad i cap),(5,lv),(9,.int .i64 x)]) (fun x w2=>x≤i∧w2=w1) (fun x=>i - x) [0,5,9] 0 rfl ⟨g7 _,rfl⟩ ?_
   rintro j w2 ⟨hj,rfl⟩
   (repeat first|refine aF ?_|refine zV ?_|refine aA ?_|refine zY ?_);refine bF (fun K hK=>?_);push_cast[qJ0];refine hK _ _ ?_;clear hK K
   (repeat first|refine aF ?_|refine zV ?_|refine aA ?_|refine zY ?_)
   refine dZ rfl (fun hlt=>?_) (fun hge=>?_)
   ·have hjn:j < i:=by simpa using hlt
    obtain rfl:=hv (by omega)
    have hjn':(0:Int)≤j∧(j:Int) < i:=by omega
    have c1:=(hG.outer j hjn).2.2
    obtain ⟨al,cl,hlv⟩:=cW hG.long;subst hlv;obtain ⟨gl,cl',hcl,-,-,hcell⟩:=fM hG.long (by omega)
    cases hcl
    have c2:w2.cell? ⟨gl,j,none⟩=some (U j):=hcell j _ (by rw [y9,bCk hjn];rfl)
    have hoU:=hG.grown j hjn
    obtain ⟨au,cu,hU⟩:=cW hoU;rw [hU] at hoU c2;obtain ⟨gu,cu',hcu,-,-,hcellU⟩:=fM hoU (by omega)
    cases hcu
    (repeat first|refine aF ?_|refine zV ?_|refine aA ?_|refine zY ?_)
    refine eC ?_
    (repeat first|refine aF ?_|refine zV ?_|refine aA ?_|refine zY ?_);refine bF (fun K hK=>?_);push_cast;refine hK _ _ ?_;clear hK K
    (repeat first|refine aF ?_|refine zV ?_|refine aA ?_|refine zY ?_)
    refine eC ?_
    have hmj:=hm j hjn
    refine oU (fun x:Nat=>[(0,.slice (some ⟨L,0,none⟩) i cap),(5,.slice (some ⟨gl,0,none⟩) i cl),(9,.int .i64 j),(10,.int .i64 x)]) (fun x w3=>x≤m j + 20∧w3=w2) (fun x=>m j + 20 - x) [0,5,9,10] 0 rfl ⟨g7 _,rfl⟩ ?_
    rintro k w3 ⟨hk,rfl⟩
    (repeat first|refine aF ?_|refine zV ?_|refine aA ?_|refine zY ?_);refine bF (fun K hK=>?_);push_cast[qJ0,qMr,qU6,hjn',c1,c2];refine hK _ _ ?_;clear hK K
    (repeat first|refine aF ?_|refine zV ?_|refine aA ?_|refine zY ?_)
    refine dZ rfl (fun hlk=>?_) (fun hgk=>?_)
    ·have hkm:k < m j + 20:=by simp at hlk;omega
     (repeat first|refine aF ?_|refine zV ?_|refine aA ?_|refine zY ?_)
     refine eC ?_
     have hw4:IntKind.i64.wrap (1000 + (j:Int))=qCv j:=qD0 (by omega) (by omega)
     have hw5:IntKind.i64.wrap (2000 + (j:Int))=qF7 j:=qD0 (by omega) (by omega)
     refine kB (l':=_) [0,5,9,10] (by simp only [keep,lk,Nat.reduceEqDiff,reduceIte];exact rfl) ?_
     (repeat first|refine aF ?_|refine zV ?_|refine aA ?_|refine zY ?_);refine bF (fun K hK=>?_);push_cast[hw4];refine hK _ _ ?_;clear hK K
     obtain ⟨aj,cj,hVj,hVa⟩:=hV j hjn;rw [hVj] at c1;refine zV ?_;refine qP7 (ι:=Unit) (fun _=>[(0,.slice (some ⟨L,0,none⟩) i cap),(5,.slice (some ⟨gl,0,none⟩) i cl),(9,.int .i64 j),(10,.int .i64 k),(11,.int .i64 (if m j≤k then qF7 j else qCv j))]) (fun _ w4=>w4=w3) [0,5,9,10,11] ?_ ?_
     ·(repeat first|refine aF ?_|refine zV ?_|refine aA ?_|refine zY ?_);refine bF (fun K hK=>?_);push_cast[qJ0,qMr,qU6,hjn',c1];refine hK _ _ ?_;clear hK K
      (repeat first|refine aF ?_|refine zV ?_|refine aA ?_|refine zY ?_)
      refine dZ rfl (fun hm1=>?_) (fun hm1=>?_)
      ·have hm1:m j≤k:=by simpa using hm1
       (repeat first|refine aF ?_|refine zV ?_|refine aA ?_|refine zY ?_);refine bF (fun K hK=>?_);push_cast[hw5];refine hK _ _ ?_;clear hK K
       exact ⟨(),by simp only [keep,lk,Nat.reduceEqDiff,reduceIte,g8 hm1],rfl⟩
      ·have hm1:k < m j:=by simpa using hm1
       (repeat first|refine aF ?_|refine zV ?_|refine aA ?_|refine zY ?_)
       exact ⟨(),by simp only [keep,lk,Nat.reduceEqDiff,reduceIte,b7 (Nat.not_le.2 hm1)],rfl⟩
     ·rintro - w4 rfl
      have hk':(0:Int)≤k∧(k:Int) < (m j + 20:Nat):=by omega
      have c3:w4.cell? ⟨gu,k * 3 + 1,none⟩=some (.int .i64 (if m j≤k then qF7 j else qCv j)):=by
       refine hcellU (k * 3 + 1) _ ?_
       by_cases h:m j≤k
       ·rw [g8 h,bAa (by rw [vG];omega),vG,show k * 3 + 1 - m j * 3=(k - m j) * 3 + 1 by omega]
        exact qEb _ _ _ (by omega)
       ·rw [b7 h,bAk (by rw [vG];omega)]
        exact qEb _ _ _ (by omega)
      by_cases hm1:m j≤k
      ·have e1:decide ((k:Int) < m j)=false:=b9 (by omega)
       (repeat first|refine aF ?_|refine zV ?_|refine aA ?_|refine zY ?_);refine bF (fun K hK=>?_);push_cast[qJ0,qMr,qU6,kt3,zCz,zC0,hjn',c1,c2,c3,hk',e1]
       refine ⟨by omega,?_⟩
       refine hK _ _ ?_;clear hK K;refine zV ?_;refine qCp rfl ?_
       have hwr:IntKind.i64.wrap ((k:Int) + 1)=(k:Int) + 1:=qD0 (by omega) (by omega)
       (repeat first|refine yN ?_|refine yP ?_|refine yQ ?_|refine yR rfl ?_|refine yS ?_|refine zY ?_|refine aF ?_|refine zV ?_|refine aA ?_|refine bW ?_|refine dB ?_)
       (repeat first|refine aF ?_|refine zV ?_|refine aA ?_|refine zY ?_);refine bF (fun K hK=>?_);push_cast[hwr];refine hK _ _ ?_;clear hK K
       (repeat first|refine yN ?_|refine yP ?_|refine yQ ?_|refine yR rfl ?_|refine yS ?_|refine zY ?_|refine aF ?_|refine zV ?_|refine aA ?_|refine bW ?_|refine dB ?_)
       exact ⟨k + 1,rfl,⟨by omega,rfl⟩,by omega⟩
      ·obtain ⟨gj,rfl⟩:=hVa (by omega)
       have c4:w4.cell? ⟨gj,k * 3 + 1,none⟩=some (.int .i64 (qCv j)):=by
        refine hG.rd j hjn gj (by rw [hVj];rfl) (k * 3 + 1) _ ?_
        exact qEb _ _ _ (by omega)
       rw [b7 hm1] at c3 ⊢
       have e1:decide ((k:Int) < m j)=true:=i7 (by omega)
       have hk2:(0:Int)≤k∧(k:Int) < m j:=by omega
       (repeat first|refine aF ?_|refine zV ?_|refine aA ?_|refine zY ?_);refine bF (fun K hK=>?_);push_cast[qJ0,qMr,qU6,kt3,zCz,zC0,hjn',c1,c2,c3,c4,hk',hk2,e1]
       refine ⟨by omega,?_⟩
       refine hK _ _ ?_;clear hK K;refine zV ?_;refine qCp rfl ?_
       have hwr:IntKind.i64.wrap ((k:Int) + 1)=(k:Int) + 1:=qD0 (by omega) (by omega)
       (repeat first|refine yN ?_|refine yP ?_|refine yQ ?_|refine yR rfl ?_|refine yS ?_|refine zY ?_|refine aF ?_|refine zV ?_|refine aA ?_|refine bW ?_|refine dB ?_)
       (repeat first|refine aF ?_|refine zV ?_|refine aA ?_|refine zY ?_);refine bF (fun K hK=>?_);push_cast[hwr];refine hK _ _ ?_;clear hK K
       (repeat first|refine yN ?_|refine yP ?_|refine yQ ?_|refine yR rfl ?_|refine yS ?_|refine zY ?_|refine aF ?_|refine zV ?_|refine aA ?_|refine bW ?_|refine dB ?_)
       exact ⟨k + 1,rfl,⟨by omega,rfl⟩,by omega⟩
    ·(repeat first|refine yN ?_|refine yP ?_|refine yQ ?_|refine yR rfl ?_|refine yS ?_|refine zY ?_|refine aF ?_|refine zV ?_|refine aA ?_|refine bW ?_|refine dB ?_)
     have hwr:IntKind.i64.wrap ((j:Int) + 1)=(j:Int) + 1:=qD0 (by omega) (by omega)
     (repeat first|refine aF ?_|refine zV ?_|refine aA ?_|refine zY ?_);refine bF (fun K hK=>?_);push_cast[hwr];refine hK _ _ ?_;clear hK K
     (repeat first|refine yN ?_|refine yP ?_|refine yQ ?_|refine yR rfl ?_|refine yS ?_|refine zY ?_|refine aF ?_|refine zV ?_|refine aA ?_|refine bW ?_|refine dB ?_)
     exact ⟨j + 1,rfl,⟨by omega,rfl⟩,by omega⟩
   ·(repeat first|refine yN ?_|refine yP ?_|refine yQ ?_|refine yR rfl ?_|refine yS ?_|refine zY ?_|refine aF ?_|refine zV ?_|refine aA ?_|refine bW ?_|refine dB ?_)
    (repeat first|refine aF ?_|refine zV ?_|refine aA ?_|refine zY ?_);refine bF (fun K hK=>?_);push_cast;refine hK _ _ ?_;clear hK K
    (repeat first|refine yN ?_|refine yP ?_|refine yQ ?_|refine yR rfl ?_|refine yS ?_|refine zY ?_|refine aF ?_|refine zV ?_|refine aA ?_|refine bW ?_|refine dB ?_)
    simp only [qDn,jE,tup,lk,Nat.reduceEqDiff,reduceIte,reduceCtorEq];exact ⟨trivial,hK⟩
end Go.Proofs.Y
