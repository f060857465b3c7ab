/- What the walk of the law stands on. -/
import Derived.Test.YtjljkgeeimploaaGreatDoorQh
set_option linter.defProp false
set_option maxRecDepth 20000
set_option maxHeartbeats 8000000
namespace Go.Tr
open Go Go.Eng
def qYi (t:List Ent) (p:Ba) (u:List Ent):List Ent:=(t.filter fun e=>!bN e.1 p) ++ u
def dL (t:List Ent) (p:Ba) (u:List Ent):Int :=
 if pOk p 5=false then 10 else if (u.all fun e=>bN e.1 p)=false then 1 else cZ (iM (qYi t p u))
def gR (t:List Ent) (p:Ba) (u:List Ent):List Ent:=if dL t p u=0 then iM (qYi t p u) else []
def zDe {a b:List Ent} (h:a.length=b.length) (ha:cZ a≠0) (hb:cZ b≠0):cZ a=cZ b:=by
 unfold cZ at *
 rw [h] at *
 split
 ·rfl
 ·rename_i hh;rw [b7 hh] at ha hb
  cases e1:okR a <;> cases e2:okR b <;> simp_all
def zGz {s l:List Ent} (hp:s.Perm l) (hn:vM s):cZ s=cZ (iM l)∧(cZ s=0→s=iM l):=by
 have hps:s.Perm (iM l):=hp.trans (jS l).symm
 by_cases h0:cZ s=0
 ·have hr:=qK1 (fZ h0).2
  have:iM l=s:=zUw hr hp.symm
  rw [this];exact ⟨rfl,fun _=>rfl⟩
 ·by_cases h1:cZ (iM l)=0
  ·have hr:=qK1 (fZ h1).2
   have:s=iM l:=qUr hn hr hps
   rw [← this];exact ⟨rfl,fun _=>rfl⟩
  ·exact ⟨zDe hps.length_eq h0 h1,fun h=>absurd h h0⟩
end Go.Tr
namespace Go.Proofs.Y
open Go Go.Eng Go.RowKit Go.Tr
def zGy (t:List Ent) (p:Ba) (u:List Ent) (hl:t.length≤1048576) (hlu:u.length≤1048576) (sz:p.size≤1048576) (szt:∀ e ∈ t,e.1.size≤1048576) (szu:∀ e ∈ u,e.1.size≤1048576):HFun Tryz.prog 53 [.lst false (aG t),.v (.string p),.lst false (aG u)] (fun h st=>h=.tup [.own 0,.v (.int .i64 (dL t p u))]∧st=[(0,rowE (gR t p u))]):=by
 refine bP (N:=57) Tryz.func53 rfl Tryz.ntmps53 Tryz.results53 (by simp) ?_
 have c50:HFun Tryz.prog 66 [.v (.string p),.v (.int .i64 5)] (fun h st=>h=.v (.int .i64 (okN (pOk p 5)))):=qUj p 5 sz (by omega)
 refine goA 3 ?_;push_cast
 cases ok:pOk p 5 with
|false =>
  have hE:dL t p u=10:=by simp [dL,ok]
  rw [ok,zEi] at c50;refine goA 4 ?_;push_cast;refine cVt qWn c50 (.cons (.v _) (.cons (.v _) .nil)) ?_;push_cast;refine goW 6 9000 44 3 rfl ?_;refine goA 1 ?_;push_cast;exact gX rfl (dD []) ⟨by rw [hE],by rw [gR,hE];rfl⟩
|true =>
 rw [ok,zEh] at c50;refine goA 7 ?_;push_cast;refine cVt qWn c50 (.cons (.v _) (.cons (.v _) .nil)) ?_;push_cast[yV];refine goL (fun x:Nat × List Ent=>⟨[(1,.v (.string p)),(2,.lst false (aG u)),(8,.own 136),(18,.lst false (aG t)),(19,.v (.int .i64 t.length)),(20,.v (.int .i64 x.1))],[(136,rowE x.2)]⟩) (fun x=>x.1≤t.length∧x.2=(t.take x.1).filter fun e=>!bN e.1 p) (fun x=>t.length - x.1) [1,2,8,18,19,20] [136] (0,[]) (by push_cast <;> rfl) ⟨g7 _,rfl⟩ ?_
 rintro ⟨i,out⟩ ⟨hi,ho⟩;simp only at hi ho
 by_cases hlt:i < t.length
 ·have hsz:=szt _ (c7 hlt)
  have hol:out.length≤i:=by
   rw [ho];refine l5 (p7 ..) ?_;rw [l7];omega
  have cu:=qJb t[i].1 p hsz sz
  refine goA 7 ?_;push_cast(disch:=omega)[yV,yU,yW hlt];refine cVt zS3 cu (.cons (.v _) (.cons (.v _) .nil)) ?_;push_cast
  cases hu:bN t[i].1 p with
 |false =>
   have e2:aG out ++ [[FV.v (.string t[i].1),.v (.int .i64 t[i].2.1),.v (.string t[i].2.2)]]=aG (out ++ [t[i]]):=mY out _ _ _
   refine goA 5 ?_;push_cast(disch:=omega)[yV,e2];(repeat ((with_reducible constructor);focus first|omega|decide))
   refine ⟨(i + 1,out ++ [t[i]]),by push_cast <;> rfl,⟨hlt,?_⟩,by dsimp only;omega⟩
   dsimp only;rw [d7 hlt,bA7,← ho];simp [hu]
 |true =>
   refine goA 3 ?_;push_cast(disch:=omega);refine ⟨(i + 1,out),by push_cast <;> rfl,⟨hlt,?_⟩,by dsimp only;omega⟩
   dsimp only;rw [d7 hlt,bA7,← ho];simp [hu]
 ·have hne:i=t.length:=by omega
  subst hne;rw [t6] at ho
  have hol:out.length≤t.length:=by
   rw [ho];exact p7 ..
  have hL:qYi t p u=out ++ u:=by rw [qYi,← ho]
  have hmem:∀ e ∈ out,e.1.size≤1048576:=fun e he=>by
   rw [ho] at he;exact szt e (bBj.1 he).1
  clear ho;refine goA 5 ?_;push_cast(disch:=omega)[yV];refine goL (fun x:Nat=>⟨[(1,.v (.string p)),(2,.lst false (aG u)),(8,.own 136),(34,.lst false (aG u)),(35,.v (.int .i64 u.length)),(36,.v (.int .i64 x))],[(136,rowE out)]⟩) (fun x=>x≤u.length∧∀ j (h:j < u.length),j < x→bN u[j].1 p=true) (fun x=>u.length - x) [1,2,8,34,35,36] [136] 0 (by push_cast <;> rfl) ⟨g7 _,fun j h hj=>by omega⟩ ?_
  rintro k ⟨hk,hb⟩
  by_cases hkl:k < u.length
  ·have hsz:=szu _ (c7 hkl)
   have cu:=qJb u[k].1 p hsz sz
   refine goA 7 ?_;push_cast(disch:=omega)[yV,yU,yW hkl];refine cVt zS3 cu (.cons (.v _) (.cons (.v _) .nil)) ?_;push_cast
   cases hu:bN u[k].1 p with
  |false =>
    have hE:dL t p u=1:=by
     have:(u.all fun e=>bN e.1 p)=false:=List.all_eq_false.2 ⟨u[k],c7 hkl,by rw [hu];decide⟩
     simp [dL,ok,this]
    refine goA 2 ?_;push_cast;refine goW 6 9000 44 3 rfl ?_;refine goA 1 ?_;push_cast;exact gX rfl (dD []) ⟨by rw [hE],by rw [gR,hE];rfl⟩
  |true =>
    refine goA 3 ?_;push_cast(disch:=omega);refine ⟨k + 1,by push_cast <;> rfl,⟨hkl,fun j hj h=>?_⟩,by omega⟩
    by_cases e:j=k
    ·subst e;exact hu
    ·exact hb j hj (by omega)
  ·have hkk:k=u.length:=by omega
   subst hkk
   have hall:(u.all fun e=>bN e.1 p)=true:=o8.2 fun e he=>by
    obtain ⟨j,hj,rfl⟩:=p9 he;exact hb j hj hj
   have hE:dL t p u=cZ (iM (out ++ u)):=by
    rw [dL,b7 (by rw [ok];decide),b7 (by rw [hall];decide),hL]
   have e3:aG out ++ aG u=aG (out ++ u):=(qFc out u)
   refine goA 5 ?_;push_cast(disch:=omega)[yV,yU,e3];(repeat ((with_reducible constructor);focus first|omega|decide))
   refine goP [8] [136] ?_;refine goA 3 ?_;push_cast;refine zUx (t:=out ++ u) (by rw [i8];omega) rfl ?_
   intro s hp hn;push_cast;obtain ⟨q1,q2⟩:=zGz hp hn
   have hsl:s.length≤2097152:=by rw [hp.length_eq,i8];omega
   have c15:=zZb s (by omega) (fun e he=>by
    rcases m8.1 (hp.mem_iff.1 he) with h|h
    ·exact hmem e h
    ·exact szu e h)
   rw [← q1] at hE;refine goA 3 ?_;push_cast;refine cVt yKo c15 (.cons (eH (yT _) rfl) .nil) ?_;push_cast
   by_cases h0:cZ s=0
   ·have hT:gR t p u=s:=by rw [gR,g8 (hE.trans h0),hL,q2 h0]
    rw [hE,hT,h0];refine goA 5 ?_;push_cast;exact gX rfl (dD _) ⟨rfl,rfl⟩
   ·have hT:gR t p u=[]:=by rw [gR,b7 (fun h=>h0 (hE.symm.trans h))]
    have hz:decide (cZ s=0)=false:=b9 h0
    rw [hE,hT];generalize cZ s=e at hz;refine goA 4 ?_;push_cast[hz];refine goW 6 9000 44 3 rfl ?_;refine goA 1 ?_;push_cast;exact gX rfl (dD []) ⟨rfl,rfl⟩
def qYh (t:List Ent) (p:Ba) (u:List Ent) (hl:t.length≤1048576) (hlu:u.length≤1048576) (sz:p.size≤1048576) (szt:∀ e ∈ t,e.1.size≤1048576) (szu:∀ e ∈ u,e.1.size≤1048576):HFun Tryz.prog 20 [.lst false (aG t),.v (.string p),.lst false (aG u)] (fun h st=>h=.tup [.own 0,.v (.int .i64 (dL t p u))]∧st=[(0,rowE (gR t p u))]):=by
 refine bP (N:=67) Tryz.func20 rfl Tryz.ntmps20 Tryz.results20 (by simp) ?_
 have c34:HFun Tryz.prog 26 [.v (.string p),.v (.int .i64 5)] (fun h st=>h=.v (.int .i64 (okN (pOk p 5)))):=qNx p 5 sz (by omega)
 refine goA 3 ?_;push_cast
 cases ok:pOk p 5 with
|false =>
  have hE:dL t p u=10:=by simp [dL,ok]
  rw [ok,zEi] at c34;refine goA 4 ?_;push_cast;refine cVt qWp c34 (.cons (.v _) (.cons (.v _) .nil)) ?_;push_cast;refine goW 6 9000 44 3 rfl ?_;refine goA 1 ?_;push_cast;exact gX rfl (dD []) ⟨by rw [hE],by rw [gR,hE];rfl⟩
|true =>
 rw [ok,zEh] at c34;refine goA 7 ?_;push_cast;refine cVt qWp c34 (.cons (.v _) (.cons (.v _) .nil)) ?_;push_cast;refine goW 8 9000 44 3 rfl ?_;refine goL (fun x:Nat × List Ent=>⟨[(0,.lst false (aG t)),(1,.v (.string p)),(2,.lst false (aG u)),(8,.own 9000),(9,.v (.int .i64 x.1))],[(9000,rowE x.2)]⟩) (fun x=>x.1≤t.length∧x.2=(t.take x.1).filter fun e=>!bN e.1 p) (fun x=>t.length - x.1) [0,1,2,8,9] [9000] (0,[]) (by push_cast <;> rfl) ⟨g7 _,rfl⟩ ?_
 rintro ⟨i,out⟩ ⟨hi,ho⟩;simp only at hi ho
 by_cases hlt:i < t.length
 ·have hsz:=szt _ (c7 hlt)
  have hol:out.length≤i:=by
   rw [ho];refine l5 (p7 ..) ?_;rw [l7];omega
  have cu:=qKm t[i].1 p hsz sz
  refine goA 5 ?_;push_cast(disch:=omega)[yV,yU,yW hlt];refine cVt yD5 cu (.cons (.v _) (.cons (.v _) .nil)) ?_;push_cast
  cases hu:bN t[i].1 p with
 |false =>
   have e2:aG out ++ [[FV.v (.string t[i].1),.v (.int .i64 t[i].2.1),.v (.string t[i].2.2)]]=aG (out ++ [t[i]]):=mY out _ _ _
   refine goA 5 ?_;push_cast(disch:=omega)[yV,yU,yW hlt,e2];(repeat ((with_reducible constructor);focus first|omega|decide))
   refine ⟨(i + 1,out ++ [t[i]]),by push_cast <;> rfl,⟨hlt,?_⟩,by dsimp only;omega⟩
   dsimp only;rw [d7 hlt,bA7,← ho];simp [hu]
 |true =>
   refine goA 3 ?_;push_cast(disch:=omega);refine ⟨(i + 1,out),by push_cast <;> rfl,⟨hlt,?_⟩,by dsimp only;omega⟩
   dsimp only;rw [d7 hlt,bA7,← ho];simp [hu]
 ·have hne:i=t.length:=by omega
  subst hne;rw [t6] at ho
  have hol:out.length≤t.length:=by
   rw [ho];exact p7 ..
  have hL:qYi t p u=out ++ u:=by rw [qYi,← ho]
  have hmem:∀ e ∈ out,e.1.size≤1048576:=fun e he=>by
   rw [ho] at he;exact szt e (bBj.1 he).1
  clear ho;refine goA 5 ?_;push_cast(disch:=omega)[yV];refine goL (fun x:Nat=>⟨[(1,.v (.string p)),(2,.lst false (aG u)),(8,.own 9000),(10,.v (.int .i64 x))],[(9000,rowE (out ++ u.take x))]⟩) (fun x=>x≤u.length∧∀ j (h:j < u.length),j < x→bN u[j].1 p=true) (fun x=>u.length - x) [1,2,8,10] [9000] 0 (by push_cast[bDv,x4] <;> rfl) ⟨g7 _,fun j h hj=>by omega⟩ ?_
  rintro k ⟨hk,hb⟩
  by_cases hkl:k < u.length
  ·have hsz:=szu _ (c7 hkl)
   have cu:=qKm u[k].1 p hsz sz
   refine goA 5 ?_;push_cast(disch:=omega)[yV,yU,yW hkl];refine cVt yD5 cu (.cons (.v _) (.cons (.v _) .nil)) ?_;push_cast
   cases hu:bN u[k].1 p with
  |false =>
    have hE:dL t p u=1:=by
     have:(u.all fun e=>bN e.1 p)=false:=List.all_eq_false.2 ⟨u[k],c7 hkl,by rw [hu];decide⟩
     simp [dL,ok,this]
    refine goA 2 ?_;push_cast;refine goW 6 9100 44 3 rfl ?_;refine goA 1 ?_;push_cast;exact gX rfl (dD []) ⟨by rw [hE],by rw [gR,hE];rfl⟩
  |true =>
    have e2:aG (out ++ u.take k) ++ [[FV.v (.string u[k].1),.v (.int .i64 u[k].2.1),.v (.string u[k].2.2)]]=aG (out ++ u.take (k + 1)):=by
     rw [mY,u6];rw [d7 hkl]
    have hln:(out ++ u.take k).length≤2097152:=by rw [i8,l7];omega
    generalize out ++ u.take k=a at *
    refine goA 5 ?_;push_cast(disch:=omega)[yV,yU,yW hkl,e2];(repeat ((with_reducible constructor);focus first|omega|decide))
    refine ⟨k + 1,by push_cast <;> rfl,⟨hkl,fun j hj h=>?_⟩,by omega⟩
    by_cases e:j=k
    ·subst e;exact hu
    ·exact hb j hj (by omega)
  ·have hkk:k=u.length:=by omega
   subst hkk
   have hall:(u.all fun e=>bN e.1 p)=true:=o8.2 fun e he=>by
    obtain ⟨j,hj,rfl⟩:=p9 he;exact hb j hj hj
   have hE:dL t p u=cZ (iM (out ++ u)):=by
    rw [dL,b7 (by rw [ok];decide),b7 (by rw [hall];decide),hL]
   have hT:gR t p u=if cZ (iM (out ++ u))=0 then iM (out ++ u) else []:=by rw [gR,hE,hL]
   have hmem2:∀ e ∈ iM (out ++ u),e.1.size≤1048576:=fun e he=>by
    rcases m8.1 ((jS _).mem_iff.1 he) with h|h
    ·exact hmem e h
    ·exact szu e h
   have hsl:(iM (out ++ u)).length=(out ++ u).length:=(jS _).length_eq
   have hln:(out ++ u).length≤2097152:=by rw [i8];omega
   rw [hE,hT,t6];clear hE hT hL;generalize out ++ u=a at *
   have csort:=zNi a hln
   have c16:=qEc (iM a) (by omega) hmem2
   refine goA 3 ?_;push_cast(disch:=omega)[yV]
   by_cases h200:200 < a.length
   ·have h4:cZ (iM a)=4:=by unfold cZ;rw [g8 (by omega)]
    rw [h4];refine goA 4 ?_;push_cast(disch:=omega)[yV];refine goW 6 9100 44 3 rfl ?_;refine goA 1 ?_;push_cast;exact gX rfl (dD []) ⟨rfl,rfl⟩
   ·refine goA 5 ?_;push_cast(disch:=omega)[yV];refine cUt 480 yG0 csort (.cons (eH (yT _) rfl) .nil) ?_;push_cast;refine goP [8] [480] ?_;generalize iM a=s at *
    by_cases h0:cZ s=0
    ·rw [h0] at c16 ⊢;rw [g8 rfl];refine goA 5 ?_;push_cast;refine cVt qSf c16 (.cons (eH (yT _) rfl) .nil) ?_;push_cast;exact gX rfl (dD _) ⟨rfl,rfl⟩
    ·have hz:decide (cZ s=0)=false:=b9 h0
     rw [b7 h0];generalize cZ s=e at c16 hz;refine goA 4 ?_;push_cast;refine cVt qSf c16 (.cons (eH (yT _) rfl) .nil) ?_;push_cast[hz];refine cVt qSf c16 (.cons (eH (yT _) rfl) .nil) ?_;push_cast;refine goW 6 9100 44 3 rfl ?_;refine goA 1 ?_;push_cast;exact gX rfl (dD []) ⟨rfl,rfl⟩
end Go.Proofs.Y
namespace Go.Eng
open Go Go.RowKit
structure Leaf where
 v:Value
 ty:Nat
 sz:Nat
 n:Nat
 xs:List Value
def qHl (F:List Leaf) (b:Nat):Prop:=∃ f ∈ F,f.v.ownBlock=some b
structure Sub (c c1:Ctx) (F:List Leaf) (w:World):Prop where
 n0:c1.n0=c.n0
 B:c1.B=c.B
 kept:Kept c.T c.w0 c1.w0
 T:∀ b,c1.T b→c.w0.heap.size≤b∨c.T b
 A:∀ b,c.A0 b→c1.A0 b
 L:∀ b,qHl F b→c1.A0 b∧(c.w0.heap.size≤b∨c.T b)∧c.n0≤b
 own:∀ f ∈ F,Own w 0 f.ty f.sz f.v f.n f.xs
 nod:F.Pairwise fun f g=>∀ b,f.v.ownBlock=some b→g.v.ownBlock=some b→False
def InvF (c:Ctx) (F:List Leaf) (S:HS) (look:Nat→Option Value) (w:World):Prop:=∃ c1,Sub c c1 F w∧Inv c1 S look w
abbrev qBh:=Exit→List Leaf→HS→Prop
def FQ (c:Ctx) (Q:qBh):qBa:=fun e l w=>∃ F S,InvF c F S (lk l) w∧Q e F S
def HWF (P:Program) (N:Nat) (x:Code) (Q:qBh) (F:List Leaf) (S:HS):Prop:=∀ (c:Ctx) (l:Env) (w:World),InvF c F S (lk l) w→W P N x (FQ c Q) l w
def qV6 (K:List Leaf→HS→Prop) (Q:qBh):qBh
|.normal,F,S=>K F S
|e,F,S=>Q e F S
def qHt (id:Nat) (Q:qBh):qBh
|.exit id',F,S=>if id'=id then Q .normal F S else Q (.exit id') F S
|e,F,S=>Q e F S
section
variable {P:Program} {N:Nat} {c c1:Ctx} {F F':List Leaf} {S S':HS} {Q Q':qBh} {l:Env} {look look':Nat→Option Value} {w w':World} {ρ:Nat→Value} {xs:Nat→List Value}
theorem Sub.same (h:Sub c c1 F w) (hb:∀ b,qHl F b→w'.heap[b]?=w.heap[b]?):Sub c c1 F w' :=
 ⟨h.n0,h.B,h.kept,h.T,h.A,h.L,fun f hf=>(h.own f hf).block fun b hb'=>hb b ⟨f,hf,hb'⟩,h.nod⟩
theorem Sub.go (h:Sub c c1 F w) (I:Inv c1 S look w) (I':Inv c1 S' look' w'):Sub c c1 F w':=by
 obtain ⟨ρ,xs,G⟩:=I;obtain ⟨ρ',xs',G'⟩:=I';refine h.same fun b hb=>?_
 obtain ⟨h1,h2⟩:=G.a0 b (h.L b hb).1;rw [G'.kept.block b h1 h2,G.kept.block b h1 h2]
theorem InvF.of (I:Inv c S look w):InvF c [] S look w :=
 ⟨c,⟨rfl,rfl,Kept.refl _ _,fun b h=>.inr h,fun b h=>h,fun b ⟨f,hf,_⟩=>by simp at hf,fun f hf=>by simp at hf,List.Pairwise.nil⟩,I⟩
theorem Sub.good (h:Sub c c1 F w) (G:Good c1 S look w ρ xs) (ha:∀ b,c.A0 b→b < c.w0.heap.size∧¬ c.T b):Good c S look w ρ xs:=by
 have hA:∀ b,c.A ρ S.st b→c1.A ρ S.st b:=by
  rintro b (h0|h0)
  ·exact .inl (h.A b h0)
  ·exact .inr h0
 refine ⟨fun id r hr=>?_,G.apart,fun k x hk=>?_,h.kept.trans G.kept fun b hb ht=>?_,ha⟩
 ·have R:=(G.rows id r hr).up (a7 _) (fun _ _ _=>rfl) (fun b _=>hA b) (fun _ _=>rfl)
  refine R.ctx h.n0.symm h.B.symm fun b hb=>?_
  rcases (R.new b hb).1 with h1|h1
  ·have:=h.kept.size;exact .inl (by omega)
  ·exact h.T b h1
 ·obtain ⟨v,h1,h2⟩:=G.env k x hk;exact ⟨v,h1,h2.up (a7 _) (fun _ _ _=>rfl) (fun b _=>hA b) (by rw [h.n0];exact a7 _)⟩
 ·rcases h.T b ht with h1|h1
  ·omega
  ·exact h1
theorem HWF.mono {x:Code} (h:HWF P N x Q F S) (hq:∀ e F S,Q e F S→Q' e F S):HWF P N x Q' F S :=
 fun c l w I=>(h c l w I).mono fun e l' w' ⟨F',S',I',q⟩=>⟨F',S',I',hq e F' S' q⟩
theorem yEh {x:Code} (h:HW P N x (fun e S'=>Q e F S') S):HWF P N x Q F S:=fun c l w ⟨c1,hs,I⟩ =>
 (h c1 l w I).mono fun e l' w' ⟨S',I',q⟩=>⟨F,S',⟨c1,hs.go I I',I'⟩,q⟩
theorem bY {x:Code} (h:HW P N x (kb (fun e S'=>Q e F S') 0) S):HWF P N x Q F S:=yEh h
theorem bE {x y:Code} (h:HWF P N x (qV6 (fun F S=>HWF P N y Q F S) Q) F S):HWF P N (.seq x y) Q F S:=fun c l w I =>
 aF ((h c l w I).mono fun e l' w' ⟨F',S',I',q⟩=>by
  cases e with
 |normal=>exact q c l' w' I'
 |_=>exact ⟨F',S',I',q⟩)
theorem aW {id:Nat} {x:Code} (h:HWF P N x (qHt id Q) F S):HWF P N (.block id x) Q F S:=fun c l w I =>
 eC ((h c l w I).mono fun e l' w' ⟨F',S',I',q⟩=>by
  cases e with
 |exit id' =>
   simp only [qMi];simp only [qHt] at q;split
   ·rename_i e;rw [g8 e] at q;exact ⟨F',S',I',q⟩
   ·rename_i e;rw [b7 e] at q;exact ⟨F',S',I',q⟩
 |_=>exact ⟨F',S',I',q⟩)
theorem aY (h:Q .normal F S):HWF P N .skip Q F S:=fun c l w I=>aA ⟨F,S,I,h⟩
theorem qCr (h:Q .ret F S):HWF P N .ret Q F S:=fun c l w I=>dB ⟨F,S,I,h⟩
theorem wY {id:Nat} (h:Q (.exit id) F S):HWF P N (.exit id) Q F S:=fun c l w I=>bW ⟨F,S,I,h⟩
theorem aE {K:List Leaf→HS→Prop} (h:K F S):qV6 K Q .normal F S:=h
theorem mV {K:List Leaf→HS→Prop} (h:Q .ret F S):qV6 K Q .ret F S:=h
theorem iR {K:List Leaf→HS→Prop} {id:Nat} (h:Q (.exit id) F S):qV6 K Q (.exit id) F S:=h
theorem aH {id:Nat} (h:Q .normal F S):qHt id Q .normal F S:=h
theorem mW {id:Nat} (h:Q .ret F S):qHt id Q .ret F S:=h
theorem iS {id:Nat} (h:Q .normal F S):qHt id Q (.exit id) F S:=by simp only [qHt,bBm];exact h
theorem mX {id id':Nat} (hne:(id' == id)=false) (h:Q (.exit id') F S):qHt id Q (.exit id') F S:=by simp only [qHt];rw [b7 (by simpa using hne)];exact h
theorem kC {x:Code} (ks ids:List Nat) {S':HS} (he:S.keep ks ids=S') (h:HWF P N x Q F S'):HWF P N x Q F S:=fun c l w ⟨c1,hs,I⟩=>h c l w ⟨c1,hs,by rw [← he];exact I.keep ks ids⟩
theorem qW7 {ι:Type} {x:Code} (E:ι→HS) (L:ι→List Leaf) (I:ι→Prop) (μ:ι→Nat) (ks ids:List Nat) (i:ι) (h0:S.keep ks ids=E i) (hL:F=L i) (hI:I i)
  (round:∀ i,I i→HWF P N x (qV6 (fun F' S'=>∃ j,S'.keep ks ids=E j∧F'=L j∧I j∧μ j < μ i) Q) (L i) (E i)):HWF P N (.loop x) Q F S:=fun c l w Iv=>by
 subst hL;refine oU (ι:=ι × Env) (fun p=>p.2) (fun p w=>InvF c (L p.1) (E p.1) (lk p.2) w∧I p.1) (fun p=>μ p.1) ks (i,keep ks l) rfl ⟨?_,hI⟩ ?_
 ·obtain ⟨c1,hs,Iv⟩:=Iv;refine ⟨c1,hs,?_⟩;rw [← h0];exact (Iv.keep ks ids).agree fun k h hk=>oX (oM hk).1
 ·rintro ⟨j,l1⟩ w1 ⟨I1,hj⟩;refine (round j hj c l1 w1 I1).mono fun e l' w' ⟨F',S',I',q⟩=>?_
  cases e with
 |normal =>
   obtain ⟨j',hE,hF,hI',hμ⟩:=q;refine ⟨(j',keep ks l'),rfl,⟨?_,hI'⟩,hμ⟩;subst hF;obtain ⟨c1,hs,I'⟩:=I';refine ⟨c1,hs,?_⟩;rw [← hE];exact (I'.keep ks ids).agree fun k h hk=>oX (oM hk).1
 |_=>exact ⟨F',S',I',q⟩
theorem Sub.bury (hs:Sub c c1 F w) (G:Good c1 S look w ρ xs) {id ty sz:Nat} {els:List (List FV)} (hr:rlk S.st id=some (.sl true ty sz els)) :
  ∃ c2,Sub c c2 (F ++ [⟨ρ id,ty,sz,els.length,xs id⟩]) w∧Inv c2 (S.rest id (.v (ρ id))) look w:=by
 obtain ⟨o1,o2,o3⟩:=dC G hr
 have hn:=(G.rows id _ hr).new
 have hw1:=G.kept.size
 have hw0:=hs.kept.size
 let c2:Ctx:=⟨w,fun b=>(c1.w0.heap.size≤b∨c1.T b)∧¬ (ρ id).ownBlock=some b,fun b=>c1.A0 b∨(ρ id).ownBlock=some b,c1.n0,l5 c1.hn hw1,c1.B⟩
 have hTc:∀ b,c1.w0.heap.size≤b∨c1.T b→c.w0.heap.size≤b∨c.T b:=fun b h=>by
  rcases h with h|h
  ·exact .inl (by omega)
  ·exact hs.T b h
 have back:∀ i r,rlk (S.rest id (.v (ρ id))).st i=some r→∃ r0,i≠id∧rlk S.st i=some r0∧r=r0.sub id (.v (ρ id)):=by
  intro i r hi;simp only [HS.rest,vE] at hi
  by_cases e:i=id
  ·rw [g8 e] at hi;cases hi
  ·rw [b7 e] at hi
   cases hs:rlk S.st i with
  |none=>rw [hs] at hi;cases hi
  |some s0=>rw [hs] at hi;simp only [n8,a6] at hi;exact ⟨s0,e,rfl,hi.symm⟩
 have hA:∀ b,c2.A ρ (S.rest id (.v (ρ id))).st b→c1.A ρ S.st b:=by
  rintro b ((h0|h0)|⟨i,r,hi,hb⟩)
  ·exact .inl h0
  ·exact .inr ⟨id,_,hr,h0⟩
  ·obtain ⟨r0,-,h2,-⟩:=back i r hi;exact .inr ⟨i,r0,h2,hb⟩
 have tr:∀ v x,RepH w (c1.A ρ S.st) c1.n0 ρ v x→RepH w (c2.A ρ (S.rest id (.v (ρ id))).st) c1.n0 ρ v (HV.sub id (.v (ρ id)) x):=fun v x h=>(h.up (a7 _) (fun _ _ _=>rfl) (fun b _=>hA b) (a7 _)).sub (.v _)
 refine ⟨c2,⟨hs.n0,hs.B,hs.kept.trans G.kept fun b hb ht=>?_,fun b h=>hTc b h.1,fun b h=>.inl (hs.A b h),fun b hb=>?_,fun f hf=>?_,?_⟩,ρ,xs,fun i r hi=>?_,fun i j r s b hne hi hj=>?_,fun k x hk=>?_,Kept.refl _ _,fun b hb=>?_⟩
 ·rcases hs.T b ht with h|h
  ·omega
  ·exact h
 ·obtain ⟨f,hf,hfb⟩:=hb
  rcases m8.1 hf with hf|hf
  ·obtain ⟨a,b⟩:=hs.L b ⟨f,hf,hfb⟩;exact ⟨.inl a,b⟩
  ·rw [q6.1 hf] at hfb;exact ⟨.inr hfb,hTc b (hn b hfb).1,by have:=(hn b hfb).2 rfl;rw [← hs.n0];exact this⟩
 ·rcases m8.1 hf with hf|hf
  ·exact hs.own f hf
  ·rw [q6.1 hf];exact o1
 ·refine bD5.2 ⟨hs.nod,List.pairwise_singleton _ _,fun f hf g hg b h1 h2=>?_⟩
  rw [q6.1 hg] at h2;obtain ⟨a1,a2⟩:=G.a0 b (hs.L b ⟨f,hf,h1⟩).1
  rcases (hn b h2).1 with h|h
  ·omega
  ·exact a2 h
 ·obtain ⟨r0,hne,h0,rfl⟩:=back i r hi
  have R:=G.rows i r0 h0
  obtain ⟨f1,f2,f3,f4⟩:=Row.sub_facts id (.v (ρ id)) r0;refine ⟨by rw [f1,f2,f3];exact R.own,?_,fun b hb=>by rw [f4];exact ⟨.inr ⟨(R.new b hb).1,fun h=>G.apart i id r0 _ b hne h0 hr hb h⟩,(R.new b hb).2⟩⟩
  have:=R.rep
  cases r0 with
 |sl n' t' s' els' =>
   refine ⟨this.1,fun p k hp hk=>?_⟩
   obtain ⟨u,u1,u2,u3⟩:=this.2 p k hp hk;exact ⟨u,u1,u2,u3.up (a7 _) (fun _ _ _=>rfl) (fun b _=>hA b) (a7 _)⟩
 |bx n' t' cells =>
   refine ⟨this.1,fun k hk=>?_⟩
   rw [c8] at hk;obtain ⟨u,u1,u2,u3⟩:=this.2 k hk;refine ⟨u,u1,u2,?_⟩;rw [d9];exact tr _ _ u3
 |hl n' t' s' els' =>
   refine ⟨fun x hx=>?_,fun p k hp hk=>?_⟩
   ·obtain ⟨y,hy,rfl⟩:=m6.1 hx;rw [c8];exact this.1 y hy
   ·simp only [c8] at hp;simp only [d9,c8] at hk ⊢;obtain ⟨u,u1,u2,u3⟩:=this.2 p k hp hk;exact ⟨u,u1,u2,tr _ _ u3⟩
 ·obtain ⟨r0,h1,h2,-⟩:=back i r hi;obtain ⟨s0,h3,h4,-⟩:=back j s hj;exact G.apart i j r0 s0 b hne h2 h4
 ·simp only [HS.rest,qLq] at hk
  cases hx0:hlk S.env k with
 |none=>rw [hx0] at hk;cases hk
 |some x0 =>
   rw [hx0] at hk;simp only [n8,a6] at hk;subst hk;obtain ⟨v,h1,h2⟩:=G.env k x0 hx0;exact ⟨v,h1,tr v x0 h2⟩
 ·rcases hb with hb|hb
  ·obtain ⟨a1,a2⟩:=G.a0 b hb;refine ⟨by show b < w.heap.size;omega,fun h=>h.1.elim (fun h=>by omega) a2⟩
  ·exact ⟨G.lt hr hb,fun h=>h.2 hb⟩
theorem qW8 {x:Code} (id:Nat) {ty sz:Nat} {els:List (List FV)} (vals:List Value) (hr:rlk S.st id=some (.sl true ty sz els)) (hl:vals.length=els.length * sz) (he:∀ i k (hi:i < els.length) (hk:k < els[i].length) (hv:i * sz + k < vals.length),els[i][k]=.v vals[i * sz + k])
  (h:∀ q cap,HWF P N x Q (F ++ [⟨.slice q els.length cap,ty,sz,els.length,vals⟩]) (S.rest id (.v (.slice q els.length cap)))):HWF P N x Q F S:=fun c l w ⟨c1,hs,ρ,xs,G⟩=>by
 obtain ⟨c2,h1,h2⟩:=hs.bury G hr;obtain ⟨o1,o2,o3⟩:=dC G hr
 have hx:xs id=vals:=by
  refine bEy (by rw [o1.1,hl]) fun j h1 h2=>?_
  have hsz:0 < sz:=Nat.pos_of_ne_zero fun e=>by rw [hl,e] at h2;simp at h2
  have hi:j / sz < els.length:=bD6 (by rw [bBw];omega)
  have hk:j % sz < els[j / sz].length:=by rw [o2 _ (c7 hi)];exact Nat.mod_lt _ hsz
  have hj:j / sz * sz + j % sz=j:=by rw [bBw];exact Nat.div_add_mod j sz
  obtain ⟨u,u1,-,u3⟩:=o3 _ _ hi hk;rw [he _ _ hi hk (by omega)] at u3
  have hu:u=vals[j / sz * sz + j % sz]'(by omega):=by cases u3;rfl
  rw [hj,c9 h1] at u1
  have:=q9 u1
  rw [this,hu]
  congr 1
 rw [hx] at h1;obtain ⟨q,cap,hq⟩:=cW o1;rw [hq] at h1 h2;exact h q cap c l w ⟨c2,h1,h2⟩
end
inductive NamH:HV→Prop
|v (x:Value):NamH (.v x)
|own (id:Nat):NamH (.own id)
|vw (id sz o n:Nat):NamH (.vw id sz o n)
|ptr (id sz i k:Nat):NamH (.ptr id sz i k)
|agg {hs:List HV} (h:∀ x ∈ hs,NamH x):NamH (.agg hs)
|tup {hs:List HV} (h:∀ x ∈ hs,NamH x):NamH (.tup hs)
|junk:NamH .junk
def zTs:Row→Prop
|.sl nw _ _ els=>nw=true∧∀ x ∈ els,∀ f ∈ x,∃ y,f=FV.v y
|.bx nw _ cells=>nw=true∧∀ x ∈ cells,NamH x
|.hl nw _ _ els=>nw=true∧∀ x ∈ els,∀ f ∈ x,NamH f
section
variable {P:Program} {N:Nat} {c c1:Ctx} {F F':List Leaf} {S S':HS} {Q Q':qBh} {l:Env} {look look':Nat→Option Value} {w w':World} {ρ ρ':Nat→Value} {xs xs':Nat→List Value} {A A':Nat→Prop} {n0 n1:Nat}
theorem RepH.namH {v:Value} {x:HV} (h:RepH w A n0 ρ v x) (hp:NamH x):RepH w A' n1 ρ v x:=by
 induction h with
|v x=>exact .v x
|lst h=>cases hp
|own id h1=>exact .own id h1
|vw sz off m h a b d x e=>exact .vw sz off m h a b d x e
|ptr sz i k h=>exact .ptr sz i k h
|elt h h1 h2=>cases hp
|agg hn h1 h ih=>cases hp with|agg hf=>exact .agg hn h1 fun j a b=>ih j a b (hf _ (c7 b))
|tup hn h ih=>cases hp with|tup hf=>exact .tup hn fun j a b=>ih j a b (hf _ (c7 b))
|junk v=>exact .junk v
structure Made (w w':World) (st:aC) (F:List Leaf) (ρ:Nat→Value) (xs:Nat→List Value):Prop where
 rows:∀ i r,rlk st i=some r→RowOk w' (fun _=>True) (cx w (fun _=>False) (fun _=>False)) ρ i r (xs i)
 apart:∀ i j r s b,i≠j→rlk st i=some r→rlk st j=some s→(ρ i).ownBlock=some b→(ρ j).ownBlock=some b→False
 own:∀ f ∈ F,Own w' 0 f.ty f.sz f.v f.n f.xs
 new:∀ b,qHl F b→w.heap.size≤b∧b < w'.heap.size
 nod:F.Pairwise fun f g=>∀ b,f.v.ownBlock=some b→g.v.ownBlock=some b→False
 sep:∀ b,qHl F b→¬ fR ρ st b
def HFunF (P:Program) (f:FuncId) (args:List HV) (Q:HV→aC→List Leaf→Prop):Prop :=
 ∀ (w:World) (vs:List Value),pX w (fun _=>False) w.heap.size (fun _=>undef) vs args →
  Calls P f vs.toArray w (Ret fun v w'=>Below w.heap.size w w'∧∃ h st F ρ xs,(∀ i r,rlk st i=some r→i < 8)∧Q h st F∧Made w w' st F ρ xs∧RepH w' (fun _=>True) w.heap.size ρ v h)
def zT7 (F:List Leaf) (S:HS) (h:HV) (Q:HV→aC→List Leaf→Prop):Prop :=
 ∃ ids,ids.length≤8∧dup ids=false∧NamH h∧(∀ id ∈ ids,∀ r,rlk S.st id=some r→zTs r)∧Q (h.ren (pos ids)) (gD (pos ids) S.st 0 ids) F
def zSm (P:Program) (rs:List ResultVar) (Q:HV→aC→List Leaf→Prop):qBh
|.normal,F,S=>mB P S rs fun hs=>zT7 F S (qF hs) Q
|.ret,F,S=>mB P S rs fun hs=>zT7 F S (qF hs) Q
|_,_,_=>False
theorem zLr {w0:World} (hs:Sub (cx w0 (fun _=>False) (fun _=>False)) c1 F w) (G:Good c1 S look w ρ xs) {v:Value} {h:HV} (hr:RepH w (c1.A ρ S.st) c1.n0 ρ v h) {Q:HV→aC→List Leaf→Prop} (R:zT7 F S h Q) :
  Below w0.heap.size w0 w∧∃ h st F ρ xs,(∀ i r,rlk st i=some r→i < 8)∧Q h st F∧Made w0 w st F ρ xs∧RepH w (fun _=>True) w0.heap.size ρ v h:=by
 obtain ⟨ids,hlen,hd,hf,hfr,q⟩:=R
 have hm:∀ i j,pos ids i=some j→ρ (ids.getD j 0)=ρ i:=fun i j h=>by rw [b6,lT h];rfl
 have kept:Kept (fun _=>False) w0 w:=hs.kept.trans G.kept fun b hb ht=>by
  rcases hs.T b ht with h|h
  ·exact absurd (show w0.heap.size≤b from h) (by omega)
  ·exact h
 have newB:∀ id r b,rlk S.st id=some r→(ρ id).ownBlock=some b→w0.heap.size≤b:=fun id r b h1 h2=>by
  rcases ((G.rows id r h1).new b h2).1 with h|h
  ·have:w0.heap.size≤c1.w0.heap.size:=hs.kept.size
   omega
  ·rcases hs.T b h with h|h
   ·exact h
   ·exact h.elim
 refine ⟨kept.below (fun _ _ h=>h),h.ren (pos ids),_,F,fun j=>ρ (ids.getD j 0),fun j=>xs (ids.getD j 0),fun i r hi=>?_,q,⟨fun i r hi=>?_,fun i j r s b hne hi hj hbi hbj=>?_,hs.own,fun b hb=>?_,hs.nod,fun b hb=>?_⟩,(hr.namH hf).ren hm⟩
 ·obtain ⟨_,id,r0,h2,-⟩:=cU hi
  have:=(i5.1 h2).1
  omega
 ·obtain ⟨_,id,r0,h2,h3,rfl⟩:=cU hi;rw [t8] at h2
  have e:ids.getD i 0=id:=by rw [b6,h2];rfl
  have R0:=G.rows id r0 h3
  have F0:=hfr id (v6 h2) r0 h3
  obtain ⟨f1,f2,f3,f4⟩:=Row.ren_facts (pos ids) r0;refine ⟨by rw [f1,f2,f3];(try dsimp only);rw [e];exact R0.own,?_,fun b hb=>?_⟩
  ·have:=R0.rep
   cases r0 with
  |sl nw ty sz els =>
    refine ⟨this.1,fun a k ha hk=>?_⟩
    obtain ⟨u,u1,u2,u3⟩:=this.2 a k ha hk
    try dsimp only
    rw [e];refine ⟨u,u1,u2,?_⟩;obtain ⟨y,hy⟩:=F0.2 _ (c7 ha) _ (c7 hk);rw [hy] at u3 ⊢
    cases u3
    exact .v _
  |bx nw ty cells =>
    obtain ⟨g,g1,g2⟩:=this.1;refine ⟨⟨g,by (try dsimp only);rw [e];exact g1,fun h=>by rw [F0.1] at h;cases h⟩,fun k hk=>?_⟩
    rw [c8] at hk;obtain ⟨u,u1,u2,u3⟩:=this.2 k hk
    try dsimp only
    rw [e];refine ⟨u,u1,u2,?_⟩;rw [d9];exact (u3.namH (F0.2 _ (c7 hk))).ren hm
  |hl nw ty sz els =>
    refine ⟨fun x hx=>?_,fun a k ha hk=>?_⟩
    ·obtain ⟨y,hy,rfl⟩:=m6.1 hx;rw [c8];exact this.1 y hy
    ·simp only [c8] at ha;simp only [d9,c8] at hk ⊢;obtain ⟨u,u1,u2,u3⟩:=this.2 a k ha hk
     try dsimp only
     rw [e];exact ⟨u,u1,u2,(u3.namH (F0.2 _ (c7 ha) _ (c7 hk))).ren hm⟩
  ·try dsimp only at hb
   rw [e] at hb;exact ⟨.inl (newB id r0 b h3 hb),fun _=>newB id r0 b h3 hb⟩
 ·obtain ⟨_,a,r0,h2,h3,-⟩:=cU hi;obtain ⟨_,d,s0,h4,h5,-⟩:=cU hj;rw [t8] at h2 h4
  try dsimp only at hbi hbj
  rw [b6,h2,Option.getD_some] at hbi;rw [b6,h4,Option.getD_some] at hbj;exact G.apart a d r0 s0 b (fun e=>hne (by subst e;exact xV hd h2 h4)) h3 h5 hbi hbj
 ·obtain ⟨a1,a2,a3⟩:=hs.L b hb
  have hlt:=(G.a0 b a1).1
  have:=G.kept.size
  refine ⟨?_,by omega⟩
  rcases a2 with h|h
  ·exact h
  ·exact h.elim
 ·rintro ⟨i,s,hi,hb'⟩;obtain ⟨_,id,r0,h2,h3,-⟩:=cU hi;rw [t8] at h2
  try dsimp only at hb'
  rw [b6,h2,Option.getD_some] at hb';obtain ⟨a1,a2⟩:=G.a0 b (hs.L b hb).1
  rcases ((G.rows id r0 h3).new b hb').1 with h|h
  ·omega
  ·exact a2 h
theorem yGj {f:FuncId} {fn:Func} {x:Code} {args:List HV} {rs:Array ResultVar} {Q:HV→aC→List Leaf→Prop} (hf:P.funcs[f]?=some fn) (hb:fn.body=some x) (hN:fn.ntmps=N) (hrs:fn.results=rs) (hle:args.length≤N)
  (h:HWF P N x (zSm P rs.toList Q) [] ⟨nD 0 args,[]⟩):HFunF P f args Q:=fun w vs R=>by
 refine nQ hf hb hN hrs (by rw [R.1];exact hle) ?_
 have I:Inv (cx w (fun _=>False) (fun _=>False)) ⟨nD 0 args,[]⟩ (lk (nE 0 vs)) w:=by
  refine ⟨fun _=>undef,fun _=>[],fun id r hr=>by simp [rlk] at hr,fun i j r s b hne hi=>by simp [rlk] at hi,fun k h hk=>?_,Kept.refl _ _,fun b hb=>hb.elim⟩
  obtain ⟨-,h2⟩:=oT args 0 k h hk;rw [t8] at h2;obtain ⟨hlt,rfl⟩:=i5.1 h2
  have hlt':k < vs.length:=by rw [R.1];exact hlt
  refine ⟨vs[k],sQ vs 0 k _ (g7 _) (by simp [hlt']),(R.2 k hlt' hlt).up (a7 _) (fun _ _ _=>rfl) (fun b _ hA=>?_) (a7 _)⟩
  rcases hA with h0|⟨i,r,hi,-⟩
  ·exact h0
  ·simp [rlk] at hi
 refine (h _ _ _ (InvF.of I)).mono fun e l' w' ⟨F',S',⟨c1,hs,ρ,xs,G⟩,q⟩=>?_
 have fin:mB P S' rs.toList (fun hs=>zT7 F' S' (qF hs) Q)→jE P l' w' rs.toList fun vs=>Below w.heap.size w w'∧∃ h st F ρ xs,(∀ i r,rlk st i=some r→i < 8)∧Q h st F∧Made w w' st F ρ xs∧RepH w' (fun _=>True) w.heap.size ρ (tup vs) h:=fun hr =>
  resH_resE.resE_mono (resH_resE G _ _ hr) fun vs ⟨hs',hR,hv⟩=>zLr hs G (vV hv) hR
 cases e with
|normal=>exact fin q
|ret=>exact fin q
|_=>exact q.elim
theorem Good.addsF (hs:Sub c c1 F w) (G:Good c1 S look w ρ xs) (B:Below w.heap.size w w') {st:aC} (h8:∀ i r,rlk st i=some r→i < 8) {F1:List Leaf} {ρ':Nat→Value} {xs':Nat→List Value} (M:Made w w' st F1 ρ' xs') {v:Value} {h:HV}
  (hr:RepH w' (fun _=>True) w.heap.size ρ' v h) (n:Nat):∃ c2,Sub c c2 (F ++ F1) w'∧InvV c2 (S.adds n st) (h.ren (sh n)) v look w':=by
 have hbase:∀ i,cD n i=true→rlk (dN (cD n) S.st) i=none:=fun i hi=>by rw [eK,hi];rfl
 have hw0:c1.n0≤w.heap.size:=l5 c1.hn G.kept.size
 have hwB:=B.size
 let c2:Ctx:=⟨w',fun b=>(c1.w0.heap.size≤b∨c1.T b)∧¬ qHl F1 b,fun b=>c1.A0 b∨qHl F1 b,c1.n0,l5 hw0 B.size,c1.B⟩
 have hw1:=G.kept.size
 let ρ2:Nat→Value:=fun i=>bif cD n i then ρ' (i - n) else ρ i
 have q1:∀ i,cD n i=false→ρ2 i=ρ i:=fun i hi=>by show (bif cD n i then _ else _)=_;rw [hi];rfl
 have q2:∀ i j,sh n i=some j→ρ2 j=ρ' i:=fun i j hj=>by
  unfold sh at hj
  cases e:Nat.blt i 8 with
 |false=>rw [e] at hj;cases hj
 |true =>
   rw [e] at hj;simp only [p8,a6] at hj;subst hj
   have:i < 8:=by simpa [bCt] using e
   show (bif cD n (n + i) then _ else _)=_
   rw [eM.2 ⟨by omega,by omega⟩,p8,show n + i - n=i by omega]
 have cases2:∀ i r,rlk (S.adds n st).st i=some r→(∃ s,cD n i=true∧rlk st (i - n)=some s∧r=s.ren (sh n)∧ρ2 i=ρ' (i - n))∨(∃ s,cD n i=false∧rlk S.st i=some s∧r=s.kill (cD n)∧ρ2 i=ρ i):=by
  intro i r hi
  rcases qBw hbase h8 hi with ⟨s,a1,a2,a3⟩|⟨a1,a2⟩
  ·left
   have:=h8 _ _ a2
   have e:cD n i=true:=eM.2 ⟨a1,by omega⟩
   exact ⟨s,e,a2,a3,by show (bif cD n i then _ else _)=_;rw [e];rfl⟩
  ·right
   rw [eK,a1,o7] at a2
   cases hs:rlk S.st i with
  |none=>rw [hs] at a2;cases a2
  |some s=>rw [hs] at a2;simp only [n8,a6] at a2;exact ⟨s,a1,rfl,a2.symm,q1 i a1⟩
 have new:∀ i s b,rlk st i=some s→(ρ' i).ownBlock=some b→w.heap.size≤b:=fun i s b hs hb=>by
  rcases ((M.rows i s hs).new b hb).1 with h|h
  ·exact h
  ·exact h.elim
 have hA1:∀ b,b < w.heap.size→c2.A ρ2 (S.adds n st).st b→c1.A ρ S.st b:=by
  rintro b hlt ((h0|h0)|⟨i,r,hi,hb⟩)
  ·exact .inl h0
  ·have:=(M.new b h0).1;omega
  ·rcases cases2 i r hi with ⟨s,_,a2,_,a4⟩|⟨s,_,a2,_,a4⟩
   ·rw [a4] at hb;have:=new _ s b a2 hb;omega
   ·rw [a4] at hb;exact .inr ⟨i,s,a2,hb⟩
 have tr1:∀ v x,RepH w (c1.A ρ S.st) c1.n0 ρ v x→RepH w' (c2.A ρ2 (S.adds n st).st) c1.n0 ρ2 v (x.kill (cD n)):=fun v x hx=>(hx.up B.size (fun b hlt _=>B.block b hlt) hA1 (a7 _)).kill q1
 have tr2:∀ v x,RepH w' (fun _=>True) w.heap.size ρ' v x→RepH w' (c2.A ρ2 (S.adds n st).st) c1.n0 ρ2 v (x.ren (sh n)):=fun v x hx=>(hx.up (a7 _) (fun _ _ _=>rfl) (fun b _ _=>trivial) hw0).ren q2
 have newS:∀ i s b,rlk S.st i=some s→(ρ i).ownBlock=some b→(c1.w0.heap.size≤b∨c1.T b)∧¬ qHl F1 b:=fun i s b h1 h2=>⟨((G.rows i s h1).new b h2).1,fun hl=>by have:=(M.new b hl).1;have:=G.lt h1 h2;omega⟩
 have blk:∀ b,qHl F b→w'.heap[b]?=w.heap[b]?:=fun b hb=>by
  have:=(G.a0 b (hs.L b hb).1).1
  exact B.block b (by omega)
 refine ⟨c2,⟨hs.n0,hs.B,(hs.kept.trans G.kept fun b hb ht=>?_).trans (T':=fun _=>False) ⟨B.os,B.tape,B.output,B.size,fun b hlt _=>B.block b hlt⟩ (fun _ _ h=>h.elim),fun b h=>?_,fun b h=>.inl (hs.A b h),fun b hb=>?_,fun f hf=>?_,?_⟩,?_⟩
 ·rcases hs.T b ht with h|h
  ·omega
  ·exact h
 ·rcases h.1 with h|h
  ·have:=hs.kept.size;exact .inl (by omega)
  ·exact hs.T b h
 ·obtain ⟨f,hf,hfb⟩:=hb
  rcases m8.1 hf with hf|hf
  ·obtain ⟨a,b⟩:=hs.L b ⟨f,hf,hfb⟩;exact ⟨.inl a,b⟩
  ·have:=(M.new b ⟨f,hf,hfb⟩).1
   have:=hs.kept.size
   exact ⟨.inr ⟨f,hf,hfb⟩,.inl (by omega),by rw [← hs.n0];omega⟩
 ·rcases m8.1 hf with hf|hf
  ·exact (hs.own f hf).block fun b hb=>blk b ⟨f,hf,hb⟩
  ·exact M.own f hf
 ·refine bD5.2 ⟨hs.nod,M.nod,fun f hf g hg b h1 h2=>?_⟩
  have:=(G.a0 b (hs.L b ⟨f,hf,h1⟩).1).1
  have:=(M.new b ⟨g,hg,h2⟩).1
  omega
 refine ⟨ρ2,fun i=>bif cD n i then xs' (i - n) else xs i,⟨fun i r hi=>?_,fun i j r s b hne hi hj hbi hbj=>?_,fun k x hk=>?_,Kept.refl _ _,fun b hb=>?_⟩,tr2 _ _ hr⟩
 ·rcases cases2 i r hi with ⟨s,a1,a2,rfl,a4⟩|⟨s,a1,a2,rfl,a4⟩
  ·have R:=M.rows _ s a2
   obtain ⟨f1,f2,f3,f4⟩:=Row.ren_facts (sh n) s;rw [a1,p8];refine ⟨by rw [f1,f2,f3,a4];exact R.own,?_,fun b hb=>?_⟩
   ·have:=R.rep
    cases s with
   |sl nw ty sz els =>
     refine ⟨this.1,fun p k hp hk=>?_⟩
     obtain ⟨u,u1,u2,u3⟩:=this.2 p k hp hk;exact ⟨u,u1,u2,u3.up (a7 _) (fun _ _ _=>rfl) (fun b _ _=>trivial) hw0⟩
   |bx nw ty cells =>
     refine ⟨by obtain ⟨g,e,hT⟩:=this.1;exact ⟨g,by rw [a4];exact e,fun h=>(hT h).elim⟩,fun k hk=>?_⟩
     rw [c8] at hk;obtain ⟨u,u1,u2,u3⟩:=this.2 k hk;refine ⟨u,u1,u2,?_⟩;rw [d9];exact tr2 _ _ u3
   |hl nw ty sz els =>
     refine ⟨fun x hx=>?_,fun p k hp hk=>?_⟩
     ·obtain ⟨y,hy,rfl⟩:=m6.1 hx;rw [c8];exact this.1 y hy
     ·simp only [c8] at hp;simp only [d9,c8] at hk ⊢;obtain ⟨u,u1,u2,u3⟩:=this.2 p k hp hk;exact ⟨u,u1,u2,tr2 _ _ u3⟩
   ·rw [a4] at hb
    have:=new _ s b a2 hb
    exact ⟨.inr ⟨.inl (by omega),fun hl=>M.sep b hl ⟨_,s,a2,hb⟩⟩,fun _=>by show c1.n0≤b;omega⟩
  ·rw [a1,o7]
   have R:=(G.rows i s a2).up B.size (fun b hlt _=>B.block b hlt) hA1 (fun b hb=>B.block b (G.lt a2 hb))
   exact ((R.ctx (c':=c2) rfl rfl fun b hb=>.inr (newS i s b a2 hb)).kill q1 a1)
 ·rcases cases2 i r hi with ⟨s1,a1,a2,-,a4⟩|⟨s1,a1,a2,-,a4⟩ <;> rcases cases2 j s hj with ⟨s2,b1,b2,-,b4⟩|⟨s2,b1,b2,-,b4⟩
  ·rw [a4] at hbi;rw [b4] at hbj
   have e1:=eM.1 a1
   have e2:=eM.1 b1
   exact M.apart _ _ s1 s2 b (by omega) a2 b2 hbi hbj
  ·rw [a4] at hbi;rw [b4] at hbj
   have:=new _ s1 b a2 hbi
   have:=G.lt b2 hbj
   omega
  ·rw [a4] at hbi;rw [b4] at hbj
   have:=new _ s2 b b2 hbj
   have:=G.lt a2 hbi
   omega
  ·rw [a4] at hbi;rw [b4] at hbj;exact G.apart i j s1 s2 b hne a2 b2 hbi hbj
 ·simp only [HS.adds,jD] at hk
  cases hx:hlk S.env k with
 |none=>rw [hx] at hk;cases hk
 |some x0 =>
   rw [hx] at hk;simp only [n8,a6] at hk;subst hk;obtain ⟨v,h1,h2⟩:=G.env k x0 hx;exact ⟨v,h1,tr1 v x0 h2⟩
 ·rcases hb with hb|hb
  ·obtain ⟨a1,a2⟩:=G.a0 b hb;exact ⟨by show b < w'.heap.size;omega,fun h=>h.1.elim (fun h=>by omega) a2⟩
  ·exact ⟨(M.new b hb).2,fun h=>h.2 hb⟩
def wZ (P:Program) (N:Nat) (ds:List (Option Nat)) (K:List Leaf→HS→Prop) (ops:List Oper) (F:List Leaf) (S:HS):Prop :=
 ∀ (c:Ctx) (l:Env) (w:World),InvF c F S (lk l) w→VC P N ds (fun l' w'=>∃ F' S',InvF c F' S' (lk l') w'∧K F' S') ops l w
theorem qFn {id:Nat} {ops:List Oper} (h:∀ K:List Leaf→HS→Prop,(∀ F' S',Q .normal F' S'→K F' S')→wZ P N (cJ ops) K ops F S):HWF P N (.region id ops.toArray false) Q F S:=fun c l w I =>
 qA9 fun K hK=>zJ.V.mono (h (Q .normal) (fun _ _ h=>h) c l w I) fun l' w' h=>hK l' w' h
theorem pA {ds:List (Option Nat)} {K:List Leaf→HS→Prop} {ops:List Oper} (h:HV2 P N ds (K F) ops S):wZ P N ds K ops F S:=fun c l w ⟨c1,hs,I⟩ =>
 zJ.V.mono (uX (c:=c1) ops S l w h I) fun l' w' ⟨S',I',k⟩=>⟨F,S',⟨c1,hs.go I I',I'⟩,k⟩
theorem zT2 {ds:List (Option Nat)} {K:List Leaf→HS→Prop} {a b:List Oper} (h:wZ P N ds (fun F S=>wZ P N ds K b F S) a F S):wZ P N ds K (a ++ b) F S:=fun c l w I =>
 qCq (zJ.V.mono (h c l w I) fun l' w' ⟨F',S',I',k⟩=>k c l' w' I')
theorem qBd (n:Nat) {ds:List (Option Nat)} {K:List Leaf→HS→Prop} {ops:List Oper} (h:wZ P N ds (fun F S=>wZ P N ds K (ops.drop n) F S) (ops.take n) F S):wZ P N ds K ops F S:=by
 have:=zT2 h
 rwa [x5] at this
def zCt:GOut→Bool
|.yes=>true
|.ask _ b want=>b == want
|_=>false
theorem qJp (I:Inv c S (lk l) w) {ds:List (Option Nat)} {g:Option (Nat × Bool)} {k:Bool→Prop} (h:zCt (hG S.env ds g)=true) (hk:k true):gd l ds g k:=by
 cases hg:hG S.env ds g with
|yes=>exact qGp hg hk
|no=>rw [hg] at h;cases h
|ask d b want=>rw [hg] at h;exact (uU I hg (by rw [show (b == want)=true from h];exact hk)).1
|bad=>rw [hg] at h;cases h
theorem qP9 {ds:List (Option Nat)} {K:List Leaf→HS→Prop} {o:Oper} {rest:List Oper} {f:FuncId} {args args':List HV} {R:HV→aC→List Leaf→Prop} {x:Operand} {ay:Array Operand} {ats:Array TypeId} (n:Nat) (hc:aB P f=true) (H:HFunF P f args' R)
  (hop:o.op=.call ⟨.value x,ay,ats⟩) (hg:zCt (hG S.env ds o.guard)=true) (hd:eJ N o.dst=true) (hfn:fnH (hev S.env x)=some f) (has:jF S.env ay.toList=some args) (hl:Lends S.st args args')
  (h:∀ h st F1,R h st F1→wZ P N ds K rest (F ++ F1) ((S.adds n st).set o.dst (h.ren (sh n)))):wZ P N ds K (o :: rest) F S:=fun c l w ⟨c1,hs,ρ,xs,G⟩=>by
 rw [VC];refine qJp ⟨ρ,xs,G⟩ hg ⟨eQ hd,?_⟩;obtain ⟨vs,e1,e2,e3⟩:=G.evs (bM _ _) has;rw [hop];unfold bH;simp only [qDr,aP,bZ,e1,G.fn (bM _ _) hfn];refine ⟨hc,Ret.mono (H w vs (mR G ⟨e2,e3⟩ hl)) fun v w' ⟨B,h',st,F1,ρ',xs',h8,q,M,hr⟩=>?_⟩
 obtain ⟨c2,hs2,I2⟩:=Good.addsF hs G B h8 M hr n;exact h h' st F1 q c _ w' ⟨c2,hs2,I2.set o.dst⟩
def LendF (F:List Leaf) (S:HS) (a a':HV):Prop:=∀ (c1:Ctx) (look:Nat→Option Value) (w:World) (ρ:Nat→Value) (xs:Nat→List Value) (v:Value),Good c1 S look w ρ xs→(∀ f ∈ F,Own w 0 f.ty f.sz f.v f.n f.xs)→RepH w (c1.A ρ S.st) c1.n0 ρ v a→RepH w (fun _=>False) w.heap.size (fun _=>undef) v a'
theorem LendF.of {a a':HV} (h:Lend S.st a a'):LendF F S a a':=fun c1 look w ρ xs v G _ hr=>qEl G hr h
inductive LendsF (F:List Leaf) (S:HS):List HV→List HV→Prop
|nil:LendsF F S [] []
|cons {h h':HV} {r r':List HV} (a:LendF F S h h') (b:LendsF F S r r'):LendsF F S (h :: r) (h' :: r')
theorem qZx (G:Good c S look w ρ xs) (hF:∀ f ∈ F,Own w 0 f.ty f.sz f.v f.n f.xs) {hs hs':List HV} {vs:List Value} (R:pX w (c.A ρ S.st) c.n0 ρ vs hs) (L:LendsF F S hs hs'):pX w (fun _=>False) w.heap.size (fun _=>undef) vs hs':=by
 induction L generalizing vs with
|nil=>exact ⟨R.1,fun i a b=>absurd b (by simp)⟩
|cons a b ih =>
  rename_i h h' r r'
  match vs,R.1 with
 |v :: us,e =>
   have R':pX w (c.A ρ S.st) c.n0 ρ us r:=⟨by simpa using e,fun i p q=>by
    have:=R.2 (i + 1) (by simpa using p) (by simpa using q)
    simpa using this⟩
   obtain ⟨i1,i2⟩:=ih R';refine ⟨by simp [i1],fun i p q=>?_⟩
   cases i with
  |zero=>exact a c look w ρ xs v G hF (R.2 0 (by simp) (by simp))
  |succ i=>exact i2 i (by simpa using p) (by simpa using q)
end
def Rd (w:World) (v:Value) (xs:List Value):Prop:=∀ b,v.ownBlock=some b→∀ (p:Nat) (u:Value),xs[p]?=some u→w.cell? ⟨b,p,none⟩=some u
def Own.rd {w:World} {v:Value} {xs:List Value} {base te sz n:Nat} (h:Own w base te sz v n xs):Rd w v xs:=by
 intro b hb p u hu
 have hl:=h.1
 have hh:=h
 rcases h.2 with ⟨rfl,_⟩|⟨g,cap,cur,rfl,_⟩
 ·cases hb
 ·cases hb
  rw [bA4 hh p (by have:=(i5.1 hu).1;omega),hu]
section
variable {w w' w0:World} {v x x':Value} {xs ys:List Value} {base te sz n k:Nat}
theorem Rd.pre (h:Rd w v (xs ++ ys)):Rd w v xs:=fun b hb p u hu=>h b hb p u (by rw [bAk (i5.1 hu).1];exact hu)
theorem Rd.block (h:Rd w v xs) (hb:∀ b,v.ownBlock=some b→w'.heap[b]?=w.heap[b]?):Rd w' v xs:=fun b hv p u hu=>by
 rw [gU (hb b hv)];exact h b hv p u hu
def Tag (w:World) (ow:Nat→Nat) (v:Value) (t:Nat):Prop:=∀ b,v.ownBlock=some b→ow b=t∧b < w.heap.size
theorem qMl {P:Program} {t ty e sz by':Nat} {z:Array Value} {v:Value} {n:Nat} {l:List Value} (hse:jT P t=some (e,sz,by',z)) (hz:z.size=sz) (hsz:0 < sz) (hby0:0 < by') (h:Own w 0 e sz v n l)
  {x:Value} {m:Nat} {news:List Value} (hx:sR w x m news) (hl:news.length=m * sz) (h1:∀ u ∈ news,u.oneCell'=true) (hby:(n + m) * by'≤140737488355328) :
  ∃ v' w',(Builtin.append_ #[t,t] ty #[v,x]).run P w=.ok v' w'∧Own w' 0 e sz v' (n + m) (l ++ news)∧w.grownBy w' v.ownBlock∧(∀ b,v'.ownBlock=some b→w.heap.size≤b∨v.ownBlock=some b)∧(v'.ownBlock=v.ownBlock∨Below w.heap.size w w'):=by
 obtain ⟨v',w',r1,r2,r3,r4,r5⟩:=kN (P:=P) (ty:=ty) hse hz hsz hby0 h hx hl h1 hby;refine ⟨v',w',r1,r2,r3,r5,?_⟩
 have h63:n + m≤maxLen:=by
  have:n + m≤(n + m) * by':=Nat.le_mul_of_pos_right _ hby0
  simp only [maxLen];omega
 obtain ⟨hu,i,u,hi,h2,h3,h4,h5⟩:=oB hse
 rcases hx with ⟨a,cp,rfl,hnews⟩|⟨rfl,rfl,rfl⟩
 ·subst h2;subst h3
  rcases h.2 with ⟨rfl,rfl⟩|⟨g,cap,cur,rfl,hbg,hg,hnc,hcm,hcs,htake⟩
  ·right
   exact ⟨r3.os,r3.tape,r3.output,r3.size,fun b hb=>r3.block b hb (by simp [Value.ownBlock])⟩
  ·by_cases hroom:n + m≤cap
   ·have hfit:n * i.size + news.length≤cur.size:=by rw [hl,hcs,← x6];exact m5 _ hroom
    have hr:=run_append_room (P:=P) w t ty e i hu hi g n cap cur hg a m cp news hl hnews h1 hroom hfit
    rw [hr] at r1;simp only [bBb] at r1;rw [← r1.1];exact .inl rfl
   ·have holds:∀ j y,l[j]?=some y→w.cell? ((⟨g,0,none⟩:Addr).add j)=some y:=h.cells (g:=g) rfl
    have hr:=run_append_grow (P:=P) w t ty e i u hu hi h4 ⟨g,0,none⟩ n cap l h.1 holds a m cp news hl hnews (by omega) (by simp only [maxLen] at h63;omega) (growslice_fits (by omega) hby)
    rw [hr] at r1;simp only [bBb] at r1
    right
    rw [← r1.2]
    have:Below w.heap.size w w.drew:=⟨rfl,rfl,rfl,a7 _,fun _ _=>rfl⟩
    exact this.alloc (a7 _) _
 ·have hr:=run_append_owned_none (P:=P) (w:=w) 0 t ty e i sz hu hi v n l h
  rw [hr] at r1;simp only [bBb] at r1;exact .inl (by rw [← r1.1])
structure Marked (w0 w:World) (T:Nat→Prop) (te sz n:Nat) (V:Nat→Value) (m:Nat→Nat) (Y:Nat→List Value):Prop where
 kept:Kept T w0 w
 own:∀ j,j < n→Own w 0 te sz (V j) (m j) (Y j)
def qMs {α:Type} (f:Nat→α) (i:Nat) (x:α):Nat→α:=fun j=>if j=i then x else f j
theorem uY {α:Type} (f:Nat→α) (i:Nat) (x:α):qMs f i x i=x:=by simp [qMs]
theorem qD2 {α:Type} (f:Nat→α) (i:Nat) (x:α) (j:Nat) (h:j≠i):qMs f i x j=f j:=by simp [qMs,h]
variable {T:Nat→Prop} {tO i i' L:Nat} {V U:Nat→Value} {m:Nat→Nat} {was news Y:Nat→List Value} {ow:Nat→Nat} {lv lv':Value}
theorem Marked.turn (h:Marked w0 w T te sz n V m Y) (hd:∀ i j b,i < n→j < n→(V i).ownBlock=some b→(V j).ownBlock=some b→i=j) (hT:∀ j b,j < n→(V j).ownBlock=some b→T b)
  (hi:i < n) {g:Nat} (hg:(V i).ownBlock=some g) (hO:Only g w w') (ho:Own w' 0 te sz (V i) (m i) ys):Marked w0 w' T te sz n V m (qMs Y i ys):=by
 refine ⟨h.kept.trans (T':=fun b=>b=g) ⟨hO.os,hO.tape,hO.output,bCj hO.size.symm,fun b _ hb=>hO.block b hb⟩ (fun b _ e=>by subst e;exact hT i b hi hg),fun j hj=>?_⟩
 by_cases e:j=i
 ·subst e;rw [uY];exact ho
 ·rw [qD2 _ _ _ _ e];exact (h.own j hj).only hO fun hb=>e (hd j i g hj hi hb hg)
theorem Marked.up (h:Marked w0 w T te sz n V m Y) (hb:Below w.heap.size w w'):Marked w0 w' T te sz n V m Y :=
 ⟨h.kept.trans (T':=fun _=>False) ⟨hb.os,hb.tape,hb.output,hb.size,fun b hlt _=>hb.block b hlt⟩ (fun _ _ h=>h.elim),fun j hj=>(h.own j hj).up hb⟩
structure Grown (w0 w:World) (T:Nat→Prop) (te sz tO n i i' L:Nat) (V:Nat→Value) (m:Nat→Nat) (was news:Nat→List Value) (ow:Nat→Nat) (U:Nat→Value) (lv:Value):Prop where
 kept:Kept T w0 w
 rd:∀ j,j < n→Rd w (V j) (was j)
 own:∀ j,i'≤j→j < n→Own w 0 te sz (V j) (m j) (was j)
 grown:∀ j,j < i→Own w 0 te sz (U j) (m j + 20) (was j ++ news j)
 long:Own w 0 tO 1 lv i ((List.range i).map U)
 newL:∀ b,lv.ownBlock=some b→w0.heap.size≤b
 tagV:∀ j,j < n→Tag w ow (V j) j
 tagU:∀ j,j < i→Tag w ow (U j) j
 tagL:Tag w ow lv n
 outer:∀ j,j < n→ow L=n + 1∧L < w.heap.size∧w.cell? ⟨L,j,none⟩=some (V j)
theorem Tag.up (h:Tag w ow v k) (hs:w.heap.size≤w'.heap.size):Tag w' ow v k:=fun b hb=>⟨(h b hb).1,by have:=(h b hb).2;omega⟩
theorem Grown.up (h:Grown w0 w T te sz tO n i i' L V m was news ow U lv) (hb:Below w.heap.size w w'):Grown w0 w' T te sz tO n i i' L V m was news ow U lv :=
 ⟨h.kept.trans (T':=fun _=>False) ⟨hb.os,hb.tape,hb.output,hb.size,fun b hlt _=>hb.block b hlt⟩ (fun _ _ h=>h.elim),fun j hj=>(h.rd j hj).block fun b hv=>hb.block b ((h.tagV j hj b hv).2),
  fun j h1 h2=>(h.own j h1 h2).up hb,fun j hj=>(h.grown j hj).up hb,h.long.up hb,h.newL,fun j hj=>(h.tagV j hj).up hb.size,fun j hj=>(h.tagU j hj).up hb.size,h.tagL.up hb.size,
  fun j hj=>⟨(h.outer j hj).1,by have:=(h.outer j hj).2.1;have:=hb.size;omega,dR hb (h.outer j hj).2.2⟩⟩
def owN (w:World) (ow:Nat→Nat) (t:Nat):Nat→Nat:=fun b=>if w.heap.size≤b then t else ow b
theorem qJj {t b:Nat} (h:b < w.heap.size):owN w ow t b=ow b:=by simp [owN];omega
theorem Tag.old (h:Tag w ow v k) (t:Nat) (hs:w.heap.size≤w'.heap.size):Tag w' (owN w ow t) v k:=fun b hb=>by
 obtain ⟨h1,h2⟩:=h b hb;exact ⟨by rw [qJj h2];exact h1,by omega⟩
theorem Own.other (h:Own w base te sz v n xs) {j t:Nat} (hv:Tag w ow v j) (hx:Tag w ow x t) (hne:j≠t) (r3:w.grownBy w' x.ownBlock):Own w' base te sz v n xs :=
 h.block fun b hb=>r3.block b (hv b hb).2 fun e=>hne (by rw [← (hv b hb).1,(hx b e.symm).1])
theorem Rd.other (h:Rd w v xs) {j t:Nat} (hv:Tag w ow v j) (hx:Tag w ow x t) (hne:j≠t) (r3:w.grownBy w' x.ownBlock):Rd w' v xs :=
 h.block fun b hb=>r3.block b (hv b hb).2 fun e=>hne (by rw [← (hv b hb).1,(hx b e.symm).1])
theorem zDz {t:Nat} (hx:Tag w ow x t) (r2:Own w' base te sz x' n xs) (r5:∀ b,x'.ownBlock=some b→w.heap.size≤b∨x.ownBlock=some b):Tag w' (owN w ow t) x' t:=fun b hb=>by
 refine ⟨?_,(r2.lt b hb).2⟩
 rcases r5 b hb with h|h
 ·simp [owN,h]
 ·rw [qJj (hx b h).2];exact (hx b h).1
theorem qLi (h:Kept T w0 w) (r3:w.grownBy w' x.ownBlock) (hT:∀ b,x.ownBlock=some b→w0.heap.size≤b∨T b):Kept T w0 w' :=
 h.trans (T':=fun b=>x.ownBlock=some b) ⟨r3.os,r3.tape,r3.output,r3.size,fun b hlt hn=>r3.block b hlt fun e=>hn e.symm⟩ fun b hlt e=>(hT b e).resolve_left (by omega)
theorem Grown.app (h:Grown w0 w T te sz tO n i (i + 1) L V m was news ow U lv) (hi:i < n) (hx:Tag w ow x i) {zs:List Value} (r2:Own w' 0 te sz x' k (was i ++ zs)) (r3:w.grownBy w' x.ownBlock)
  (r5:∀ b,x'.ownBlock=some b→w.heap.size≤b∨x.ownBlock=some b) (r6:x'.ownBlock=x.ownBlock∨Below w.heap.size w w') (hT:∀ b,x.ownBlock=some b→w0.heap.size≤b∨T b) :
  Grown w0 w' T te sz tO n i (i + 1) L V m was news (owN w ow i) U lv∧Tag w' (owN w ow i) x' i∧(∀ b,x'.ownBlock=some b→w0.heap.size≤b∨T b):=by
 have hs:=h.kept.size
 refine ⟨⟨qLi h.kept r3 hT,fun j hj=>?_,fun j h1 h2=>(h.own j h1 h2).other (h.tagV j h2) hx (by omega) r3,fun j hj=>(h.grown j hj).other (h.tagU j hj) hx (by omega) r3,h.long.other h.tagL hx (by omega) r3,h.newL,
  fun j hj=>(h.tagV j hj).old i r3.size,fun j hj=>(h.tagU j hj).old i r3.size,h.tagL.old i r3.size,fun j hj=>?_⟩,zDz hx r2 r5,fun b hb=>?_⟩
 ·by_cases e:j=i
  ·subst e
   rcases r6 with r6|r6
   ·intro b hb p u hu
    by_cases e:x.ownBlock=some b
    ·exact r2.rd.pre b (by rw [r6,e]) p u hu
    ·rw [gU (r3.block b (h.tagV j hj b hb).2 (fun e2=>e e2.symm))]
     exact h.rd j hj b hb p u hu
   ·exact (h.rd j hj).block fun b hv=>r6.block b ((h.tagV j hj b hv).2)
  ·exact (h.rd j hj).other (h.tagV j hj) hx e r3
 ·obtain ⟨h1,h2,h3⟩:=h.outer j hj;refine ⟨by rw [qJj h2];exact h1,by have:=r3.size;omega,?_⟩
  rw [gU (r3.block L h2 fun e=>?_)]
  ·exact h3
  ·have:=(hx L e.symm).1;omega
 ·rcases r5 b hb with h'|h'
  ·left;omega
  ·exact hT b h'
theorem Grown.next (h:Grown w0 w T te sz tO n i (i + 1) L V m was news ow U lv) (hi:i < n) (hx:Tag w ow x i) (ho:Own w 0 te sz x (m i + 20) (was i ++ news i)) (r2:Own w' 0 tO 1 lv' (i + 1) ((List.range i).map U ++ [x])) (r3:w.grownBy w' lv.ownBlock)
  (r5:∀ b,lv'.ownBlock=some b→w.heap.size≤b∨lv.ownBlock=some b) :
  Grown w0 w' T te sz tO n (i + 1) (i + 1) L V m was news (owN w ow n) (qMs U i x) lv':=by
 have hs:=h.kept.size
 have hl:=h.tagL
 refine ⟨qLi h.kept r3 (fun b hb=>.inl (h.newL b hb)),fun j hj=>(h.rd j hj).other (h.tagV j hj) hl (by omega) r3,fun j h1 h2=>(h.own j h1 h2).other (h.tagV j h2) hl (by omega) r3,fun j hj=>?_,?_,fun b hb=>?_,
  fun j hj=>(h.tagV j hj).old n r3.size,fun j hj=>?_,zDz hl r2 r5,fun j hj=>?_⟩
 ·by_cases e:j=i
  ·subst e;rw [uY];exact ho.other hx hl (by omega) r3
  ·rw [qD2 _ _ _ _ e];exact (h.grown j (by omega)).other (h.tagU j (by omega)) hl (by omega) r3
 ·have:(List.range (i + 1)).map (qMs U i x)=(List.range i).map U ++ [x]:=by
   rw [List.range_succ,d6,bEk,uY]
   congr 1
   apply x7
   intro j hj;rw [qD2 _ _ _ _ (by have:=bA9.1 hj;omega)]
  rw [this];exact r2
 ·rcases r5 b hb with h'|h'
  ·omega
  ·exact h.newL b h'
 ·by_cases e:j=i
  ·subst e;rw [uY];exact hx.old n r3.size
  ·rw [qD2 _ _ _ _ e];exact (h.tagU j (by omega)).old n r3.size
 ·obtain ⟨h1,h2,h3⟩:=h.outer j hj;refine ⟨by rw [qJj h2];exact h1,by have:=r3.size;omega,?_⟩
  rw [gU (r3.block L h2 fun e=>?_)]
  ·exact h3
  ·have:=(hl L e.symm).1;omega
theorem Marked.grown (h:Marked w0 w T te sz n V m was) (ht:∀ j,j < n→Tag w0 ow (V j) j) (hL:∀ j,j < n→ow L=n + 1∧L < w0.heap.size∧¬ T L∧w0.cell? ⟨L,j,none⟩=some (V j)) (news:Nat→List Value) (U:Nat→Value) (tO:Nat) :
  Grown w0 w T te sz tO n 0 0 L V m was news ow U (.slice none 0 0) :=
 ⟨h.kept,fun j hj=>(h.own j hj).rd,fun j _ hj=>h.own j hj,fun j hj=>absurd hj (y5 _),bC6 w 0 tO 1,fun b hb=>(by cases hb),fun j hj=>(ht j hj).up h.kept.size,fun j hj=>absurd hj (y5 _),fun b hb=>(by cases hb),
  fun j hj=>by
   obtain ⟨a,b,d,e⟩:=hL j hj;exact ⟨a,by have:=h.kept.size;omega,by rw [gU (h.kept.block L b d)];exact e⟩⟩
end
section
variable {P:Program} {N:Nat} {c c1:Ctx} {F F':List Leaf} {S S':HS} {Q Q':qBh} {l:Env} {look look':Nat→Option Value} {w w':World} {ρ:Nat→Value} {xs:Nat→List Value}
theorem zJa {f:Leaf} {els:List (List FV)} {A:Nat→Prop} {n0:Nat} (hn:f.n=els.length) (hw:∀ x ∈ els,x.length=f.sz) (hc:∀ i k (hi:i < els.length) (hk:k < els[i].length),∃ u,els[i][k]=.v u∧f.xs[i * f.sz + k]?=some u∧u.oneCell'=true)
  (h:Own w 0 f.ty f.sz f.v f.n f.xs) (hA:∀ b,f.v.ownBlock=some b→¬ A b):RepF w A n0 f.v (.lst false els):=by
 obtain ⟨v,ty,sz,n,ys⟩:=f;dsimp only at hn hw hc h hA ⊢;subst hn;refine tD h hw (fun i k hi hk=>?_) (fun b hb=>⟨hA b hb,fun e=>by cases e⟩)
 obtain ⟨u,e,u1,u2⟩:=hc i k hi hk;exact ⟨u,u1,u2,by rw [e];exact .v _⟩
structure LeafIs (f:Leaf) (els:List (List FV)):Prop where
 n:f.n=els.length
 w:∀ x ∈ els,x.length=f.sz
 c:∀ i k (hi:i < els.length) (hk:k < els[i].length),∃ u,els[i][k]=.v u∧f.xs[i * f.sz + k]?=some u∧u.oneCell'=true
inductive LendC (F:List Leaf):HV→FV→Prop
|v (x:Value):LendC F (.v x) (.v x)
|leaf {f:Leaf} {els:List (List FV)} (h:f ∈ F) (hr:LeafIs f els):LendC F (.v f.v) (.lst false els)
theorem LendF.row {id:Nat} {nw:Bool} {ty sz:Nat} {els:List (List HV)} {ys:List (List FV)} (hr:rlk S.st id=some (.hl nw ty sz els)) (hl:ys.length=els.length) (hw:∀ y ∈ ys,y.length=sz)
  (h:∀ i k (hi:i < els.length) (hk:k < els[i].length) (hi':i < ys.length) (hk':k < ys[i].length),LendC F els[i][k] ys[i][k]):LendF F S (.own id) (.lst false ys):=fun c1 look w ρ xs v G hF hv=>by
 cases hv with
|own _ _ =>
 obtain ⟨o1,o2,o3⟩:=kF G hr;rw [← hl] at o1;refine .lst (tD o1 hw (fun i k hi hk=>?_) (fun b _=>⟨fun h=>h,fun e=>by cases e⟩))
 have hi':i < els.length:=by omega
 have hk2:k < els[i].length:=by rw [o2 _ (c7 hi'),← hw _ (c7 hi)];exact hk
 obtain ⟨u,u1,u2,u3⟩:=o3 i k hi' hk2
 have hL:=h i k hi' hk2 hi hk
 refine ⟨u,u1,u2,?_⟩;generalize els[i][k]=a at u3 hL;generalize ys[i][k]=b at hL ⊢
 cases hL with
|v x=>cases u3;exact .v _
|leaf hm hl=>cases u3;exact zJa hl.n hl.w hl.c (hF _ hm) (fun b _ h=>h)
inductive ApAt (F:List Leaf) (st:aC) (te sz:Nat):Nat ⊕ Nat→HV→Nat→Prop
|row {id:Nat} {nw:Bool} {els:List (List FV)} (h:rlk st id=some (.sl nw te sz els)):ApAt F st te sz (.inl id) (.own id) els.length
|leaf {p:Nat} {f:Leaf} (h:F[p]?=some f) (h1:f.ty=te) (h2:f.sz=sz):ApAt F st te sz (.inr p) (.v f.v) f.n
def qXe (F:List Leaf) (ρ:Nat→Value):Nat ⊕ Nat→Value
|.inl id=>ρ id
|.inr p=>(F[p]?.map Leaf.v).getD undef
def zUb (F:List Leaf) (xs:Nat→List Value):Nat ⊕ Nat→List Value
|.inl id=>xs id
|.inr p=>(F[p]?.map Leaf.xs).getD []
theorem ApAt.rep {F:List Leaf} {te sz m:Nat} {a:Nat ⊕ Nat} {x:HV} {v:Value} {A:Nat→Prop} {n0:Nat} (h:ApAt F S.st te sz a x m) (hr:RepH w A n0 ρ v x):v=qXe F ρ a:=by
 cases h with
|row h=>cases hr;rfl
|leaf h h1 h2=>cases hr;simp [qXe,h]
theorem ApAt.own {F:List Leaf} {te sz m:Nat} {a:Nat ⊕ Nat} {x:HV} (h:ApAt F S.st te sz a x m) (G:Good c1 S look w ρ xs) (hF:∀ f ∈ F,Own w 0 f.ty f.sz f.v f.n f.xs):Own w 0 te sz (qXe F ρ a) m (zUb F xs a):=by
 cases h with
|row h=>exact (dC G h).1
|leaf h h1 h2 =>
  have:=hF _ (v6 h)
  subst h1;subst h2
  simpa [qXe,zUb,h] using this
theorem ApAt.blk {F:List Leaf} {te sz m:Nat} {a:Nat ⊕ Nat} {x:HV} {b:Nat} (h:ApAt F S.st te sz a x m) (hb:(qXe F ρ a).ownBlock=some b):(∃ id r,a=.inl id∧rlk S.st id=some r∧(ρ id).ownBlock=some b)∨(∃ p f,a=.inr p∧F[p]?=some f∧f.v.ownBlock=some b):=by
 cases h with
|row h=>exact .inl ⟨_,_,rfl,h,hb⟩
|leaf h h1 h2=>exact .inr ⟨_,_,rfl,h,by simpa [qXe,h] using hb⟩
abbrev yAo (P:Program) (f:FuncId) (te sz:Nat):Prop:=∀ (w:World) (n L cap:Nat) (ad:Option Addr) (V:Nat→Value) (m:Nat→Nat) (X:Nat→List Value) (ow:Nat→Nat) (T:Nat→Prop),(0 < n→ad=some ⟨L,0,none⟩) →
  Marked w w T te sz n V m X→(∀ j,j < n→Tag w ow (V j) j)→(∀ j b,j < n→(V j).ownBlock=some b→T b)→(∀ j,j < n→ow L=n + 1∧L < w.heap.size∧¬ T L∧w.cell? ⟨L,j,none⟩=some (V j)) →
  n≤1000000→(∀ j,j < n→m j≤1000000000)→Calls P f #[.slice ad n cap] w (Ret fun r w'=>r=.bool true∧Kept T w w')
theorem zDr {ds:List (Option Nat)} {K:List Leaf→HS→Prop} {o:Oper} {rest:List Oper} {f:FuncId} {x:Operand} {ay:Array Operand} {ats:Array TypeId} {te sz tO lid:Nat} {nw:Bool} {els:List (List HV)} (AP:yAo P f te sz) (hlid:rlk S.st lid=some (.hl nw tO 1 els))
  (who:Nat→Nat ⊕ Nat) (len:Nat→Nat) (hat:∀ j (h:j < els.length),∃ x,els[j]=[x]∧ApAt F S.st te sz (who j) x (len j)) (hne:∀ j,j < els.length→who j≠.inl lid) (inj:∀ i j,i < els.length→j < els.length→who i=who j→i=j)
  (hn:els.length≤1000000) (hm:∀ j,j < els.length→len j≤1000000000) (E:aT) (hE:∀ k x,hlk E k=some x→hlk S.env k=some x∧∃ u,x=.v u)
  (hc:aB P f=true) (hop:o.op=.call ⟨.value x,ay,ats⟩) (hg:zCt (hG S.env ds o.guard)=true) (hd:eJ N o.dst=true) (hfn:fnH (hev S.env x)=some f) (has:jF S.env ay.toList=some [.own lid])
  (h:wZ P N ds K rest [] ((⟨E,[]⟩:HS).set o.dst (.v (.bool true)))):wZ P N ds K (o :: rest) F S:=fun c l w ⟨c1,hs,ρ,xs,G⟩=>by
 rw [VC];refine qJp ⟨ρ,xs,G⟩ hg ⟨eQ hd,?_⟩;obtain ⟨vs,e1,e2,e3⟩:=G.evs (bM _ _) has;rw [hop];unfold bH;simp only [qDr,aP,bZ,e1,G.fn (bM _ _) hfn];obtain ⟨v,rfl⟩:∃ v,vs=[v]:=by
  match vs,e2 with
 |[v],_=>exact ⟨v,rfl⟩
 have hv:=e3 0 (by simp) (by simp)
 simp only [l6] at hv
 cases hv with
|own _ h1 =>
 obtain ⟨o1,o2,o3⟩:=kF G hlid;obtain ⟨ad,cap,hv0,hvf⟩:=Own.form o1
 let V:Nat→Value:=fun j=>qXe F ρ (who j)
 have hcellV:∀ i (h:i < els.length),(xs lid)[i]?=some (V i):=fun i hi=>by
  obtain ⟨y,ey,ha⟩:=hat i hi;obtain ⟨u,u1,-,u3⟩:=o3 i 0 hi (by rw [ey];simp)
  simp only [ey,l6] at u3;rw [bCm,bAy] at u1;rw [u1,ha.rep u3]
 have hL:∃ L,(0 < els.length→ad=some ⟨L,0,none⟩∧L < w.heap.size∧∀ j u,(xs lid)[j]?=some u→w.cell? ⟨L,j,none⟩=some u):=by
  by_cases h:0 < els.length
  ·obtain ⟨g,e,-,a,b⟩:=hvf h;exact ⟨g,fun _=>⟨e,a,b⟩⟩
  ·exact ⟨0,fun h'=>absurd h' h⟩
 obtain ⟨L,hL⟩:=hL
 let T:Nat→Prop:=fun b=>∃ i,i < els.length∧(V i).ownBlock=some b
 -- a row's block is none of a leaf's
 have hrl:∀ id r f b,rlk S.st id=some r→(ρ id).ownBlock=some b→f ∈ F→f.v.ownBlock=some b→False:=fun id r f b hr hb hf hfb=>by
  obtain ⟨a1,a2⟩:=G.a0 b (hs.L b ⟨f,hf,hfb⟩).1
  rcases ((G.rows id r hr).new b hb).1 with h|h
  ·omega
  ·exact a2 h
 have huniq:∀ i j b,i < els.length→j < els.length→(V i).ownBlock=some b→(V j).ownBlock=some b→i=j:=fun i j b hi hj h1 h2=>by
  obtain ⟨x1,-,p1⟩:=hat i hi;obtain ⟨x2,-,p2⟩:=hat j hj
  rcases p1.blk h1 with ⟨id,r,ea,hr,hb⟩|⟨p,f,ea,hp,hb⟩ <;> rcases p2.blk h2 with ⟨id2,r2,eb,hr2,hb2⟩|⟨p2',f2,eb,hp2,hb2⟩
  ·by_cases e:id=id2
   ·exact inj i j hi hj (by rw [ea,eb,e])
   ·exact (G.apart id id2 r r2 b e hr hr2 hb hb2).elim
  ·exact (hrl id r f2 b hr hb (v6 hp2) hb2).elim
  ·exact (hrl id2 r2 f b hr2 hb2 (v6 hp) hb).elim
  ·by_cases e:p=p2'
   ·exact inj i j hi hj (by rw [ea,eb,e])
   ·exfalso
    have key:∀ p q (f g:Leaf),p < q→F[p]?=some f→F[q]?=some g→f.v.ownBlock=some b→g.v.ownBlock=some b→False:=fun p q f g hpq hf hg h1 h2=>by
     obtain ⟨hpl,rfl⟩:=i5.1 hf;obtain ⟨hql,rfl⟩:=i5.1 hg;exact bCa.1 hs.nod p q hpl hql hpq b h1 h2
    rcases bDn e with h|h
    ·exact key _ _ _ _ h hp hp2 hb hb2
    ·exact key _ _ _ _ h hp2 hp hb2 hb
 classical
 let ow:Nat→Nat:=fun b=>if h:T b then Classical.choose h else els.length + 1
 have how:∀ i b,i < els.length→(V i).ownBlock=some b→ow b=i:=fun i b hi hb=>by
  have h:T b:=⟨i,hi,hb⟩
  show (if h:T b then Classical.choose h else _)=i
  rw [dif_pos h];exact huniq _ _ b (bC1 h).1 hi (bC1 h).2 hb
 have hTL:0 < els.length→¬ T L:=fun h ⟨i,hi,hb⟩=>by
  have hbl:(ρ lid).ownBlock=some L:=by rw [hv0,(hL h).1];rfl
  obtain ⟨x1,-,p1⟩:=hat i hi
  rcases p1.blk hb with ⟨id,r,ea,hr,hb⟩|⟨p,f,ea,hp,hb⟩
  ·exact G.apart id lid r _ L (fun e=>hne i hi (by rw [ea,e])) hr hlid hb hbl
  ·exact hrl lid _ f L hlid hbl (v6 hp) hb
 have hO:∀ j,j < els.length→Own w 0 te sz (V j) (len j) (zUb F xs (who j)):=fun j hj=>by
  obtain ⟨x1,-,p1⟩:=hat j hj;exact p1.own G hs.own
 rw [hv0];refine ⟨hc,Ret.mono (AP w els.length L cap ad V len (fun i=>zUb F xs (who i)) ow T (fun h=>(hL h).1) ⟨Kept.refl _ _,hO⟩ (fun j hj b hb=>⟨how j b hj hb,((hO j hj).lt b hb).2⟩) (fun j b hj hb=>⟨j,hj,hb⟩) (fun j hj=>?_) hn hm) ?_⟩
 ·obtain ⟨a,b,d⟩:=hL (by omega)
  refine ⟨?_,b,hTL (by omega),d j _ (hcellV j hj)⟩
  show (if h:T L then Classical.choose h else _)=_
  rw [dif_neg (hTL (by omega))]
 ·rintro r w' ⟨rfl,hK⟩
  have hsz:=G.kept.size
  let c2:Ctx:=⟨w',fun _=>False,c1.A0,c1.n0,by have:=c1.hn;have:=hK.size;omega,c1.B⟩
  have hTc:∀ b,c1.w0.heap.size≤b∨c1.T b→c.w0.heap.size≤b∨c.T b:=fun b h=>by
   rcases h with h|h
   ·have:=hs.kept.size;exact .inl (by omega)
   ·exact hs.T b h
  have hs2:Sub c c2 [] w':=by
   refine ⟨hs.n0,hs.B,(hs.kept.trans G.kept fun b hb ht=>?_).trans hK fun b hb ht=>?_,fun b h=>h.elim,hs.A,fun b ⟨f,hf,_⟩=>by simp at hf,fun f hf=>by simp at hf,List.Pairwise.nil⟩
   ·exact (hs.T b ht).resolve_left (by omega)
   ·obtain ⟨i,hi,hbi⟩:=ht;obtain ⟨x1,-,p1⟩:=hat i hi
    rcases p1.blk hbi with ⟨id,r,ea,hr,hb'⟩|⟨p,f,ea,hp,hb'⟩
    ·exact (hTc b ((G.rows id r hr).new b hb').1).resolve_left (by omega)
    ·exact (hs.L b ⟨f,v6 hp,hb'⟩).2.1.resolve_left (by omega)
  have I2:InvV c2 ⟨E,[]⟩ (.v (.bool true)) (.bool true) (lk l) w':=by
   refine ⟨ρ,xs,⟨fun i r h=>by simp [rlk] at h,fun i j r s b _ h=>by simp [rlk] at h,fun k x hk=>?_,Kept.refl _ _,fun b hb=>?_⟩,.v _⟩
   ·obtain ⟨hk1,u,rfl⟩:=hE k x hk;obtain ⟨v,a1,a2⟩:=G.env k _ hk1
    cases a2
    exact ⟨u,a1,.v _⟩
   ·have:=(G.a0 b hb).1
    have:=hK.size
    exact ⟨by show b < w'.heap.size;omega,fun h=>h⟩
  exact h c _ w' ⟨c2,hs2,I2.set o.dst⟩
theorem qW9 {ds:List (Option Nat)} {K:List Leaf→HS→Prop} {o:Oper} {rest:List Oper} {f:FuncId} {x:Operand} {ay:Array Operand} {ats:Array TypeId} {te sz tO lid:Nat} {nw:Bool} {els:List (List HV)} (AP:yAo P f te sz) (hlid:rlk S.st lid=some (.hl nw tO 1 els))
  (who:Nat→Nat ⊕ Nat) (hat:∀ j (h:j < els.length),∃ x m,els[j]=[x]∧ApAt F S.st te sz (who j) x m∧m≤1000000000) (hne:∀ j,j < els.length→who j≠.inl lid) (inj:∀ i j,i < els.length→j < els.length→who i=who j→i=j)
  (hn:els.length≤1000000) (E:aT) (hE:∀ k x,hlk E k=some x→hlk S.env k=some x∧∃ u,x=.v u)
  (hc:aB P f=true) (hop:o.op=.call ⟨.value x,ay,ats⟩) (hg:zCt (hG S.env ds o.guard)=true) (hd:eJ N o.dst=true) (hfn:fnH (hev S.env x)=some f) (has:jF S.env ay.toList=some [.own lid])
  (h:wZ P N ds K rest [] ((⟨E,[]⟩:HS).set o.dst (.v (.bool true)))):wZ P N ds K (o :: rest) F S:=by
 have key:∀ j,∃ m,∀ h:j < els.length,(∃ x,els[j]=[x]∧ApAt F S.st te sz (who j) x m)∧m≤1000000000:=fun j=>by
  by_cases h:j < els.length
  ·obtain ⟨x,m,h1,h2,h3⟩:=hat j h;exact ⟨m,fun _=>⟨⟨x,h1,h2⟩,h3⟩⟩
  ·exact ⟨0,fun h'=>absurd h' h⟩
 exact zDr AP hlid who (fun j=>Classical.choose (key j)) (fun j h=>(bC1 (key j) h).1) hne inj hn (fun j h=>(bC1 (key j) h).2) E hE hc hop hg hd hfn has h
theorem zDq {ds:List (Option Nat)} {K:List Leaf→HS→Prop} {o:Oper} {rest:List Oper} {f:FuncId} {args args':List HV} {u:Value} {x:Operand} {ay:Array Operand} {ats:Array TypeId} (hc:aB P f=true) (H:HFun P f args' (fun h st=>h=.v u))
  (hop:o.op=.call ⟨.value x,ay,ats⟩) (hg:zCt (hG S.env ds o.guard)=true) (hd:eJ N o.dst=true) (hfn:fnH (hev S.env x)=some f) (has:jF S.env ay.toList=some args) (hl:LendsF F S args args')
  (h:wZ P N ds K rest F (S.set o.dst (.v u))):wZ P N ds K (o :: rest) F S:=fun c l w ⟨c1,hs,ρ,xs,G⟩=>by
 rw [VC];refine qJp ⟨ρ,xs,G⟩ hg ⟨eQ hd,?_⟩;obtain ⟨vs,e1,e2,e3⟩:=G.evs (bM _ _) has;rw [hop];unfold bH;simp only [qDr,aP,bZ,e1,G.fn (bM _ _) hfn];refine ⟨hc,Ret.mono (H w vs (qZx G hs.own ⟨e2,e3⟩ hl)) fun v w' ⟨B,h',st,h8,q,ρ',xs',G',hr⟩=>?_⟩
 subst q
 have e:=bL hr
 subst e
 have I2:InvV c1 S (.v v) v (lk l) w':=⟨ρ,xs,G.below B,.v _⟩
 refine h c _ w' ⟨c1,hs.same fun b hb=>?_,I2.set o.dst⟩
 have:=(G.a0 b (hs.L b hb).1).1
 have:=G.kept.size
 exact B.block b (by omega)
theorem qGq {α β:Type} (f:α→List β) (n:Nat) (hf:∀ z,(f z).length=n):∀ (Z:List α) (q r:Nat) (hq:q < Z.length) (hr:r < n),(Z.flatMap f)[n * q + r]?=(f Z[q])[r]?
|[],q,r,hq,hr=>absurd hq (by simp)
|z :: Z,0,r,hq,hr=>by
  rw [s9,Nat.mul_zero,s7,bAk (by rw [hf];exact hr)];rfl
|z :: Z,q + 1,r,hq,hr=>by
  have h':q < Z.length:=by simpa using hq
  rw [s9,bAa (by rw [hf,Nat.mul_succ];omega),hf,show n * (q + 1) + r - n=n * q + r by rw [Nat.mul_succ];omega,qGq f n hf Z q r h' hr]
  rfl
theorem qPq {α β:Type} (f:α→List β) (n:Nat) (hf:∀ z,(f z).length=n):∀ (Z:List α),(Z.flatMap f).length=n * Z.length
|[]=>rfl
|z :: Z=>by rw [s9,i8,hf,qPq f n hf Z,i6,Nat.mul_succ];omega
end
abbrev cxV (w:World) (A:Nat→Prop) (n0:Nat) (hn:n0≤w.heap.size):Ctx:=⟨w,fun _=>False,A,n0,hn,fun _ _=>False⟩
def qXb (S:HS) (h:HV) (Q:HV→aC→Prop):Prop :=
 ∃ ids,ids.length≤8∧dup ids=false∧(∀ id ∈ ids,∀ r,rlk S.st id=some r→∃ nw ty sz els,r=.sl nw ty sz els)∧Q (h.ren (pos ids)) (gD (pos ids) S.st 0 ids)
def yCn (P:Program) (rs:List ResultVar) (Q:HV→aC→Prop):dP
|.normal,S=>mB P S rs fun hs=>qXb S (qF hs) Q
|.ret,S=>mB P S rs fun hs=>qXb S (qF hs) Q
|_,_=>False
section
variable {P:Program} {N:Nat} {c c1:Ctx} {F:List Leaf} {S S':HS} {Q:HV→aC→Prop} {l:Env} {look look':Nat→Option Value} {w w':World} {ρ ρ':Nat→Value} {xs xs':Nat→List Value}
def HFunV (P:Program) (f:FuncId) (args:List HV) (Q:HV→aC→Prop):Prop :=
 ∀ (w:World) (vs:List Value) (A:Nat→Prop) (n0:Nat) (hn:n0≤w.heap.size),(∀ b,A b→b < w.heap.size)→pX w A n0 (fun _=>undef) vs args →
  Calls P f vs.toArray w (Ret fun v w'=>Below w.heap.size w w'∧∃ h st',(∀ i r,rlk st' i=some r→i < 8∧∃ nw ty sz els,r=.sl nw ty sz els)∧Q h st'∧InvV (cxV w A n0 hn) ⟨[],st'⟩ h v (fun _=>none) w')
theorem zGv {w0:World} {A:Nat→Prop} {n0:Nat} {hn:n0≤w0.heap.size} (hA0:∀ b,A b→b < w0.heap.size) (G:Good (cxV w0 A n0 hn) S look w ρ xs) {v:Value} {h:HV} (hr:RepH w (Ctx.A (cxV w0 A n0 hn) ρ S.st) n0 ρ v h) {Q:HV→aC→Prop} (R:qXb S h Q) :
  Below w0.heap.size w0 w∧∃ h st',(∀ i r,rlk st' i=some r→i < 8∧∃ nw ty sz els,r=.sl nw ty sz els)∧Q h st'∧InvV (cxV w0 A n0 hn) ⟨[],st'⟩ h v (fun _=>none) w:=by
 obtain ⟨ids,hlen,hd,hfr,q⟩:=R;refine ⟨G.kept.below (fun _ _ h=>h),h.ren (pos ids),_,fun i r hi=>?_,q,fun j=>ρ (ids.getD j 0),fun j=>xs (ids.getD j 0),?_,?_⟩
 ·obtain ⟨_,id,r0,h2,h3,rfl⟩:=cU hi
  have:=(i5.1 h2).1
  obtain ⟨nw,ty,sz,els,rfl⟩:=hfr id (v6 h2) r0 h3;exact ⟨by omega,nw,ty,sz,els,rfl⟩
 ·have hm:∀ i j,pos ids i=some j→ρ (ids.getD j 0)=ρ i:=fun i j h=>by rw [b6,lT h];rfl
  have hA:∀ b,Ctx.A (cxV w0 A n0 hn) (fun j=>ρ (ids.getD j 0)) (gD (pos ids) S.st 0 ids) b→Ctx.A (cxV w0 A n0 hn) ρ S.st b:=by
   rintro b (h0|⟨i,s,hi,hb⟩)
   ·exact .inl h0
   ·obtain ⟨_,id,r0,h2,h3,-⟩:=cU hi;rw [t8] at h2
    try dsimp only at hb
    rw [b6,h2,Option.getD_some] at hb;exact .inr ⟨id,r0,h3,hb⟩
  refine ⟨fun i r hi=>?_,fun i j r s b hne hi hj hbi hbj=>?_,fun k x hk=>by simp [hlk] at hk,G.kept,G.a0⟩
  ·obtain ⟨_,id,r0,h2,h3,rfl⟩:=cU hi;rw [t8] at h2
   have e:ids.getD i 0=id:=by rw [b6,h2];rfl
   have R0:=G.rows id r0 h3
   have F0:=hfr id (v6 h2) r0 h3
   obtain ⟨f1,f2,f3,f4⟩:=Row.ren_facts (pos ids) r0;refine ⟨by rw [f1,f2,f3];(try dsimp only);rw [e];exact R0.own,?_,fun b hb=>?_⟩
   ·have:=R0.rep
    cases r0 with
   |sl nw ty sz els =>
     refine ⟨this.1,fun a k ha hk=>?_⟩
     obtain ⟨u,u1,u2,u3⟩:=this.2 a k ha hk
     try dsimp only
     rw [e];refine ⟨u,u1,u2,?_⟩;exact u3.up (a7 _) (fun _ _ _=>rfl) (fun b _=>hA b) (a7 _)
   |bx nw ty cells=>obtain ⟨_,_,_,_,e⟩:=F0;cases e
   |hl nw ty sz els=>obtain ⟨_,_,_,_,e⟩:=F0;cases e
   ·try dsimp only at hb
    rw [e] at hb;rw [f4];exact R0.new b hb
  ·obtain ⟨_,a,r0,h2,h3,-⟩:=cU hi;obtain ⟨_,d,s0,h4,h5,-⟩:=cU hj;rw [t8] at h2 h4
   try dsimp only at hbi hbj
   rw [b6,h2,Option.getD_some] at hbi;rw [b6,h4,Option.getD_some] at hbj;exact G.apart a d r0 s0 b (fun e=>hne (by subst e;exact xV hd h2 h4)) h3 h5 hbi hbj
 ·have hm:∀ i j,pos ids i=some j→ρ (ids.getD j 0)=ρ i:=fun i j h=>by rw [b6,lT h];rfl
  refine (hr.up (a7 _) (fun _ _ _=>rfl) (fun b _=>?_) (a7 _)).ren hm
  rintro (h0|⟨i,s,hi,hb⟩)
  ·exact .inl h0
  ·obtain ⟨_,id,r0,h2,h3,-⟩:=cU hi;rw [t8] at h2
   try dsimp only at hb
   rw [b6,h2,Option.getD_some] at hb;exact .inr ⟨id,r0,h3,hb⟩
theorem yGi {f:FuncId} {fn:Func} {x:Code} {args:List HV} {rs:Array ResultVar} {Q:HV→aC→Prop} (hf:P.funcs[f]?=some fn) (hb:fn.body=some x) (hN:fn.ntmps=N) (hrs:fn.results=rs) (hle:args.length≤N)
  (h:HW P N x (yCn P rs.toList Q) ⟨nD 0 args,[]⟩):HFunV P f args Q:=fun w vs A n0 hn hA0 R=>by
 refine nQ hf hb hN hrs (by rw [R.1];exact hle) ?_
 have I:Inv (cxV w A n0 hn) ⟨nD 0 args,[]⟩ (lk (nE 0 vs)) w:=by
  refine ⟨fun _=>undef,fun _=>[],fun id r hr=>by simp [rlk] at hr,fun i j r s b hne hi=>by simp [rlk] at hi,fun k h hk=>?_,Kept.refl _ _,fun b hb=>⟨hA0 b hb,fun h=>h⟩⟩
  obtain ⟨-,h2⟩:=oT args 0 k h hk;rw [t8] at h2;obtain ⟨hlt,rfl⟩:=i5.1 h2
  have hlt':k < vs.length:=by rw [R.1];exact hlt
  refine ⟨vs[k],sQ vs 0 k _ (g7 _) (by simp [hlt']),(R.2 k hlt' hlt).up (a7 _) (fun _ _ _=>rfl) (fun b _ hA=>?_) (a7 _)⟩
  rcases hA with h0|⟨i,r,hi,-⟩
  ·exact h0
  ·simp [rlk] at hi
 refine (h _ _ _ I).mono fun e l' w' ⟨S',I',q⟩=>?_
 obtain ⟨ρ,xs,G⟩:=I'
 have fin:mB P S' rs.toList (fun hs=>qXb S' (qF hs) Q)→jE P l' w' rs.toList fun vs=>Below w.heap.size w w'∧∃ h st',(∀ i r,rlk st' i=some r→i < 8∧∃ nw ty sz els,r=.sl nw ty sz els)∧Q h st'∧InvV (cxV w A n0 hn) ⟨[],st'⟩ h (tup vs) (fun _=>none) w':=fun hr =>
  resH_resE.resE_mono (resH_resE G _ _ hr) fun vs ⟨hs,hR,hv⟩=>zGv hA0 G (vV hv) hR
 cases e with
|normal=>exact fin q
|ret=>exact fin q
|_=>exact q.elim
theorem Good.addsV (G:Good c S look w ρ xs) (B:Below w.heap.size w w') {st:aC} (h8:∀ i r,rlk st i=some r→i < 8∧∃ nw ty sz els,r=.sl nw ty sz els) {ρ':Nat→Value} {xs':Nat→List Value} (hn:c.n0≤w.heap.size) (G':Good (cxV w (c.A ρ S.st) c.n0 hn) ⟨[],st⟩ (fun _=>none) w' ρ' xs') {v:Value} {h:HV}
  (hr:RepH w' (Ctx.A (cxV w (c.A ρ S.st) c.n0 hn) ρ' st) c.n0 ρ' v h) (n:Nat):InvV c (S.adds n st) (h.ren (sh n)) v look w':=by
 have hbase:∀ i,cD n i=true→rlk (dN (cD n) S.st) i=none:=fun i hi=>by rw [eK,hi];rfl
 have hw0:c.n0≤w.heap.size:=l5 c.hn G.kept.size
 have hw1:=G.kept.size
 let ρ2:Nat→Value:=fun i=>bif cD n i then ρ' (i - n) else ρ i
 have q1:∀ i,cD n i=false→ρ2 i=ρ i:=fun i hi=>by show (bif cD n i then _ else _)=_;rw [hi];rfl
 have q2:∀ i j,sh n i=some j→ρ2 j=ρ' i:=fun i j hj=>by
  unfold sh at hj
  cases e:Nat.blt i 8 with
 |false=>rw [e] at hj;cases hj
 |true =>
   rw [e] at hj;simp only [p8,a6] at hj;subst hj
   have:i < 8:=by simpa [bCt] using e
   show (bif cD n (n + i) then _ else _)=_
   rw [eM.2 ⟨by omega,by omega⟩,p8,show n + i - n=i by omega]
 have cases2:∀ i r,rlk (S.adds n st).st i=some r→(∃ s,cD n i=true∧rlk st (i - n)=some s∧r=s.ren (sh n)∧ρ2 i=ρ' (i - n))∨(∃ s,cD n i=false∧rlk S.st i=some s∧r=s.kill (cD n)∧ρ2 i=ρ i):=by
  intro i r hi
  rcases qBw hbase (fun i r h=>(h8 i r h).1) hi with ⟨s,a1,a2,a3⟩|⟨a1,a2⟩
  ·left
   have:=(h8 _ _ a2).1
   have e:cD n i=true:=eM.2 ⟨a1,by omega⟩
   exact ⟨s,e,a2,a3,by show (bif cD n i then _ else _)=_;rw [e];rfl⟩
  ·right
   rw [eK,a1,o7] at a2
   cases hs:rlk S.st i with
  |none=>rw [hs] at a2;cases a2
  |some s=>rw [hs] at a2;simp only [n8,a6] at a2;exact ⟨s,a1,rfl,a2.symm,q1 i a1⟩
 have new:∀ i s b,rlk st i=some s→(ρ' i).ownBlock=some b→w.heap.size≤b:=fun i s b hs hb=>by
  rcases ((G'.rows i s hs).new b hb).1 with h|h
  ·exact h
  ·exact h.elim
 have hA1:∀ b,b < w.heap.size→c.A ρ2 (S.adds n st).st b→c.A ρ S.st b:=by
  rintro b hlt (h0|⟨i,r,hi,hb⟩)
  ·exact .inl h0
  ·rcases cases2 i r hi with ⟨s,_,a2,_,a4⟩|⟨s,_,a2,_,a4⟩
   ·rw [a4] at hb;have:=new _ s b a2 hb;omega
   ·rw [a4] at hb;exact .inr ⟨i,s,a2,hb⟩
 have hA2:∀ b,c.A ρ2 (S.adds n st).st b→Ctx.A (cxV w (c.A ρ S.st) c.n0 hn) ρ' st b:=by
  rintro b (h0|⟨i,r,hi,hb⟩)
  ·exact .inl (.inl h0)
  ·rcases cases2 i r hi with ⟨s,_,a2,_,a4⟩|⟨s,_,a2,_,a4⟩
   ·rw [a4] at hb;exact .inr ⟨_,s,a2,hb⟩
   ·rw [a4] at hb;exact .inl (.inr ⟨i,s,a2,hb⟩)
 have tr1:∀ v x,RepH w (c.A ρ S.st) c.n0 ρ v x→RepH w' (c.A ρ2 (S.adds n st).st) c.n0 ρ2 v (x.kill (cD n)):=fun v x hx=>(hx.up B.size (fun b hlt _=>B.block b hlt) hA1 (a7 _)).kill q1
 have tr2:∀ v x,RepH w' (Ctx.A (cxV w (c.A ρ S.st) c.n0 hn) ρ' st) c.n0 ρ' v x→RepH w' (c.A ρ2 (S.adds n st).st) c.n0 ρ2 v (x.ren (sh n)):=fun v x hx=>(hx.up (a7 _) (fun _ _ _=>rfl) (fun b _=>hA2 b) (a7 _)).ren q2
 refine ⟨ρ2,fun i=>bif cD n i then xs' (i - n) else xs i,⟨fun i r hi=>?_,fun i j r s b hne hi hj hbi hbj=>?_,fun k x hk=>?_,?_,G.a0⟩,tr2 _ _ hr⟩
 ·rcases cases2 i r hi with ⟨s,a1,a2,rfl,a4⟩|⟨s,a1,a2,rfl,a4⟩
  ·have R:=G'.rows _ s a2
   obtain ⟨f1,f2,f3,f4⟩:=Row.ren_facts (sh n) s;rw [a1,p8];refine ⟨by rw [f1,f2,f3,a4];exact R.own,?_,fun b hb=>?_⟩
   ·have:=R.rep
    cases s with
   |sl nw ty sz els =>
     refine ⟨this.1,fun p k hp hk=>?_⟩
     obtain ⟨u,u1,u2,u3⟩:=this.2 p k hp hk;exact ⟨u,u1,u2,u3.up (a7 _) (fun _ _ _=>rfl) (fun b _=>hA2 b) (a7 _)⟩
   |bx nw ty cells=>obtain ⟨_,_,_,_,_,e⟩:=h8 _ _ a2;cases e
   |hl nw ty sz els =>
     refine ⟨fun x hx=>?_,fun p k hp hk=>?_⟩
     ·obtain ⟨y,hy,rfl⟩:=m6.1 hx;rw [c8];exact this.1 y hy
     ·simp only [c8] at hp;simp only [d9,c8] at hk ⊢;obtain ⟨u,u1,u2,u3⟩:=this.2 p k hp hk;exact ⟨u,u1,u2,tr2 _ _ u3⟩
   ·rw [a4] at hb
    have:=new _ s b a2 hb
    exact ⟨.inl (by omega),fun _=>by omega⟩
  ·rw [a1,o7]
   have R:=(G.rows i s a2).up B.size (fun b hlt _=>B.block b hlt) hA1 (fun b hb=>B.block b (G.lt a2 hb))
   exact R.kill q1 a1
 ·rcases cases2 i r hi with ⟨s1,a1,a2,-,a4⟩|⟨s1,a1,a2,-,a4⟩ <;> rcases cases2 j s hj with ⟨s2,b1,b2,-,b4⟩|⟨s2,b1,b2,-,b4⟩
  ·rw [a4] at hbi;rw [b4] at hbj
   have e1:=eM.1 a1
   have e2:=eM.1 b1
   exact G'.apart _ _ s1 s2 b (by omega) a2 b2 hbi hbj
  ·rw [a4] at hbi;rw [b4] at hbj
   have:=new _ s1 b a2 hbi
   have:=G.lt b2 hbj
   omega
  ·rw [a4] at hbi;rw [b4] at hbj
   have:=new _ s2 b b2 hbj
   have:=G.lt a2 hbi
   omega
  ·rw [a4] at hbi;rw [b4] at hbj;exact G.apart i j s1 s2 b hne a2 b2 hbi hbj
 ·simp only [HS.adds,jD] at hk
  cases hx:hlk S.env k with
 |none=>rw [hx] at hk;cases hk
 |some x0 =>
   rw [hx] at hk;simp only [n8,a6] at hk;subst hk;obtain ⟨v,h1,h2⟩:=G.env k x0 hx;exact ⟨v,h1,tr1 v x0 h2⟩
 ·exact G.kept.trans (T':=fun _=>False) ⟨B.os,B.tape,B.output,B.size,fun b hlt _=>B.block b hlt⟩ (fun _ _ h=>h.elim)
inductive Plain0:HV→Prop
|v (x:Value):Plain0 (.v x)
|lst (fr:Bool) (xs:List (List FV)):Plain0 (.lst fr xs)
theorem zMs {ds:List (Option Nat)} {K:List Leaf→HS→Prop} {o:Oper} {rest:List Oper} {f:FuncId} {args:List HV} {R:HV→aC→Prop} {x:Operand} {ay:Array Operand} {ats:Array TypeId} (n:Nat) (hc:aB P f=true) (H:HFunV P f args R)
  (hop:o.op=.call ⟨.value x,ay,ats⟩) (hg:zCt (hG S.env ds o.guard)=true) (hd:eJ N o.dst=true) (hfn:fnH (hev S.env x)=some f) (has:jF S.env ay.toList=some args) (hl:∀ a ∈ args,Plain0 a)
  (h:∀ h st,R h st→wZ P N ds K rest F ((S.adds n st).set o.dst (h.ren (sh n)))):wZ P N ds K (o :: rest) F S:=fun c l w ⟨c1,hs,ρ,xs,G⟩=>by
 rw [VC];refine qJp ⟨ρ,xs,G⟩ hg ⟨eQ hd,?_⟩;obtain ⟨vs,e1,e2,e3⟩:=G.evs (bM _ _) has;rw [hop];unfold bH;simp only [qDr,aP,bZ,e1,G.fn (bM _ _) hfn]
 have hn:c1.n0≤w.heap.size:=l5 c1.hn G.kept.size
 have hA0:∀ b,c1.A ρ S.st b→b < w.heap.size:=by
  rintro b (h0|⟨i,r,hi,hb⟩)
  ·have:=(G.a0 b h0).1;have:=G.kept.size;omega
  ·exact G.lt hi hb
 refine ⟨hc,Ret.mono (H w vs (c1.A ρ S.st) c1.n0 hn hA0 ⟨e2,fun i h1 h2=>?_⟩) fun v w' ⟨B,h',st,h8,q,ρ',xs',G',hr⟩=>?_⟩
 ·have e:=e3 i h1 h2
  have p:=hl _ (c7 h2)
  generalize args[i]=a at e p ⊢;generalize vs[i]=v0 at e ⊢
  cases p with
 |v x=>cases e;exact .v _
 |lst fr ys=>cases e with|lst e=>exact .lst e
 ·have I2:=G.addsV B h8 hn G' hr n
  refine h h' st q c _ w' ⟨c1,hs.same fun b hb=>?_,I2.set o.dst⟩
  have:=(G.a0 b (hs.L b hb).1).1
  have:=G.kept.size
  exact B.block b (by omega)
end
section
variable {P:Program} {N:Nat} {c c1:Ctx} {F:List Leaf} {S S':HS} {l:Env} {look look':Nat→Option Value} {w w':World} {ρ ρ':Nat→Value} {xs xs':Nat→List Value}
theorem HFunF.mono {f:FuncId} {args:List HV} {Q Q':HV→aC→List Leaf→Prop} (h:HFunF P f args Q) (hq:∀ h st F,Q h st F→Q' h st F):HFunF P f args Q' :=
 fun w vs hr=>Ret.mono (h w vs hr) fun v w' ⟨B,x,st',F,ρ,xs,h8,q,I⟩=>⟨B,x,st',F,ρ,xs,h8,hq _ _ _ q,I⟩
theorem HFunV.mono {f:FuncId} {args:List HV} {Q Q':HV→aC→Prop} (h:HFunV P f args Q) (hq:∀ h st,Q h st→Q' h st):HFunV P f args Q' :=
 fun w vs A n0 hn hA hr=>Ret.mono (h w vs A n0 hn hA hr) fun v w' ⟨B,x,st',h8,q,I⟩=>⟨B,x,st',h8,hq _ _ q,I⟩
def qGr (P:Program) (rs:List ResultVar) (x:Value):qBh
|.normal,_,S=>mB P S rs fun hs=>qF hs=.v x
|.ret,_,S=>mB P S rs fun hs=>qF hs=.v x
|_,_,_=>False
theorem yAi {f:FuncId} {fn:Func} {x:Code} {args:List HV} {rs:Array ResultVar} {u:Value} (hf:P.funcs[f]?=some fn) (hb:fn.body=some x) (hN:fn.ntmps=N) (hrs:fn.results=rs) (hle:args.length≤N)
  (h:HWF P N x (qGr P rs.toList u) [] ⟨nD 0 args,[]⟩):HFun P f args (fun h st=>h=.v u∧st=[]):=fun w vs R=>by
 refine nQ hf hb hN hrs (by rw [R.1];exact hle) ?_
 have I:Inv (cx w (fun _=>False) (fun _=>False)) ⟨nD 0 args,[]⟩ (lk (nE 0 vs)) w:=by
  refine ⟨fun _=>undef,fun _=>[],fun id r hr=>by simp [rlk] at hr,fun i j r s b hne hi=>by simp [rlk] at hi,fun k h hk=>?_,Kept.refl _ _,fun b hb=>hb.elim⟩
  obtain ⟨-,h2⟩:=oT args 0 k h hk;rw [t8] at h2;obtain ⟨hlt,rfl⟩:=i5.1 h2
  have hlt':k < vs.length:=by rw [R.1];exact hlt
  refine ⟨vs[k],sQ vs 0 k _ (g7 _) (by simp [hlt']),(R.2 k hlt' hlt).up (a7 _) (fun _ _ _=>rfl) (fun b _ hA=>?_) (a7 _)⟩
  rcases hA with h0|⟨i,r,hi,-⟩
  ·exact h0
  ·simp [rlk] at hi
 refine (h _ _ _ (InvF.of I)).mono fun e l' w' ⟨F',S',⟨c1,hs,ρ,xs,G⟩,q⟩=>?_
 have kept:Kept (fun _=>False) w w':=hs.kept.trans G.kept fun b hb ht=>by
  rcases hs.T b ht with h|h
  ·exact absurd (show w.heap.size≤b from h) (by omega)
  ·exact h
 have fin:mB P S' rs.toList (fun hs=>qF hs=.v u)→jE P l' w' rs.toList fun vs=>Below w.heap.size w w'∧∃ h st',(∀ i r,rlk st' i=some r→i < 8)∧(h=.v u∧st'=[])∧InvV (cx w (fun _=>False) (fun b=>b < w.heap.size)) ⟨[],st'⟩ h (tup vs) (fun _=>none) w':=fun hr =>
  resH_resE.resE_mono (resH_resE G _ _ hr) fun vs ⟨hs',hR,hv⟩=>by
   have r:=vV hv
   rw [hR] at r
   have e:=bL r
   refine ⟨kept.below (fun _ _ h=>h),.v u,[],fun i r hi=>by simp [rlk] at hi,⟨rfl,rfl⟩,ρ,xs,⟨fun i r hi=>by simp [rlk] at hi,fun i j r s b _ hi=>by simp [rlk] at hi,fun k x hk=>by simp [hlk] at hk,kept,fun b hb=>⟨hb,fun h=>h⟩⟩,by rw [e];exact .v _⟩
 cases e with
|normal=>exact fin q
|ret=>exact fin q
|_=>exact q.elim
end
abbrev Ad:=Option Addr × Nat
abbrev hd (p:Ad) (n:Nat):Value:=.slice p.1 n p.2
end Go.Eng
namespace Go.Tr
open Go Go.Eng Go.RowKit
abbrev T3:=List Ent × List Ent × List Ent
def t3 (x:T3):Nat→List Ent
|0=>x.1
|1=>x.2.1
|_=>x.2.2
def kQ (x:T3) (u:List Ent):Nat→T3
|0=>(u,x.2.1,x.2.2)
|1=>(x.1,u,x.2.2)
|_=>(x.1,x.2.1,u)
def cR (p:Ba) (u:List Ent):List Nat→T3→T3 × Int
|[],x=>(x,0)
|k :: r,x=>if dL (t3 x k) p u=0 then cR p u r (kQ x (gR (t3 x k) p u) k) else (x,dL (t3 x k) p u)
def pE (ks:List Nat):List (List HV):=ks.map fun k=>[.ptr 0 4 0 k]
def qBx (ks:List Nat):(pE ks).length=ks.length:=by simp [pE]
def zHc {ks:List Nat} {i k:Nat} {d:List HV} (h:i < ks.length) (hk:ks[i]=k):(pE ks).getD i d=[.ptr 0 4 0 k]:=by
 subst hk;unfold pE;rw [fQ h]
def qDg (ks:List Nat):List.map (List.map (HV.kill (cD 184))) (pE ks)=pE ks:=by
 unfold pE;rw [bAm];exact x7 fun k _=>by simp [HV.kill,cD];rfl
def qF2 (ks:List Nat) (m:Nat) (hm:0≠m):List.map (List.map (HV.ren (nm 184 m))) (pE ks)=pE ks:=by
 unfold pE;rw [bAm];exact x7 fun k _=>by simp [HV.ren,nm,hm]
structure B3 (t:List Ent):Prop where
 len:t.length≤1048576
 sz:∀ e ∈ t,e.1.size≤1048576
def B3.rpl {t u:List Ent} {p:Ba} (h:B3 t) (hu:B3 u):B3 (gR t p u):=by
 unfold gR;split
 ·rename_i h0
  have hc:cZ (iM (qYi t p u))=0:=by
   unfold dL at h0;split at h0
   ·cases h0
   ·split at h0
    ·cases h0
    ·exact h0
  refine ⟨l5 (fZ hc).1 (by decide),fun e he=>?_⟩
  have hm:=(jS _).mem_iff.1 he
  rcases m8.1 hm with h1|h1
  ·exact h.sz e (bBj.1 h1).1
  ·exact hu.sz e h1
 ·exact ⟨g7 _,fun e he=>by cases he⟩
def BT (x:T3):Prop:=∀ k,B3 (t3 x k)
def BT.set {x:T3} {u:List Ent} (h:BT x) (hu:B3 u) (k:Nat):BT (kQ x u k):=fun j=>by
 have h0:=h 0;have h1:=h 1;have h2:=h 2
 match k,j with
|0,0=>exact hu
|0,1=>exact h1
|0,j + 2=>exact h2
|1,0=>exact h0
|1,1=>exact hu
|1,j + 2=>exact h2
|k + 2,0=>exact h0
|k + 2,1=>exact h1
|k + 2,j + 2=>exact hu
def vH {p:Ba} {u:List Ent} {k:Nat} {r:List Nat} {x:T3} (h:dL (t3 x k) p u=0):cR p u (k :: r) x=cR p u r (kQ x (gR (t3 x k) p u) k):=by rw [cR,g8 h]
def qF0 {p:Ba} {u:List Ent} {k:Nat} {r:List Nat} {x:T3} (h:dL (t3 x k) p u≠0):cR p u (k :: r) x=(x,dL (t3 x k) p u):=by rw [cR,b7 h]
structure Cfl where
 p:Ba
 h:List Ent
 s:List Ent
 t:Ba
 f:Bool
abbrev CfV:=Cfl × Ad × Ad
def zDf (c:CfV):List HV:=[.v (.string c.1.p),.v (hd c.2.1 c.1.h.length),.v (hd c.2.2 c.1.s.length),.v (.string c.1.t),.v (.bool c.1.f),.v (.int .i64 0),.v (.string ByteArray.empty)]
def cfT (C:List CfV):List (List HV):=C.map zDf
def qCn (C:List CfV):(cfT C).length=C.length:=by simp [cfT]
def qSj (C:List CfV) (f:HV→HV) (hf:∀ x,f (.v x)=.v x):(cfT C).map (List.map f)=cfT C:=by
 simp only [cfT,bAm]
 apply x7
 intro t _;simp [zDf,hf]
def aN (C:List CfV) (p:Nat→Bool):(cfT C).map (List.map (HV.kill p))=cfT C:=qSj C _ fun x=>by rw [HV.kill]
def bX (C:List CfV) (p:Nat→Option Nat):(cfT C).map (List.map (HV.ren p))=cfT C:=qSj C _ fun x=>by rw [HV.ren]
def uD (C:List CfV) (id:Nat) (x:HV):(cfT C).map (List.map (HV.sub id x))=cfT C:=qSj C _ fun x=>by rw [HV.sub]
def zTb (C:List CfV) (p t:Ba) (h s:List Ent) (f:Bool) (a b:Option Addr) (c d:Nat):cfT C ++ [[.v (.string p),.v (.slice a h.length c),.v (.slice b s.length d),.v (.string t),.v (.bool f),.v (.int .i64 0),.v (.string ByteArray.empty)]]=cfT (C ++ [(⟨p,h,s,t,f⟩,(a,c),(b,d))]):=by simp [cfT,zDf]
def zMe (C:List CfV):∀ x ∈ cfT C,∀ f ∈ x,NamH f:=fun x hx f hf=>by
 obtain ⟨t,-,rfl⟩:=m6.1 hx;simp only [zDf,l3,bBf,bDu] at hf
 rcases hf with rfl|rfl|rfl|rfl|rfl|rfl|rfl <;> exact .v _
abbrev mP (C:List CfV) (x:T3) (nw0 nw1 nw2 nw3 nw4:Bool):aC:=[(0,.bx nw0 28 [.own 1,.own 2,.own 3,.own 4]),(1,.sl nw1 44 3 (aG x.1)),(2,.sl nw2 44 3 (aG x.2.1)),(3,.sl nw3 44 3 (aG x.2.2)),(4,.hl nw4 39 7 (cfT C))]
end Go.Tr
namespace Go.Proofs.Y
open Go Go.Eng Go.RowKit Go.Tr
def qJi (p:Ba) (u:List Ent) (ks:List Nat) (hks:∀ k ∈ ks,k < 3) (hkl:ks.length≤3) (C:List CfV) (x:T3) (sp:p.size≤1048576) (hu:B3 u) (hx:BT x) :
  HFunS Tryz.prog 32 [.v (.string p),.lst true (aG u),.own 5] (mP C x false true true true true ++ [(5,.hl true 73 1 (pE ks))]) (fun h st=>h=.v (.int .i64 (cR p u ks x).2)∧st=mP C (cR p u ks x).1 false true true true true):=by
 refine pV (N:=33) Tryz.func32 rfl Tryz.ntmps32 Tryz.results32 (by simp) ?_
 refine goA 5 ?_;push_cast[qBx,aN];refine goL (fun y:Nat × T3=>⟨[(0,.v (.string p)),(1,.lst true (aG u)),(11,.own 5),(12,.v (.int .i64 ks.length)),(13,.v (.int .i64 y.1))],mP C y.2 false true true true true ++ [(5,.hl true 73 1 (pE ks))]⟩) (fun y=>y.1≤ks.length∧BT y.2∧cR p u ks x=cR p u (ks.drop y.1) y.2) (fun y=>ks.length - y.1) [0,1,11,12,13] [0,1,2,3,4,5] (0,x) (by push_cast <;> rfl) ⟨g7 _,hx,rfl⟩ ?_
 rintro ⟨i,y⟩ ⟨hi,hy,hq⟩;simp only at hi hy hq;rw [hq]
 by_cases hlt:i < ks.length
 ·have hk:=hks _ (c7 hlt)
  have hd:ks.drop i=ks[i] :: ks.drop (i + 1):=l4 hlt
  rw [hd] at hq ⊢
  have hg:=@zHc ks i _ [] hlt rfl
  have hwd:∀ x ∈ pE ks,x.length=1:=fun x hx=>by obtain ⟨k,-,rfl⟩:=m6.1 hx;rfl
  generalize ks[i]=k at *
  have k3:k=0∨k=1∨k=2:=by omega
  have cr:=zGy (t3 y k) p u (hy k).len hu.len sp (hy k).sz hu.sz
  rcases k3 with rfl|rfl|rfl
  ·refine goA 7 ?_;push_cast(disch:=omega)[qBx,hg];refine cUt 184 yD3 cr (.cons (eH (yT _) rfl) (.cons (.v _) (.cons (aD (yT _)) .nil))) ?_;push_cast[aN]
   by_cases he:dL (t3 y 0) p u=0
   ·rw [he];refine goA 5 ?_;push_cast;refine goP [0,1,11,12,13] [0,184,2,3,4,5] ?_;refine jQ 184 1 (by decide) rfl rfl (by push_cast[d6,bX] <;> exact rfl) ?_
    refine goA 3 ?_;push_cast(disch:=omega);refine ⟨(i + 1,kQ y (gR (t3 y 0) p u) 0),by push_cast[qDg,aN,qF2 _ 1 (by decide)] <;> rfl,⟨hlt,hy.set ((hy 0).rpl hu) 0,vH he⟩,by dsimp only;omega⟩
   ·have hz:decide (dL (t3 y 0) p u=0)=false:=b9 he
    rw [qF0 he];generalize dL (t3 y 0) p u=er at *
    refine goA 5 ?_;push_cast[hz];refine mC [0,1,2,3,4] (by decide) (by push_cast[d6,bX] <;> exact ⟨rfl,rfl⟩) ?_
    exact ⟨rfl,rfl⟩
  ·refine goA 7 ?_;push_cast(disch:=omega)[qBx,hg];refine cUt 184 yD3 cr (.cons (eH (yT _) rfl) (.cons (.v _) (.cons (aD (yT _)) .nil))) ?_;push_cast[aN]
   by_cases he:dL (t3 y 1) p u=0
   ·rw [he];refine goA 5 ?_;push_cast;refine goP [0,1,11,12,13] [0,184,1,3,4,5] ?_;refine jQ 184 2 (by decide) rfl rfl (by push_cast[d6,bX] <;> exact rfl) ?_
    refine goA 3 ?_;push_cast(disch:=omega);refine ⟨(i + 1,kQ y (gR (t3 y 1) p u) 1),by push_cast[qDg,aN,qF2 _ 2 (by decide)] <;> rfl,⟨hlt,hy.set ((hy 1).rpl hu) 1,vH he⟩,by dsimp only;omega⟩
   ·have hz:decide (dL (t3 y 1) p u=0)=false:=b9 he
    rw [qF0 he];generalize dL (t3 y 1) p u=er at *
    refine goA 5 ?_;push_cast[hz];refine mC [0,1,2,3,4] (by decide) (by push_cast[d6,bX] <;> exact ⟨rfl,rfl⟩) ?_
    exact ⟨rfl,rfl⟩
  ·refine goA 7 ?_;push_cast(disch:=omega)[qBx,hg];refine cUt 184 yD3 cr (.cons (eH (yT _) rfl) (.cons (.v _) (.cons (aD (yT _)) .nil))) ?_;push_cast[aN]
   by_cases he:dL (t3 y 2) p u=0
   ·rw [he];refine goA 5 ?_;push_cast;refine goP [0,1,11,12,13] [0,184,1,2,4,5] ?_;refine jQ 184 3 (by decide) rfl rfl (by push_cast[d6,bX] <;> exact rfl) ?_
    refine goA 3 ?_;push_cast(disch:=omega);refine ⟨(i + 1,kQ y (gR (t3 y 2) p u) 2),by push_cast[qDg,aN,qF2 _ 3 (by decide)] <;> rfl,⟨hlt,hy.set ((hy 2).rpl hu) 2,vH he⟩,by dsimp only;omega⟩
   ·have hz:decide (dL (t3 y 2) p u=0)=false:=b9 he
    rw [qF0 he];generalize dL (t3 y 2) p u=er at *
    refine goA 5 ?_;push_cast[hz];refine mC [0,1,2,3,4] (by decide) (by push_cast[d6,bX] <;> exact ⟨rfl,rfl⟩) ?_
    exact ⟨rfl,rfl⟩
 ·have hne:i=ks.length:=by omega
  subst hne;rw [bD0];refine goA 5 ?_;push_cast(disch:=omega);refine mC [0,1,2,3,4] (by decide) (by push_cast[d6,bX] <;> exact ⟨rfl,rfl⟩) ?_
  exact ⟨rfl,rfl⟩
end Go.Proofs.Y
namespace Go.Eng
open Go Go.RowKit Go.Maps
theorem xP (v:Option Value) (z:Value):zEp v z true=.tup [zAs (v.getD z),.v (.bool v.isSome)]:=nr rfl
theorem tK (v:Option Value) (z:Value):zEp v z false=zAs (v.getD z):=nr rfl
end Go.Eng
namespace Go.Dk
open Go Go.Tr Go.Eng
structure Itm where
 dir:Bool
 data:Ba
 kept:Ba
 loose:Bool
 anew:Bool
 stamp:Int
def Itm.val (x:Itm):Value:=.agg #[.bool x.dir,.string x.data,.string x.kept,.bool x.loose,.bool x.anew,.int .i64 x.stamp]
def Itm.hv (x:Itm):HV:=.agg [.v (.bool x.dir),.v (.string x.data),.v (.string x.kept),.v (.bool x.loose),.v (.bool x.anew),.v (.int .i64 x.stamp)]
def yKd:Itm:=⟨false,ByteArray.empty,ByteArray.empty,false,false,0⟩
section
variable {α:Type}
def iN:List (Ba × α)→Ba→Option α
|[],_=>none
|(t,x) :: r,s=>if t=s then some x else iN r s
def yD9 (a b:Ba):Bool:=Op.bytesLess a.data.toList b.data.toList
theorem zFf (a b:Ba):yD9 a b=blt a b:=by rw [blt,yD9,Lib.toList_data,Lib.toList_data]
def put (s:Ba) (x:α):List (Ba × α)→List (Ba × α)
|[]=>[(s,x)]
|(t,y) :: r=>if t=s then (s,x) :: r else if yD9 s t then (s,x) :: (t,y) :: r else (t,y) :: put s x r
theorem qU0 (s:Ba) (x:α) (u:Ba):∀ (L:List (Ba × α)),iN (put s x L) u=if u=s then some x else iN L u
|[]=>by
  simp only [put,iN]
  by_cases e:u=s
  ·subst e;simp
  ·rw [b7 (fun h=>e h.symm),b7 e]
|(t,y) :: r=>by
  simp only [put]
  by_cases h1:t=s
  ·subst h1;rw [g8 rfl];simp only [iN]
   by_cases e:t=u
   ·subst e;simp
   ·rw [b7 e,b7 (fun h=>e h.symm),b7 e]
  ·rw [b7 h1];split
   ·simp only [iN]
    by_cases e:s=u
    ·subst e;simp
    ·rw [b7 e,b7 (show ¬ u=s from fun h=>e h.symm)]
   ·simp only [iN];rw [qU0 s x u r]
    by_cases e:t=u
    ·subst e;simp [h1]
    ·rw [b7 e,b7 e]
def tab (f:α→Value) (L:List (Ba × α)):MTab:=fun s=>(iN L (mkB s)).map f
theorem yAw (f:α→Value) (L:List (Ba × α)) (s:Ba):tab f L s.data.toList=(iN L s).map f:=by rw [tab,pG]
theorem qZt {q:List UInt8} {s:Ba}:mkB q=s↔q=s.data.toList:=by
 constructor
 ·rintro rfl;rfl
 ·rintro rfl;exact pG s
theorem zUk (f:α→Value) (L:List (Ba × α)) (s:Ba) (x:α):(tab f L).put s.data.toList (f x)=tab f (put s x L):=by
 funext q
 simp only [MTab.put,tab,qU0]
 by_cases e:q=s.data.toList
 ·rw [g8 e,g8 (qZt.2 e)];rfl
 ·rw [b7 e,b7 (fun h=>e (qZt.1 h))]
end
def zWj (n:Int):Value:=.int .i64 n
def zPz (L:List (Ba × Int)) (s:Ba):zAs ((tab zWj L s.data.toList).getD (.int .i64 0))=.v (.int .i64 ((iN L s).getD 0)):=by
 rw [yAw]
 cases iN L s <;> rfl
structure Dk where
 L:List (Ba × Itm)
 R:List (Ba × Int)
 steps:Int
 stamps:Int
 armed:Int
 down:Bool
 n:Nat
 m:Nat
def Dk.new:Dk:=⟨[],[],0,0,-1,false,0,0⟩
def Dk.cells (d:Dk) (r1 r2:Nat):List HV:=[.v (.map (some r1)),.v (.map (some r2)),.v (.int .i64 d.steps),.v (.int .i64 d.stamps),.v (.int .i64 d.armed),.v (.bool d.down)]
def Dk.maps (d:Dk) (k r1 r2:Nat):MS:=[.map r1 k d.n (tab Itm.val d.L),.map r2 k d.m (tab zWj d.R)]
def zY3 (p:Ba):Int:=if p={ data:=#[] } then 0 else (p.data.toList.count 47:Nat) + 1
def may (d:Dk) (p:Ba) (names:Int):Int:=if d.down then 14 else if pOk p 6=false∨zY3 p≤names then 10 else 0
def qD6 (d:Dk):Int × Dk:=if d.armed=0 then (14,{ d with down:=true,armed:=-1 }) else (0,{ d with armed:=if 0 < d.armed then d.armed - 1 else d.armed,steps:=d.steps + 1 })
def qH7 (d:Dk) (p:Ba):Itm:=(iN d.L p).getD yKd
def has (d:Dk) (p:Ba):Bool:=(iN d.L p).isSome
def yAc (d:Dk) (p:Ba):Bool:=decide (zY3 p=1) || (qH7 d (par p)).dir
def yFk (d:Dk) (p:Ba) (x:Itm):Dk:={ d with stamps:=d.stamps + 1,L:=put p { x with stamp:=d.stamps + 1 } d.L,n:=d.n + 1 }
def nW:List UInt8→Nat
|[]=>0
|c :: r=>if c=47 then 0 else nW r + 1
def vol (p:Ba):Ba:=p.extract 0 (nW p.data.toList)
def yAb (v:Ba):List (Ba × Itm)→Int
|[]=>0
|(p,x) :: r=>(if vol p=v then (x.data.size:Int) else 0) + yAb v r
def yJk (d:Dk) (v:Ba):Int:=yAb v d.L
def zU2 (d:Dk) (p:Ba) (more:Int):Bool:=match iN d.R (vol p) with
|none=>true
|some n=>decide (more≤0) || decide (yJk d (vol p) + more≤n)
def zZ9 (d:Dk) (p s:Ba):Int × Dk :=
 if may d p 1≠0 then (may d p 1,d) else if yAc d p=false then (11,d) else if (qH7 d p).dir=true then (12,d) else if zU2 d p ((s.size:Int) - (qH7 d p).data.size)=false then (13,d) else
  if (qD6 d).1≠0 then qD6 d else (0,yFk (qD6 d).2 p { qH7 d p with data:=s,loose:=true,anew:=true })
def zLt (d:Dk) (p:Ba):Int:=if may d p 1≠0 then may d p 1 else if has d p=false then 11 else if (qH7 d p).dir=true then 12 else 0
def append (d:Dk) (p s:Ba):Int × Dk :=
 if zLt d p≠0 then (zLt d p,d) else if zU2 d p s.size=false then (13,d) else if (qD6 d).1≠0 then qD6 d else
  (0,yFk (qD6 d).2 p { qH7 d p with data:=(qH7 d p).data ++ s,loose:=true })
def yJp (d:Dk) (p:Ba):Int × Dk :=
 if zLt d p≠0 then (zLt d p,d) else if (qD6 d).1≠0 then qD6 d else
  (0,{ (qD6 d).2 with L:=put p { qH7 d p with kept:=(qH7 d p).data,loose:=false,anew:=false } d.L,n:=d.n + 1 })
def yKc (d:Dk) (p:Ba):Int:=if has d p=false then 0 else if (qH7 d p).dir=true then 1 else 2
section
variable {α:Type}
def qJa (L:List (Ba × α)):Prop:=L.Pairwise fun a b=>blt a.1 b.1=true
theorem qJl {s:Ba} {x:α} {e:Ba × α}:∀ {L:List (Ba × α)},e ∈ put s x L→e=(s,x)∨e ∈ L
|[],h=>by simp only [put,q6] at h;exact .inl h
|(t,y) :: r,h=>by
  simp only [put] at h;split at h
  ·rcases l3.1 h with h|h
   ·exact .inl h
   ·exact .inr (u9 _ h)
  ·split at h
   ·rcases l3.1 h with h|h
    ·exact .inl h
    ·exact .inr h
   ·rcases l3.1 h with h|h
    ·exact .inr (by simp [h])
    ·rcases qJl h with h|h
     ·exact .inl h
     ·exact .inr (u9 _ h)
theorem qTs (s:Ba) (x:α):∀ {L:List (Ba × α)},qJa L→qJa (put s x L)
|[],_=>by simp [put,qJa]
|(t,y) :: r,h=>by
  obtain ⟨h1,h2⟩:=w8.1 h;simp only [put];split
  ·rename_i e;subst e;exact w8.2 ⟨h1,h2⟩
  ·rename_i hne;split
   ·rename_i hb;refine w8.2 ⟨fun e he=>?_,h⟩
    rw [zFf] at hb
    rcases l3.1 he with rfl|he
    ·exact hb
    ·exact nC hb (h1 e he)
   ·rename_i hb;rw [zFf] at hb;refine w8.2 ⟨fun e he=>?_,qTs s x h2⟩
    rcases qJl he with rfl|he
    ·rcases xX t s with h|h|h
     ·exact h
     ·exact absurd h hne
     ·exact absurd h hb
    ·exact h1 e he
theorem qGa {s:Ba} {x:α}:∀ {L:List (Ba × α)},iN L s=some x→(s,x) ∈ L
|[],h=>by simp [iN] at h
|(t,y) :: r,h=>by
  simp only [iN] at h;split at h
  ·rename_i e;subst e;simp only [a6] at h;simp [h]
  ·exact u9 _ (qGa h)
theorem qPe {s:Ba} {x:α}:∀ {L:List (Ba × α)},qJa L→(s,x) ∈ L→iN L s=some x
|[],_,h=>by simp at h
|(t,y) :: r,hR,h=>by
  obtain ⟨h1,h2⟩:=w8.1 hR;simp only [iN]
  rcases l3.1 h with h|h
  ·cases h;rw [g8 rfl]
  ·rw [b7 (fun e=>by subst e;have:=h1 _ h;rw [nR] at this;cases this)]
   exact qPe h2 h
end
def tot:List (Ba × Itm)→Int
|[]=>0
|(_,x) :: r=>(x.data.size:Int) + tot r
def iH {a b:Ba} (h:a.data.toList=b.data.toList):a=b:=by rw [← pG a,← pG b,h]
structure Dk.Ok (d:Dk) (B:Int):Prop where
 rise:qJa d.L
 keys:∀ e ∈ d.L,e.1.size≤1048576
 size:tot d.L≤B
 n:(d.n:Int)≤B
 m:(d.m:Int)≤B
 steps:0≤d.steps∧d.steps≤B
 stamps:0≤d.stamps∧d.stamps≤B
 armed:-1≤d.armed∧d.armed≤9223372036854775807
end Go.Dk
namespace Go.Proofs.Y
open Go Go.Eng Go.RowKit Go.Tr Go.Dk
abbrev kS:TypeId:=9
def mtL:MapTy Tryz.prog 89 9 3 (.int .i64 0):=⟨by kernel_rfl,by kernel_rfl,fun w=>by kernel_rfl⟩
end Go.Proofs.Y
namespace Go.Eng
open Go Go.RowKit Go.Maps
structure HeadM (P:Program) (N:Nat) (ops:List Oper) (E0:aT) (st:aC) (g:MS) (hs:Nat→HV) (i:Nat) (o:Oper):Prop where
 lt:jP N o.dst
 head:∃ T:aT,FrOk ops E0 hs i T∧(∀ t h,hlk T t=some h→t ∈ o.looksAt ops.toArray)∧∀ (c:Ctx) (l:Env) (w:World) (ρ:Nat→Value) (xs:Nat→List Value),Good c ⟨T,st⟩ (lk l) w ρ xs→MsOk P c w g →
  ∃ b,gd l (cJ ops) o.guard (·=b)∧(b=true→Yields P (execOp (evD l) o) w fun u w'=>RepH w' (c.A ρ st) c.n0 ρ u (hs i)∧Below w.heap.size w w')∧(b=false→hs i=.v undef)
def HeadM.congr {P:Program} {N:Nat} {ops:List Oper} {E0:aT} {st:aC} {g:MS} {hs hs':Nat→HV} {i:Nat} {o:Oper} (h:HeadM P N ops E0 st g hs i o) (he:∀ j,j≤i→hs' j=hs j):HeadM P N ops E0 st g hs' i o:=by
 obtain ⟨T,TF,TS,run⟩:=h.head;refine ⟨h.lt,T,TF.congr fun j hj=>he j (by omega),TS,?_⟩
 rw [he i (a7 _)];exact run
section
variable {P:Program} {N:Nat} {all:List Oper} {g:MS} {K:HS→Prop} {n i:Nat} {S:HS} {Q:uF}
end
end Go.Eng
namespace Go.Proofs.Y
open Go Go.Eng Go.RowKit Go.Tr Go.Dk
def qC7:∀ (l:List UInt8),(Lib.indexByte l 47=-1∧nW l=l.length)∨(Lib.indexByte l 47=(nW l:Int)∧nW l < l.length)
|[]=>.inl ⟨rfl,rfl⟩
|c :: r=>by
  rw [Lib.indexByte,nW]
  by_cases h:c=47
  ·subst h
   right
   simp
  ·have hc:(c == 47)=false:=bCl.2 h
   rw [hc,b7 h]
   rcases qC7 r with ⟨a,b⟩|⟨a,b⟩
   ·left
    rw [a,b];exact ⟨rfl,by simp⟩
   ·right
    rw [a]
    have:((nW r:Int) == -1)=false:=bCl.2 (by omega)
    rw [this];simp only [bA0,bCz,i6];exact ⟨rfl,by omega⟩
def zM0 {p:Ba} (h:Lib.indexByte p.data.toList 47=-1):vol p=p:=by
 rcases qC7 p.data.toList with ⟨a,b⟩|⟨a,b⟩
 ·rw [vol,b,← Lib.size_eq];exact ByteArray.extract_zero_size
 ·omega
def aft (p:Ba):Ba:=if nW p.data.toList < p.size then p.extract (nW p.data.toList + 1) p.size else { data:=#[] }
def fnd (p:Ba):Bool:=decide (nW p.data.toList < p.size)
def yGt (s:Ba) (hs:s.size≤1048576):HFun Tryz.prog 61 [.v (.string s),.v (.string { data:=#[47] })] (fun h st=>h=.tup ([.string (vol s),.string (aft s),.bool (fnd s)].map .v)):=by
 refine yCo (N:=23) Tryz.func61 rfl Tryz.ntmps61 Tryz.results61 (by simp) ?_
 have hc:=qTm s
 unfold aft fnd
 rcases qC7 s.data.toList with ⟨a,b⟩|⟨a,b⟩
 ·rw [a] at hc;rw [← Lib.size_eq] at b
  (repeat first|refine zE ?_|refine zA ?_|refine zC ?_|refine zB ?_|refine zD ?_);refine zJ (fun K hK=>?_);push_cast;refine hK _ ?_;clear hK K
  (repeat first|refine zE ?_|refine zA ?_|refine zC ?_|refine zB ?_|refine zD ?_);refine zJ (fun K hK=>?_);push_cast
  refine zBs yDz hc (.cons (.v _) (.cons (.v _) .nil)) ?_;with_reducible refine aS ?_;push_cast
  refine hK _ ?_;clear hK K
  (repeat first|refine zE ?_|refine zA ?_|refine zC ?_|refine zB ?_|refine zD ?_);refine zJ (fun K hK=>?_);push_cast;refine hK _ ?_;clear hK K
  (repeat first|refine zE ?_|refine zA ?_|refine zC ?_|refine zB ?_|refine zD ?_)
  refine yC rfl ?_
  (repeat first|refine zE ?_|refine zA ?_|refine zC ?_|refine zB ?_|refine zD ?_);refine zJ (fun K hK=>?_);push_cast;refine hK _ ?_;clear hK K
  (repeat first|refine zK ?_|refine zG ?_|refine zH ?_|refine zF rfl ?_|refine zL ?_|refine zB ?_|refine zE ?_|refine zA ?_|refine zC ?_|refine zT ?_|refine zW ?_)
  simp only [yA,yM,yH,yE,oE,xF,yK,yJ,zS,zM,Nat.reduceEqDiff,reduceIte,reduceCtorEq];refine eY ?_;rw [zM0 a,b];simp
 ·rw [a] at hc;rw [← Lib.size_eq] at b;obtain ⟨k,hk⟩:∃ k,nW s.data.toList=k:=⟨_,rfl⟩
  have hv:vol s=s.extract 0 k:=by rw [vol,hk]
  rw [hk] at hc b ⊢;rw [hv,g8 b]
  (repeat first|refine zE ?_|refine zA ?_|refine zC ?_|refine zB ?_|refine zD ?_);refine zJ (fun K hK=>?_);push_cast;refine hK _ ?_;clear hK K
  (repeat first|refine zE ?_|refine zA ?_|refine zC ?_|refine zB ?_|refine zD ?_);refine zJ (fun K hK=>?_);push_cast
  refine zBs yDz hc (.cons (.v _) (.cons (.v _) .nil)) ?_;with_reducible refine aS ?_;push_cast
  refine hK _ ?_;clear hK K
  (repeat first|refine zE ?_|refine zA ?_|refine zC ?_|refine zB ?_|refine zD ?_);refine zJ (fun K hK=>?_);push_cast(disch:=omega);refine hK _ ?_;clear hK K
  (repeat first|refine zE ?_|refine zA ?_|refine zC ?_|refine zB ?_|refine zD ?_)
  refine uG rfl (fun _=>?_) (fun hf=>by simp at hf)
  (repeat first|refine zE ?_|refine zA ?_|refine zC ?_|refine zB ?_|refine zD ?_);refine HW_drw 10 mixed (by kernel_rfl) (fun K hK=>?_);push_cast(disch:=omega)[sY]
  refine ⟨by omega,by omega,?_⟩
  with_reducible refine aS ?_;push_cast
  refine hK _ ?_;clear hK K
  (repeat first|refine zK ?_|refine zG ?_|refine zH ?_|refine zF rfl ?_|refine zL ?_|refine zB ?_|refine zE ?_|refine zA ?_|refine zC ?_|refine zT ?_|refine zW ?_)
  simp only [yA,yM,yH,yE,oE,xF,yK,yJ,zS,zM,Nat.reduceEqDiff,reduceIte,reduceCtorEq];refine eY ?_;simp [b]
def yA3 (s:Ba) (hs:s.size≤1048576):HFun Tryz.prog 47 [.v (.string s),.v (.string { data:=#[47] })] (fun h st=>h=.tup ([.string (vol s),.string (aft s),.bool (fnd s)].map .v)):=by
 refine yCo (N:=13) Tryz.func47 rfl Tryz.ntmps47 Tryz.results47 (by simp) ?_
 (repeat first|refine zE ?_|refine zA ?_|refine zC ?_|refine zB ?_|refine zD ?_);refine zJ (fun K hK=>?_);push_cast;refine hK _ ?_;clear hK K
 (repeat first|refine zE ?_|refine zA ?_|refine zC ?_|refine zB ?_|refine zD ?_);refine zJ (fun K hK=>?_);push_cast
 refine qH8 yKq (yGt s hs) (.cons (.v _) (.cons (.v _) .nil)) ?_;with_reducible refine aS ?_;push_cast
 refine hK _ ?_;clear hK K
 (repeat first|refine zK ?_|refine zG ?_|refine zH ?_|refine zF rfl ?_|refine zL ?_|refine zB ?_|refine zE ?_|refine zA ?_|refine zC ?_|refine zT ?_|refine zW ?_)
 simp only [yA,yM,yH,yE,oE,xF,yK,yJ,zS,zM,Nat.reduceEqDiff,reduceIte,reduceCtorEq];exact eY rfl
def mx {s:Ba} (h:s.size≤1048576):s.size≤maxLen:=l5 h (by decide)
end Go.Proofs.Y
namespace Go.Rc
open Go Go.Tr Go.Eng Go.Dk
def sW (s:Ba):Ba:=if stroke.data.toList.isPrefixOf s.data.toList=true then s.extract 1 s.size else s
def jG (p top:Ba):Ba:=vol (sW (p.extract top.size p.size))
def qC3 (a b:Ba):Ba:=if a={ data:=#[] } then b else if b={ data:=#[] } then a else a ++ stroke ++ b
def cK (top:Ba) (e:Ent):Option Ba:=if e.1=top∨bN e.1 top=false∨jG e.1 top={ data:=#[] } then none else some (qC3 top (jG e.1 top))
abbrev LN:=List (Ba × Int)
def cX (top:Ba) (L:LN) (e:Ent):LN:=match cK top e with
|some q=>put q ((iN L q).getD 0 + 1) L
|none=>L
def lB (top:Ba) (es:List Ent):LN:=es.foldl (cX top) []
def dX (t:List Ent) (p:Ba):List Ent:=t.filter fun e=>bN e.1 p
def gP (mg:(Int × Ba)→(Int × Ba)→(Int × Ba)→Bool) (r:Ba→LN) (A H S:List Ent) (p:Ba):LN :=
 if dX H p=dX S p then (if dX A p=dX H p then [] else [(p,1)])
 else if (aV H p).1=1∧(aV S p).1=1 then (if (aV A p).1=1 then [] else [(p,1)]) ++ r p
 else if dX H p=dX A p then [(p,3)]
 else if dX S p=dX A p then [(p,2)]
 else [(p,if mg (aV A p) (aV H p) (aV S p)=true then 4 else 5)]
def bQ (mg:(Int × Ba)→(Int × Ba)→(Int × Ba)→Bool) (A H S:List Ent):Nat→Ba→LN
|0,_=>[]
|k + 1,top=>((lB top (A ++ H ++ S)).map fun e=>e.1).flatMap (gP mg (bQ mg A H S k) A H S)
def qRj {top:Ba} {L:LN} {e:Ent} {q:Ba × Int} (h:q ∈ cX top L e):q ∈ L∨cK top e=some q.1:=by
 unfold cX at h
 cases hn:cK top e with
|none=>rw [hn] at h;exact .inl h
|some s =>
  rw [hn] at h
  rcases qJl h with rfl|h
  ·exact .inr rfl
  ·exact .inl h
def kG {top:Ba}:∀ (es:List Ent) (L:LN) {q:Ba × Int},q ∈ es.foldl (cX top) L→q ∈ L∨∃ e ∈ es,cK top e=some q.1
|[],L,q,h=>.inl h
|e :: r,L,q,h=>by
  rcases kG r _ h with h|⟨x,hx,hq⟩
  ·rcases qRj h with h|h
   ·exact .inl h
   ·exact .inr ⟨e,by simp,h⟩
  ·exact .inr ⟨x,by simp [hx],hq⟩
def xN {top:Ba}:∀ (es:List Ent) (L:LN),qJa L→qJa (es.foldl (cX top) L)
|[],L,h=>h
|e :: r,L,h=>by
  refine xN r _ ?_;unfold cX;split
  ·exact qTs _ _ h
  ·exact h
def qPb {top:Ba}:∀ (es:List Ent) (L:LN),(es.foldl (cX top) L).length≤L.length + es.length
|[],L=>a7 _
|e :: r,L=>by
  have h1:=qPb (top:=top) r (cX top L e)
  have h2:(cX top L e).length≤L.length + 1:=by
   have pl:∀ (q:Ba) (x:Int) (L:LN),(put q x L).length≤L.length + 1:=by
    intro q x L
    induction L with
   |nil=>exact a7 _
   |cons y r ih =>
     obtain ⟨t,y⟩:=y;rw [put]
     (repeat' split) <;> simp only [i6] <;> omega
   unfold cX;split
   ·exact pl _ _ _
   ·omega
  simp only [bAu,i6];omega
def zM1 (s:Ba):(vol s).size≤s.size:=by rw [vol,bAl];omega
def qK5 {s:Ba} (h:¬ s={ data:=#[] }):0 < s.size:=by
 rcases bAo s.size with h0|h0
 ·exact absurd (bBl.1 h0) h
 ·exact h0
def iE {top q:Ba} {e:Ent} (h:cK top e=some q):top.size < q.size∧q.size≤e.1.size:=by
 unfold cK at h;split at h
 ·cases h
 ·rename_i hn;simp only [bE2,a6] at hn h;obtain ⟨h1,h2,h3⟩:=hn
  have hu:bN e.1 top=true:=by simpa using h2
  have hf:=qK5 h3
  have hv:(jG e.1 top).size≤(sW (e.1.extract top.size e.1.size)).size:=zM1 _
  have he:(e.1.extract top.size e.1.size).size=e.1.size - top.size:=by rw [bAl];omega
  subst h;unfold qC3
  by_cases ht:top={ data:=#[] }
  ·rw [g8 ht];subst ht
   have:(sW (e.1.extract ({ data:=#[] }:Ba).size e.1.size)).size≤(e.1.extract ({ data:=#[] }:Ba).size e.1.size).size:=by
    unfold sW;split
    ·rw [bAl];omega
    ·exact a7 _
   have h0:({ data:=#[] }:Ba).size=0:=rfl
   rw [h0] at this he hv ⊢;exact ⟨by omega,by omega⟩
  ·rw [b7 ht,b7 h3]
   -- behind the path stands a stroke
   have nT:(top ++ stroke).data.toList.isPrefixOf e.1.data.toList=true:=by
    unfold bN at hu;simp only [w9,m7] at hu
    rcases hu with (h|h)|h
    ·exact absurd h ht
    ·exact absurd h h1
    ·exact h
   obtain ⟨r,hr⟩:=bAh.1 nT
   have hl:(top ++ stroke).data.toList.length=top.size + 1:=by
    have:(top ++ stroke).size=top.size + stroke.size:=n9
    rw [← Lib.size_eq,this];rfl
   have hsz:top.size + 1≤e.1.size:=by
    have:=congrArg List.length hr
    rw [i8,hl] at this
    have:=Lib.size_eq e.1
    omega
   have hst:stroke.data.toList.isPrefixOf (e.1.extract top.size e.1.size).data.toList=true:=by
    rw [bAh];refine ⟨r,?_⟩
    have ed:(e.1.extract top.size e.1.size).data.toList=e.1.data.toList.drop top.size:=by
     rw [bCw,bDb,bCc,m9];rw [y7,← Lib.size_eq];omega
    rw [ed,← hr]
    have e1:(top ++ stroke).data.toList=top.data.toList ++ stroke.data.toList:=by simp
    rw [e1,u6,bBt (by rw [← Lib.size_eq];omega),bA8 (by rw [← Lib.size_eq];omega)]
    rfl
   have htr:(sW (e.1.extract top.size e.1.size)).size=e.1.size - top.size - 1:=by
    unfold sW;rw [g8 hst,bAl];omega
   have e3:(top ++ stroke ++ jG e.1 top).size=top.size + 1 + (jG e.1 top).size:=by
    rw [n9,n9];rfl
   rw [e3];omega
variable {mg:(Int × Ba)→(Int × Ba)→(Int × Ba)→Bool}
def qW3 (n:Int) (L:LN):Prop:=∀ x ∈ L,0≤x.2∧x.2≤n
theorem qLa {n:Int} {L:LN} (h:qW3 n L) (hn:0≤n) (q:Ba):0≤(iN L q).getD 0∧(iN L q).getD 0≤n:=by
 cases e:iN L q with
|none=>exact ⟨Int.le_refl _,hn⟩
|some v=>exact h (q,v) (qGa e)
theorem zGa {n:Int} {top:Ba} {L:LN} (e:Ent) (h:qW3 n L) (hn:0≤n):qW3 (n + 1) (cX top L e):=by
 intro x hx;unfold cX at hx
 cases hq:cK top e with
|none=>rw [hq] at hx;have:=h x hx;omega
|some q =>
  rw [hq] at hx
  rcases qJl hx with rfl|hx
  ·have:=qLa h hn q
   exact ⟨by simp only;omega,by simp only;omega⟩
  ·have:=h x hx;omega
theorem qZq {top:Ba} {es:List Ent} (h:∀ e ∈ es,e.1.size≤top.size):lB top es=[]:=by
 cases hx:lB top es with
|nil=>rfl
|cons q r =>
  rcases kG es [] (q:=q) (by rw [show es.foldl (cX top) []=lB top es from rfl,hx];simp) with h0|⟨e,he,hq⟩
  ·cases h0
  ·have:=iE hq
   have:=h e he
   omega
end Go.Rc
