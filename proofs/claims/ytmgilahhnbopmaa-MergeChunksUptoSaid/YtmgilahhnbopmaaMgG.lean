/-
  merge.Merge, walked.
-/
import Derived.Test.YtmgilahhnbopmaaMgE
import Derived.Test.YtmgilahhnbopmaaMgF
import Derived.Test.YtmgilahhnbopmaaJoin
import Derived.Test.YtmgilahhnbopmaaCat
set_option linter.unusedSimpArgs false
set_option linter.unusedVariables false
set_option maxRecDepth 20000
namespace Go.Proofs.Ytmgilahhnbopmaa
open Go Go.Eng Go.RowKit Go.DiffM


def mkA:ByteArray:={ data:=#[60,60,60,60,60,60,60,10] }
def mkM:ByteArray:={ data:=#[61,61,61,61,61,61,61,10] }
def mkB:ByteArray:={ data:=#[62,62,62,62,62,62,62,10] }
def tR (c:Ck ByteArray):Prop:=c.st=true∨c.l=c.r∨c.b=c.r
instance (c:Ck ByteArray):Decidable (tR c):=by unfold tR;infer_instance
def ckT (c:Ck ByteArray):ByteArray:=if tR c then cat c.l else if c.b=c.l then cat c.r else ((((mkA ++ cat (jA c.l)) ++ mkM) ++ cat (jA c.r)) ++ mkB)
def ckN (c:Ck ByteArray):Nat:=if tR c then 0 else if c.b=c.l then 0 else 1
def mgT (cs:List (Ck ByteArray)):ByteArray:=cat (cs.map ckT)
def mgN (cs:List (Ck ByteArray)):Nat:=(cs.map ckN).sum
def qUf (x y z:ByteArray):ByteArray:=if fK x y z≠0 then { data:=#[] } else mgT (cQ x y z)
def qUg (x y z:ByteArray):Nat:=if fK x y z≠0 then 0 else mgN (cQ x y z)
theorem tQ (l:List ByteArray):(cat (jA l)).size≤(cat l).size + 1:=by
 rcases List.eq_nil_or_concat l with rfl|⟨q,x,rfl⟩
 ·simp [jA]
 ·rw [List.concat_eq_append]
  have:jA (q ++ [x])=q ++ [qMv x]:=by
   unfold jA;simp [List.set_append]
  rw [this,tS,tS,qS3,qS3,ByteArray.size_append,ByteArray.size_append];unfold qMv;split
  ·omega
  ·rw [ByteArray.size_append];have:nl.size=1:=rfl;omega
theorem zD8:mkA.size=8:=rfl
theorem zD6:mkM.size=8:=rfl
theorem zD7:mkB.size=8:=rfl
theorem qWq (c:Ck ByteArray):(ckT c).size≤(cat c.l).size + (cat c.r).size + 26:=by
 unfold ckT;split
 ·omega
 ·split
  ·omega
  ·simp only [ByteArray.size_append,zD8,zD6,zD7]
   have:=tQ c.l
   have:=tQ c.r
   omega
theorem zD9 (cs:List (Ck ByteArray)):(mgT cs).size≤(cat (cs.flatMap (·.l))).size + (cat (cs.flatMap (·.r))).size + 26 * cs.length:=by
 unfold mgT
 induction cs with
|nil=>simp [cat]
|cons c r ih =>
  rw [List.map_cons,qWt,List.flatMap_cons,List.flatMap_cons,tS,tS];simp only [ByteArray.size_append,List.length_cons]
  have:=qWq c
  omega
theorem uZ (cs:List (Ck ByteArray)) (c:Ck ByteArray):mgT (cs ++ [c])=mgT cs ++ ckT c:=by rw [mgT,List.map_append,tS,List.map_singleton,qS3];rfl
theorem qAn (cs:List (Ck ByteArray)) (c:Ck ByteArray):mgN (cs ++ [c])=mgN cs + ckN c:=by simp [mgN]
theorem zCl {α:Type} {cs:List (Ck α)} (h:∀ c ∈ cs,zHk c):cs.length≤(cs.flatMap (·.b)).length + (cs.flatMap (·.l)).length + (cs.flatMap (·.r)).length:=by
 induction cs with
|nil=>simp
|cons c r ih =>
  have h1:=ih fun x hx=>h x (by simp [hx])
  have h2:=(h c (by simp)).1
  simp only [List.flatMap_cons,List.length_append,List.length_cons];omega
theorem qAo {x y z:ByteArray} (h0:cH x=0) (h1:cH y=0) (h2:cH z=0):fK x y z=0:=by
 rw [fK,if_neg (by simpa using h0),if_neg (by simpa using h1),h2]
theorem qMy {x y z:ByteArray} (h0:cH x=0) (h1:cH y=0) (h2:cH z=0):(cQ x y z).length≤1200:=by
 have:=zCl (zCm (dA x) (dA y) (dA z))
 rw [qMz,qEj,qEi] at this
 have:=dX h0;have:=dX h1;have:=dX h2
 show (gJ (dA x) (dA y) (dA z)).length≤1200
 omega
theorem vA {cs:List (Ck ByteArray)} (f:Ck ByteArray→List ByteArray) {c:Ck ByteArray} (h:c ∈ cs):(f c).length≤(cs.flatMap f).length∧(cat (f c)).size≤(cat (cs.flatMap f)).size∧(f c).Sublist (cs.flatMap f):=by
 induction cs with
|nil=>simp at h
|cons d r ih =>
  rw [List.flatMap_cons,tS];simp only [ByteArray.size_append,List.length_append]
  rcases List.mem_cons.1 h with rfl|h
  ·exact ⟨by omega,by omega,List.sublist_append_left _ _⟩
  ·obtain ⟨a,b,d⟩:=ih h;exact ⟨by omega,by omega,d.trans (List.sublist_append_right _ _)⟩
theorem zAv {l:List ByteArray} {x:ByteArray} (h:x ∈ l):x.size≤(cat l).size:=by
 induction l with
|nil=>simp at h
|cons a r ih =>
  rw [qWt,ByteArray.size_append]
  rcases List.mem_cons.1 h with rfl|h
  ·omega
  ·have:=ih h;omega
def mgS (cs:List (Ck ByteArray)) (n:Nat):HS:=⟨[(6,.v (.string (mgT (cs.take n)))),(7,.v (.int .i64 (mgN (cs.take n)))),(22,.own 128),(23,.v (.int .i64 cs.length)),(24,.v (.int .i64 n))],[(128,.sl true 33 4 (cks cs))]⟩
theorem zH4 (cs:List (Ck ByteArray)):mgN cs≤cs.length:=by
 unfold mgN
 induction cs with
|nil=>simp
|cons c r ih =>
  simp only [List.map_cons,List.sum_cons,List.length_cons]
  have:ckN c≤1:=by
   unfold ckN;split
   ·omega
   ·split <;> omega
  omega
set_option maxHeartbeats 8000000 in
theorem zG0 (x y z:ByteArray) (hx:x.size≤4294967296) (hy:y.size≤4294967296) (hz:z.size≤4294967296):HFun Try.prog 17 [.v (.string x),.v (.string y),.v (.string z)] (fun h st =>
  h=.tup [.v (.string (qUf x y z)),.v (.int .i64 (qUg x y z)),.v (.int .i64 (fK x y z))]):=by
 refine rT (N:=76) Try.func17 rfl Try.ntmps17 Try.results17 (by simp) ?_
 refine zE ?_;refine zJ (fun K hK=>?_);simp (disch:=omega) only [push_cast,↓iC9,simprocAttr];refine hK _ ?_;clear hK K
 refine zE ?_;refine zJ (fun K hK=>?_);simp (disch:=omega) only [push_cast,↓iC9,simprocAttr]
 refine hat 128 cl4 (zFx x y z hx hy hz) (.cons (.v _) (.cons (.v _) (.cons (.v _) .nil))) ?_;rintro _ _ (⟨he,rfl,rfl⟩|⟨t0,t1,t2,rfl,rfl⟩)
 ·have e1:qUf x y z={ data:=#[] }:=by rw [qUf,if_pos he]
  have e2:qUg x y z=0:=by rw [qUg,if_pos he]
  with_reducible refine aH ?_;simp (disch:=omega) only [push_cast,↓iC9,simprocAttr]
  refine hK _ ?_;clear hK K;refine zE ?_;refine zE ?_;refine zJ (fun K hK=>?_);simp (disch:=omega) only [push_cast,↓iC9,simprocAttr];refine hK _ ?_;clear hK K
  refine zA ?_;refine yD rfl ?_;refine zE ?_;refine zJ (fun K hK=>?_);simp (disch:=omega) only [push_cast,↓iC9,simprocAttr];refine hK _ ?_;clear hK K
  refine zA ?_;refine zW ?_;refine zK ?_;simp only [yA,yM,yH,yE,aR,bT,yK,yJ,zS,zM,Nat.reduceEqDiff,reduceIte,reduceCtorEq];exact qU0 (by rw [e1,e2];rfl)
 ·have hE:=qAo t0 t1 t2
  have e1:qUf x y z=mgT (cQ x y z):=by rw [qUf,if_neg (by simpa using hE)]
  have e2:qUg x y z=mgN (cQ x y z):=by rw [qUg,if_neg (by simpa using hE)]
  have hlen:=qMy t0 t1 t2
  have hsz:∀ n,(mgT ((cQ x y z).take n)).size≤y.size + z.size + 31200:=fun n=>by
   have h1:=zD9 ((cQ x y z).take n)
   have h2:(cat (((cQ x y z).take n).flatMap (·.l))).size≤y.size:=by
    have:cat ((cQ x y z).flatMap (·.l))=y:=by rw [show (cQ x y z).flatMap (·.l)=dA y from qEj (dA x) (dA y) (dA z),qEl]
    rw [← List.take_append_drop n (cQ x y z),List.flatMap_append,tS] at this;rw [← congrArg ByteArray.size this,ByteArray.size_append];omega
   have h3:(cat (((cQ x y z).take n).flatMap (·.r))).size≤z.size:=by
    have:cat ((cQ x y z).flatMap (·.r))=z:=by rw [show (cQ x y z).flatMap (·.r)=dA z from qEi (dA x) (dA y) (dA z),qEl]
    rw [← List.take_append_drop n (cQ x y z),List.flatMap_append,tS] at this;rw [← congrArg ByteArray.size this,ByteArray.size_append];omega
   have h4:((cQ x y z).take n).length≤1200:=by rw [List.length_take];omega
   omega
  have hll:∀ c ∈ cQ x y z,c.b.length≤400∧c.l.length≤400∧c.r.length≤400∧(cat c.l).size≤y.size∧(cat c.r).size≤z.size:=fun c hc=>by
   have p1:=vA (·.b) hc
   have p2:=vA (·.l) hc
   have p3:=vA (·.r) hc
   rw [show (cQ x y z).flatMap (·.b)=dA x from qMz (dA x) (dA y) (dA z)] at p1
   rw [show (cQ x y z).flatMap (·.l)=dA y from qEj (dA x) (dA y) (dA z),qEl] at p2
   rw [show (cQ x y z).flatMap (·.r)=dA z from qEi (dA x) (dA y) (dA z),qEl] at p3
   have:=dX t0;have:=dX t1;have:=dX t2
   exact ⟨by omega,by omega,by omega,p2.2.1,p3.2.1⟩
  have hfin:qUf x y z=mgT ((cQ x y z).take (cQ x y z).length)∧qUg x y z=mgN ((cQ x y z).take (cQ x y z).length):=by rw [List.take_length];exact ⟨e1,e2⟩
  clear e1 e2;generalize cQ x y z=cs at *
  with_reducible refine aH ?_;simp (disch:=omega) only [push_cast,↓iC9,simprocAttr]
  refine hK _ ?_;clear hK K;refine zE ?_;refine zE ?_;refine zJ (fun K hK=>?_);simp (disch:=omega) only [push_cast,↓iC9,simprocAttr];refine hK _ ?_;clear hK K
  refine zA ?_;refine yC rfl ?_;refine zC ?_;refine zE ?_;refine zE ?_;refine zJ (fun K hK=>?_);simp (disch:=omega) only [push_cast,↓iC9,simprocAttr,jP];refine hK _ ?_;clear hK K
  refine zA ?_;refine zD ?_;refine fS (mgS cs) (fun n=>n≤cs.length) (fun n=>cs.length - n) [6,7,22,23,24] [128] 0 (by simp only [zZ,zR,zP,zQ,zN,zS,zM,zX,zU,Nat.reduceEqDiff,reduceIte,mgS];try rfl) (Nat.zero_le _) ?_
  intro n hn;simp only [mgS]
  by_cases hlt:n < cs.length
  ·obtain ⟨c,hc⟩:∃ c,cs[n]=c:=⟨_,rfl⟩
   have hcm:c ∈ cs:=hc ▸ List.getElem_mem hlt
   obtain ⟨b1,b2,b3,b4,b5⟩:=hll c hcm
   have hs1:=hsz n
   have hs2:=hsz (n + 1)
   have hnn:=zH4 (cs.take n)
   rw [List.length_take] at hnn
   have ht:cs.take (n + 1)=cs.take n ++ [c]:=by rw [List.take_succ_eq_append_getElem hlt,hc]
   rw [ht,uZ,ByteArray.size_append] at hs2
   have hT:=qWq c
   have hg:∀ d,(cks cs).getD n d=[.v (.bool c.st),.lst true (aD c.b),.lst true (aD c.l),.lst true (aD c.r)]:=fun d=>by rw [zAs hlt,hc];rfl
   generalize hTT:mgT (cs.take n)=T at *
   generalize hNN:mgN (cs.take n)=M at *
   cases hst:c.st with
  |true =>
    have hL:tR c:=.inl hst
    have eT:ckT c=cat c.l:=by rw [ckT,if_pos hL]
    have eN:ckN c=0:=by rw [ckN,if_pos hL]
    refine zE ?_;refine zJ (fun K hK=>?_);simp (disch:=omega) only [push_cast,↓iC9,simprocAttr];refine hK _ ?_;clear hK K
    refine zE ?_;refine yD rfl ?_;refine zC ?_;refine zE ?_;refine zD ?_;refine zE ?_;refine zJ (fun K hK=>?_);simp (disch:=omega) only [push_cast,↓iC9,simprocAttr,jP,pN,hg,hst];refine hK _ ?_;clear hK K
    refine yB [6,7,11,22,23,24] [88,128] (by simp only [zZ,zR,zP,zQ,zN,zS,zM,zX,zU,Nat.reduceEqDiff,reduceIte];exact rfl) ?_
    refine zD ?_;refine zE ?_;refine zE ?_;refine zJ (fun K hK=>?_);simp (disch:=omega) only [push_cast,↓iC9,simprocAttr];refine hK _ ?_;clear hK K
    refine zA ?_;refine yD rfl ?_;refine zC ?_;refine zA ?_
    skip
    refine yD rfl ?_;refine zJ (fun K hK=>?_);simp (disch:=omega) only [push_cast,↓iC9,simprocAttr]
    refine tZ zCj (qE0 c.l (by omega) (by omega)) (.cons (dF (aQ _)) .nil) ?_
    with_reducible refine aH ?_;simp (disch:=omega) only [push_cast,↓iC9,simprocAttr]
    refine ⟨by first|omega|decide|((repeat' apply And.intro) <;> first|omega|decide),?_⟩
    refine hK _ ?_;clear hK K;refine zB ?_;refine zB ?_;refine zA ?_;refine zJ (fun K hK=>?_);simp (disch:=omega) only [push_cast,↓iC9,simprocAttr];refine hK _ ?_;clear hK K
    refine zA ?_;refine ⟨n + 1,by simp only [zZ,zR,zP,zQ,zN,zS,zM,zX,zU,Nat.reduceEqDiff,reduceIte,mgS];rw [ht,uZ,qAn,hTT,hNN,eT,eN];try rfl,hlt,by omega⟩
  |false =>
    refine zE ?_;refine zJ (fun K hK=>?_);simp (disch:=omega) only [push_cast,↓iC9,simprocAttr];refine hK _ ?_;clear hK K
    refine zE ?_;refine yD rfl ?_;refine zC ?_;refine zE ?_;refine zD ?_;refine zE ?_;refine zJ (fun K hK=>?_);simp (disch:=omega) only [push_cast,↓iC9,simprocAttr,jP,pN,hg,hst];refine hK _ ?_;clear hK K
    refine yB [6,7,11,22,23,24] [88,128] (by simp only [zZ,zR,zP,zQ,zN,zS,zM,zX,zU,Nat.reduceEqDiff,reduceIte];exact rfl) ?_
    refine zD ?_;refine zE ?_;refine zE ?_;refine zJ (fun K hK=>?_);simp (disch:=omega) only [push_cast,↓iC9,simprocAttr];refine hK _ ?_;clear hK K
    refine zA ?_;refine yC rfl ?_;refine zE ?_;refine zJ (fun K hK=>?_);simp (disch:=omega) only [push_cast,↓iC9,simprocAttr]
    refine tZ zJf (qH5 c.l c.r (by omega) (by omega)) (.cons (dF (aQ _)) (.cons (dF (aQ _)) .nil)) ?_
    with_reducible refine aH ?_;simp (disch:=omega) only [push_cast,↓iC9,simprocAttr]
    refine hK _ ?_;clear hK K
    by_cases hlr:c.l=c.r
    ·have hL:tR c:=.inr (.inl hlr)
     have eT:ckT c=cat c.l:=by rw [ckT,if_pos hL]
     have eN:ckN c=0:=by rw [ckN,if_pos hL]
     rw [decide_eq_true hlr];refine zA ?_;refine yD rfl ?_;refine zC ?_;refine zA ?_
     skip
     refine yD rfl ?_;refine zJ (fun K hK=>?_);simp (disch:=omega) only [push_cast,↓iC9,simprocAttr]
     refine tZ zCj (qE0 c.l (by omega) (by omega)) (.cons (dF (aQ _)) .nil) ?_
     with_reducible refine aH ?_;simp (disch:=omega) only [push_cast,↓iC9,simprocAttr]
     refine ⟨by first|omega|decide|((repeat' apply And.intro) <;> first|omega|decide),?_⟩
     refine hK _ ?_;clear hK K;refine zB ?_;refine zB ?_;refine zA ?_;refine zJ (fun K hK=>?_);simp (disch:=omega) only [push_cast,↓iC9,simprocAttr];refine hK _ ?_;clear hK K
     refine zA ?_;refine ⟨n + 1,by simp only [zZ,zR,zP,zQ,zN,zS,zM,zX,zU,Nat.reduceEqDiff,reduceIte,mgS];rw [ht,uZ,qAn,hTT,hNN,eT,eN];try rfl,hlt,by omega⟩
    ·rw [decide_eq_false hlr];refine zA ?_;refine yC rfl ?_;refine zJ (fun K hK=>?_);simp (disch:=omega) only [push_cast,↓iC9,simprocAttr]
     refine tZ zJf (qH5 c.b c.r (by omega) (by omega)) (.cons (dF (aQ _)) (.cons (dF (aQ _)) .nil)) ?_
     with_reducible refine aH ?_;simp (disch:=omega) only [push_cast,↓iC9,simprocAttr]
     refine hK _ ?_;clear hK K
     by_cases hbr:c.b=c.r
     ·have hL:tR c:=.inr (.inr hbr)
      have eT:ckT c=cat c.l:=by rw [ckT,if_pos hL]
      have eN:ckN c=0:=by rw [ckN,if_pos hL]
      rw [decide_eq_true hbr];refine zA ?_
      skip
      refine yD rfl ?_;refine zJ (fun K hK=>?_);simp (disch:=omega) only [push_cast,↓iC9,simprocAttr]
      refine tZ zCj (qE0 c.l (by omega) (by omega)) (.cons (dF (aQ _)) .nil) ?_
      with_reducible refine aH ?_;simp (disch:=omega) only [push_cast,↓iC9,simprocAttr]
      refine ⟨by first|omega|decide|((repeat' apply And.intro) <;> first|omega|decide),?_⟩
      refine hK _ ?_;clear hK K;refine zB ?_;refine zB ?_;refine zA ?_;refine zJ (fun K hK=>?_);simp (disch:=omega) only [push_cast,↓iC9,simprocAttr];refine hK _ ?_;clear hK K
      refine zA ?_;refine ⟨n + 1,by simp only [zZ,zR,zP,zQ,zN,zS,zM,zX,zU,Nat.reduceEqDiff,reduceIte,mgS];rw [ht,uZ,qAn,hTT,hNN,eT,eN];try rfl,hlt,by omega⟩
     ·have hL:¬ tR c:=fun h=>h.elim (fun h=>by rw [hst] at h;cases h) (fun h=>h.elim hlr hbr)
      rw [decide_eq_false hbr];refine zA ?_
      skip
      refine yC rfl ?_;refine zE ?_;refine zJ (fun K hK=>?_);simp (disch:=omega) only [push_cast,↓iC9,simprocAttr]
      refine tZ zJf (qH5 c.b c.l (by omega) (by omega)) (.cons (dF (aQ _)) (.cons (dF (aQ _)) .nil)) ?_
      with_reducible refine aH ?_;simp (disch:=omega) only [push_cast,↓iC9,simprocAttr]
      refine hK _ ?_;clear hK K
      by_cases hbl:c.b=c.l
      ·have eT:ckT c=cat c.r:=by rw [ckT,if_neg hL,if_pos hbl]
       have eN:ckN c=0:=by rw [ckN,if_neg hL,if_pos hbl]
       rw [decide_eq_true hbl];refine zA ?_;refine yD rfl ?_;refine zJ (fun K hK=>?_);simp (disch:=omega) only [push_cast,↓iC9,simprocAttr]
       refine tZ zCj (qE0 c.r (by omega) (by omega)) (.cons (dF (aQ _)) .nil) ?_
       with_reducible refine aH ?_;simp (disch:=omega) only [push_cast,↓iC9,simprocAttr]
       refine ⟨by first|omega|decide|((repeat' apply And.intro) <;> first|omega|decide),?_⟩
       refine hK _ ?_;clear hK K;refine zB ?_;refine zB ?_;refine zA ?_;refine zJ (fun K hK=>?_);simp (disch:=omega) only [push_cast,↓iC9,simprocAttr];refine hK _ ?_;clear hK K
       refine zA ?_;refine ⟨n + 1,by simp only [zZ,zR,zP,zQ,zN,zS,zM,zX,zU,Nat.reduceEqDiff,reduceIte,mgS];rw [ht,uZ,qAn,hTT,hNN,eT,eN];try rfl,hlt,by omega⟩
      ·have eT:ckT c=((((mkA ++ cat (jA c.l)) ++ mkM) ++ cat (jA c.r)) ++ mkB):=by rw [ckT,if_neg hL,if_neg hbl]
       have eN:ckN c=1:=by rw [ckN,if_neg hL,if_neg hbl]
       rw [decide_eq_false hbl]
       have k1:=qWm c.l (by omega) (fun x hx=>by have:=zAv hx;omega)
       have k2:=qWm c.r (by omega) (fun x hx=>by have:=zAv hx;omega)
       have z1:=tQ c.l
       have z2:=tQ c.r
       have j1:=qE0 (jA c.l) (by rw [qG2];omega) (by omega)
       have j2:=qE0 (jA c.r) (by rw [qG2];omega) (by omega)
       refine zA ?_;refine yC rfl ?_;refine zE ?_;refine zJ (fun K hK=>?_);simp (disch:=omega) only [push_cast,↓iC9,simprocAttr];refine hK _ ?_;clear hK K
       refine yB [6,7,11,22,23,24] [88,128] (by simp only [zZ,zR,zP,zQ,zN,zS,zM,zX,zU,Nat.reduceEqDiff,reduceIte];exact rfl) ?_
       have sA:({ data:=#[60,60,60,60,60,60,60,10] }:ByteArray).size=8:=rfl
       have sM:({ data:=#[61,61,61,61,61,61,61,10] }:ByteArray).size=8:=rfl
       have sB:({ data:=#[62,62,62,62,62,62,62,10] }:ByteArray).size=8:=rfl
       refine qNa 13 mixed (by kernel_rfl) (fun K hK K1 hK1=>?_);simp (disch:=omega) only [push_cast,↓iC9,simprocAttr]
       refine qVn zK4 k1 (.cons (dF (aQ _)) .nil) ?_;with_reducible refine aH ?_;simp (disch:=omega) only [push_cast,↓iC9,simprocAttr]
       refine qVm zCj j1 (.cons (dF (aQ _)) .nil) ?_;with_reducible refine aH ?_;simp (disch:=omega) only [push_cast,↓iC9,simprocAttr,sA,sM,sB,ByteArray.size_append]
       refine ⟨by omega,by omega,?_⟩
       refine qVn zK4 k2 (.cons (dF (aQ _)) .nil) ?_;with_reducible refine aH ?_;simp (disch:=omega) only [push_cast,↓iC9,simprocAttr]
       refine qVm zCj j2 (.cons (dF (aQ _)) .nil) ?_;with_reducible refine aH ?_;simp (disch:=omega) only [push_cast,↓iC9,simprocAttr,sA,sM,sB,ByteArray.size_append]
       refine ⟨by omega,by omega,?_⟩
       refine hK1 _ ?_;(try clear hK1 K1);with_reducible refine aH ?_;simp (disch:=omega) only [push_cast,↓iC9,simprocAttr,sA,sM,sB,ByteArray.size_append]
       refine ⟨by omega,?_⟩
       refine hK _ ?_;clear hK K;refine zB ?_;refine zB ?_;refine zA ?_;refine zJ (fun K hK=>?_);simp (disch:=omega) only [push_cast,↓iC9,simprocAttr];refine hK _ ?_;clear hK K
       refine zA ?_;refine ⟨n + 1,by simp only [zZ,zR,zP,zQ,zN,zS,zM,zX,zU,Nat.reduceEqDiff,reduceIte,mgS];rw [ht,uZ,qAn,hTT,hNN,eT,eN];try rfl,hlt,by omega⟩
  ·have hne:n=cs.length:=by omega
   subst hne;refine zE ?_;refine zJ (fun K hK=>?_);simp (disch:=omega) only [push_cast,↓iC9,simprocAttr,jP];refine hK _ ?_;clear hK K
   refine zE ?_;refine yC rfl ?_;refine zT ?_;refine zG ?_;refine zG ?_;refine zH ?_;refine zE ?_;refine zJ (fun K hK=>?_);simp (disch:=omega) only [push_cast,↓iC9,simprocAttr];refine hK _ ?_;clear hK K
   refine zA ?_;refine zW ?_;simp only [yA,yM,yH,yE,aR,bT,yK,yJ,zS,zM,Nat.reduceEqDiff,reduceIte,reduceCtorEq];exact qU0 (by rw [hfin.1,hfin.2,hE])
end Go.Proofs.Ytmgilahhnbopmaa
