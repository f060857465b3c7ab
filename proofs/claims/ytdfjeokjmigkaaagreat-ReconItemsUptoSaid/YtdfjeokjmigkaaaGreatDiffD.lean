/-
  The plain laws of the distance.
-/
import Derived.Test.YtdfjeokjmigkaaaGreatMgE
import Derived.Test.YtdfjeokjmigkaaaGreatCat
import Derived.Test.YtdfjeokjmigkaaaGreatJoin
import Derived.Test.YtdfjeokjmigkaaaGreatRcM
import Derived.Test.YtdfjeokjmigkaaaGreatKept
set_option linter.unusedSimpArgs false
set_option linter.unusedVariables false
section
set_option maxRecDepth 20000
namespace Go.Proofs.YtdfjeokjmigkaaaGreat
open Go Go.Eng Go.RowKit Go.DiffM


def mkA:ByteArray:={ data:=#[60,60,60,60,60,60,60,10] }
def mkM:ByteArray:={ data:=#[61,61,61,61,61,61,61,10] }
def mkB:ByteArray:={ data:=#[62,62,62,62,62,62,62,10] }
def mV (c:Ck ByteArray):Prop:=c.st=true∨c.l=c.r∨c.b=c.r
instance (c:Ck ByteArray):Decidable (mV c):=by unfold mV;infer_instance
def ckT (c:Ck ByteArray):ByteArray:=if mV c then cat c.l else if c.b=c.l then cat c.r else ((((mkA ++ cat (dU c.l)) ++ mkM) ++ cat (dU c.r)) ++ mkB)
def ckN (c:Ck ByteArray):Nat:=if mV c then 0 else if c.b=c.l then 0 else 1
def mgT (cs:List (Ck ByteArray)):ByteArray:=cat (cs.map ckT)
def mgN (cs:List (Ck ByteArray)):Nat:=(cs.map ckN).sum
def qF1 (x y z:ByteArray):ByteArray:=if lP x y z≠0 then { data:=#[] } else mgT (aS x y z)
def qF2 (x y z:ByteArray):Nat:=if lP x y z≠0 then 0 else mgN (aS x y z)
theorem nU (l:List ByteArray):(cat (dU l)).size≤(cat l).size + 1:=by
 rcases List.eq_nil_or_concat l with rfl|⟨q,x,rfl⟩
 ·simp [dU]
 ·rw [List.concat_eq_append]
  have:dU (q ++ [x])=q ++ [qE9 x]:=by
   unfold dU;simp [List.set_append]
  rw [this,mX,mX,qJ9,qJ9,ByteArray.size_append,ByteArray.size_append];unfold qE9;split
  ·omega
  ·rw [ByteArray.size_append];have:nl.size=1:=rfl;omega
theorem zJr:mkA.size=8:=rfl
theorem zJp:mkM.size=8:=rfl
theorem zJq:mkB.size=8:=rfl
theorem qMy (c:Ck ByteArray):(ckT c).size≤(cat c.l).size + (cat c.r).size + 26:=by
 unfold ckT;split
 ·omega
 ·split
  ·omega
  ·simp only [ByteArray.size_append,zJr,zJp,zJq]
   have:=nU c.l
   have:=nU c.r
   omega
theorem qUa (cs:List (Ck ByteArray)):(mgT cs).size≤(cat (cs.flatMap (·.l))).size + (cat (cs.flatMap (·.r))).size + 26 * cs.length:=by
 unfold mgT
 induction cs with
|nil=>simp [cat]
|cons c r ih =>
  rw [List.map_cons,qV1,List.flatMap_cons,List.flatMap_cons,mX,mX];simp only [ByteArray.size_append,List.length_cons]
  have:=qMy c
  omega
theorem jR (cs:List (Ck ByteArray)) (c:Ck ByteArray):mgT (cs ++ [c])=mgT cs ++ ckT c:=by rw [mgT,List.map_append,mX,List.map_singleton,qJ9];rfl
theorem mD (cs:List (Ck ByteArray)) (c:Ck ByteArray):mgN (cs ++ [c])=mgN cs + ckN c:=by simp [mgN]
theorem zGn {α:Type} {cs:List (Ck α)} (h:∀ c ∈ cs,zQ6 c):cs.length≤(cs.flatMap (·.b)).length + (cs.flatMap (·.l)).length + (cs.flatMap (·.r)).length:=by
 induction cs with
|nil=>simp
|cons c r ih =>
  have h1:=ih fun x hx=>h x (by simp [hx])
  have h2:=(h c (by simp)).1
  simp only [List.flatMap_cons,List.length_append,List.length_cons];omega
theorem qUb {x y z:ByteArray} (h0:eG x=0) (h1:eG y=0) (h2:eG z=0):lP x y z=0:=by
 rw [lP,if_neg (by simpa using h0),if_neg (by simpa using h1),h2]
theorem qMz {x y z:ByteArray} (h0:eG x=0) (h1:eG y=0) (h2:eG z=0):(aS x y z).length≤1200:=by
 have:=zGn (zGo (bW x) (bW y) (bW z))
 rw [qM0,qC8,qC7] at this
 have:=eU h0;have:=eU h1;have:=eU h2
 show (lY (bW x) (bW y) (bW z)).length≤1200
 omega
theorem yS {cs:List (Ck ByteArray)} (f:Ck ByteArray→List ByteArray) {c:Ck ByteArray} (h:c ∈ cs):(f c).length≤(cs.flatMap f).length∧(cat (f c)).size≤(cat (cs.flatMap f)).size∧(f c).Sublist (cs.flatMap f):=by
 induction cs with
|nil=>simp at h
|cons d r ih =>
  rw [List.flatMap_cons,mX];simp only [ByteArray.size_append,List.length_append]
  rcases List.mem_cons.1 h with rfl|h
  ·exact ⟨by omega,by omega,List.sublist_append_left _ _⟩
  ·obtain ⟨a,b,d⟩:=ih h;exact ⟨by omega,by omega,d.trans (List.sublist_append_right _ _)⟩
theorem qKa {l:List ByteArray} {x:ByteArray} (h:x ∈ l):x.size≤(cat l).size:=by
 induction l with
|nil=>simp at h
|cons a r ih =>
  rw [qV1,ByteArray.size_append]
  rcases List.mem_cons.1 h with rfl|h
  ·omega
  ·have:=ih h;omega
def mgS (cs:List (Ck ByteArray)) (n:Nat):HS:=⟨[(6,.v (.string (mgT (cs.take n)))),(7,.v (.int .i64 (mgN (cs.take n)))),(22,.own 128),(23,.v (.int .i64 cs.length)),(24,.v (.int .i64 n))],[(128,.sl true 77 4 (cks cs))]⟩
theorem zJs (cs:List (Ck ByteArray)):mgN cs≤cs.length:=by
 unfold mgN
 induction cs with
|nil=>simp
|cons c r ih =>
  simp only [List.map_cons,List.sum_cons,List.length_cons]
  have:ckN c≤1:=by
   unfold ckN;split
   ·omega
   ·split <;> omega
  omega
set_option maxHeartbeats 8000000 in
theorem zBu (x y z:ByteArray) (hx:x.size≤4294967296) (hy:y.size≤4294967296) (hz:z.size≤4294967296):HFun Tryz.prog 32 [.v (.string x),.v (.string y),.v (.string z)] (fun h st =>
  h=.tup [.v (.string (qF1 x y z)),.v (.int .i64 (qF2 x y z)),.v (.int .i64 (lP x y z))]):=by
 refine eF (N:=76) Tryz.func32 rfl Tryz.ntmps32 Tryz.results32 (by simp) ?_
 refine zE ?_;refine zJ (fun K hK=>?_);simp (disch:=omega) only [push_cast,↓Int.cast_ofNat_Int,simprocAttr];refine hK _ ?_
 refine zE ?_;refine zJ (fun K hK=>?_);simp (disch:=omega) only [push_cast,↓Int.cast_ofNat_Int,simprocAttr]
 refine hat 128 zX9 (zL7 x y z hx hy hz) (.cons (.v _) (.cons (.v _) (.cons (.v _) .nil))) ?_;rintro _ _ (⟨he,rfl,rfl⟩|⟨t0,t1,t2,rfl,rfl⟩)
 ·have e1:qF1 x y z={ data:=#[] }:=by rw [qF1,if_pos he]
  have e2:qF2 x y z=0:=by rw [qF2,if_pos he]
  with_reducible refine aB ?_;simp (disch:=omega) only [push_cast,↓Int.cast_ofNat_Int,simprocAttr]
  refine hK _ ?_;refine zE ?_;refine zE ?_;refine zJ (fun K hK=>?_);simp (disch:=omega) only [push_cast,↓Int.cast_ofNat_Int,simprocAttr];refine hK _ ?_
  refine zA ?_;refine yD rfl ?_;refine zE ?_;refine zJ (fun K hK=>?_);simp (disch:=omega) only [push_cast,↓Int.cast_ofNat_Int,simprocAttr];refine hK _ ?_
  refine zA ?_;refine zW ?_;refine zK ?_;simp only [yA,yM,yH,yE,aA,aC,yK,yJ,zS,zM,Nat.reduceEqDiff,reduceIte,reduceCtorEq];exact gD (by rw [e1,e2];rfl)
 ·have hE:=qUb t0 t1 t2
  have e1:qF1 x y z=mgT (aS x y z):=by rw [qF1,if_neg (by simpa using hE)]
  have e2:qF2 x y z=mgN (aS x y z):=by rw [qF2,if_neg (by simpa using hE)]
  have hlen:=qMz t0 t1 t2
  have hsz:∀ n,(mgT ((aS x y z).take n)).size≤y.size + z.size + 31200:=fun n=>by
   have h1:=qUa ((aS x y z).take n)
   have h2:(cat (((aS x y z).take n).flatMap (·.l))).size≤y.size:=by
    have:cat ((aS x y z).flatMap (·.l))=y:=by rw [show (aS x y z).flatMap (·.l)=bW y from qC8 (bW x) (bW y) (bW z),rC]
    rw [← List.take_append_drop n (aS x y z),List.flatMap_append,mX] at this;rw [← congrArg ByteArray.size this,ByteArray.size_append];omega
   have h3:(cat (((aS x y z).take n).flatMap (·.r))).size≤z.size:=by
    have:cat ((aS x y z).flatMap (·.r))=z:=by rw [show (aS x y z).flatMap (·.r)=bW z from qC7 (bW x) (bW y) (bW z),rC]
    rw [← List.take_append_drop n (aS x y z),List.flatMap_append,mX] at this;rw [← congrArg ByteArray.size this,ByteArray.size_append];omega
   have h4:((aS x y z).take n).length≤1200:=by rw [List.length_take];omega
   omega
  have hll:∀ c ∈ aS x y z,c.b.length≤400∧c.l.length≤400∧c.r.length≤400∧(cat c.l).size≤y.size∧(cat c.r).size≤z.size:=fun c hc=>by
   have p1:=yS (·.b) hc
   have p2:=yS (·.l) hc
   have p3:=yS (·.r) hc
   rw [show (aS x y z).flatMap (·.b)=bW x from qM0 (bW x) (bW y) (bW z)] at p1
   rw [show (aS x y z).flatMap (·.l)=bW y from qC8 (bW x) (bW y) (bW z),rC] at p2
   rw [show (aS x y z).flatMap (·.r)=bW z from qC7 (bW x) (bW y) (bW z),rC] at p3
   have:=eU t0;have:=eU t1;have:=eU t2
   exact ⟨by omega,by omega,by omega,p2.2.1,p3.2.1⟩
  have hfin:qF1 x y z=mgT ((aS x y z).take (aS x y z).length)∧qF2 x y z=mgN ((aS x y z).take (aS x y z).length):=by rw [List.take_length];exact ⟨e1,e2⟩
  clear e1 e2;generalize aS x y z=cs at *
  with_reducible refine aB ?_;simp (disch:=omega) only [push_cast,↓Int.cast_ofNat_Int,simprocAttr]
  refine hK _ ?_;refine zE ?_;refine zE ?_;refine zJ (fun K hK=>?_);simp (disch:=omega) only [push_cast,↓Int.cast_ofNat_Int,simprocAttr];refine hK _ ?_
  refine zA ?_;refine yC rfl ?_;refine zC ?_;refine zE ?_;refine zE ?_;refine zJ (fun K hK=>?_);simp (disch:=omega) only [push_cast,↓Int.cast_ofNat_Int,simprocAttr,iE];refine hK _ ?_
  refine zA ?_;refine zD ?_;refine bR (mgS cs) (fun n=>n≤cs.length) (fun n=>cs.length - n) [6,7,22,23,24] [128] 0 (by simp only [zZ,zR,zP,zQ,zN,zS,zM,zX,zU,Nat.reduceEqDiff,reduceIte,mgS];try rfl) (Nat.zero_le _) ?_
  intro n hn;simp only [mgS]
  by_cases hlt:n < cs.length
  ·obtain ⟨c,hc⟩:∃ c,cs[n]=c:=⟨_,rfl⟩
   have hcm:c ∈ cs:=hc ▸ List.getElem_mem hlt
   obtain ⟨b1,b2,b3,b4,b5⟩:=hll c hcm
   have hs1:=hsz n
   have hs2:=hsz (n + 1)
   have hnn:=zJs (cs.take n)
   rw [List.length_take] at hnn
   have ht:cs.take (n + 1)=cs.take n ++ [c]:=by rw [List.take_succ_eq_append_getElem hlt,hc]
   rw [ht,jR,ByteArray.size_append] at hs2
   have hT:=qMy c
   have hg:∀ d,(cks cs).getD n d=[.v (.bool c.st),.lst true (aK c.b),.lst true (aK c.l),.lst true (aK c.r)]:=fun d=>by rw [qSh hlt,hc];rfl
   generalize hTT:mgT (cs.take n)=T at *
   generalize hNN:mgN (cs.take n)=M at *
   cases hst:c.st with
  |true =>
    have hL:mV c:=.inl hst
    have eT:ckT c=cat c.l:=by rw [ckT,if_pos hL]
    have eN:ckN c=0:=by rw [ckN,if_pos hL]
    refine zE ?_;refine zJ (fun K hK=>?_);simp (disch:=omega) only [push_cast,↓Int.cast_ofNat_Int,simprocAttr];refine hK _ ?_
    refine zE ?_;refine yD rfl ?_;refine zC ?_;refine zE ?_;refine zD ?_;refine zE ?_;refine zJ (fun K hK=>?_);simp (disch:=omega) only [push_cast,↓Int.cast_ofNat_Int,simprocAttr,iE,oS,hg,hst];refine hK _ ?_
    refine yB [6,7,11,22,23,24] [88,128] (by simp only [zZ,zR,zP,zQ,zN,zS,zM,zX,zU,Nat.reduceEqDiff,reduceIte];exact rfl) ?_
    refine zD ?_;refine zE ?_;refine zE ?_;refine zJ (fun K hK=>?_);simp (disch:=omega) only [push_cast,↓Int.cast_ofNat_Int,simprocAttr];refine hK _ ?_
    refine zA ?_;refine yD rfl ?_;refine zC ?_;refine zA ?_
    skip
    refine yD rfl ?_;refine zJ (fun K hK=>?_);simp (disch:=omega) only [push_cast,↓Int.cast_ofNat_Int,simprocAttr]
    refine aW zGj (qHt c.l (by omega) (by omega)) (.cons (aH (aN _)) .nil) ?_
    with_reducible refine aB ?_;simp (disch:=omega) only [push_cast,↓Int.cast_ofNat_Int,simprocAttr]
    refine ⟨by first|omega|decide|((repeat' apply And.intro) <;> first|omega|decide),?_⟩
    refine hK _ ?_;refine zB ?_;refine zB ?_;refine zA ?_;refine zJ (fun K hK=>?_);simp (disch:=omega) only [push_cast,↓Int.cast_ofNat_Int,simprocAttr];refine hK _ ?_
    refine zA ?_;refine ⟨n + 1,by simp only [zZ,zR,zP,zQ,zN,zS,zM,zX,zU,Nat.reduceEqDiff,reduceIte,mgS];rw [ht,jR,mD,hTT,hNN,eT,eN];try rfl,hlt,by omega⟩
  |false =>
    refine zE ?_;refine zJ (fun K hK=>?_);simp (disch:=omega) only [push_cast,↓Int.cast_ofNat_Int,simprocAttr];refine hK _ ?_
    refine zE ?_;refine yD rfl ?_;refine zC ?_;refine zE ?_;refine zD ?_;refine zE ?_;refine zJ (fun K hK=>?_);simp (disch:=omega) only [push_cast,↓Int.cast_ofNat_Int,simprocAttr,iE,oS,hg,hst];refine hK _ ?_
    refine yB [6,7,11,22,23,24] [88,128] (by simp only [zZ,zR,zP,zQ,zN,zS,zM,zX,zU,Nat.reduceEqDiff,reduceIte];exact rfl) ?_
    refine zD ?_;refine zE ?_;refine zE ?_;refine zJ (fun K hK=>?_);simp (disch:=omega) only [push_cast,↓Int.cast_ofNat_Int,simprocAttr];refine hK _ ?_
    refine zA ?_;refine yC rfl ?_;refine zE ?_;refine zJ (fun K hK=>?_);simp (disch:=omega) only [push_cast,↓Int.cast_ofNat_Int,simprocAttr]
    refine aW zT7 (qK4 c.l c.r (by omega) (by omega)) (.cons (aH (aN _)) (.cons (aH (aN _)) .nil)) ?_
    with_reducible refine aB ?_;simp (disch:=omega) only [push_cast,↓Int.cast_ofNat_Int,simprocAttr]
    refine hK _ ?_
    by_cases hlr:c.l=c.r
    ·have hL:mV c:=.inr (.inl hlr)
     have eT:ckT c=cat c.l:=by rw [ckT,if_pos hL]
     have eN:ckN c=0:=by rw [ckN,if_pos hL]
     rw [decide_eq_true hlr];refine zA ?_;refine yD rfl ?_;refine zC ?_;refine zA ?_
     skip
     refine yD rfl ?_;refine zJ (fun K hK=>?_);simp (disch:=omega) only [push_cast,↓Int.cast_ofNat_Int,simprocAttr]
     refine aW zGj (qHt c.l (by omega) (by omega)) (.cons (aH (aN _)) .nil) ?_
     with_reducible refine aB ?_;simp (disch:=omega) only [push_cast,↓Int.cast_ofNat_Int,simprocAttr]
     refine ⟨by first|omega|decide|((repeat' apply And.intro) <;> first|omega|decide),?_⟩
     refine hK _ ?_;refine zB ?_;refine zB ?_;refine zA ?_;refine zJ (fun K hK=>?_);simp (disch:=omega) only [push_cast,↓Int.cast_ofNat_Int,simprocAttr];refine hK _ ?_
     refine zA ?_;refine ⟨n + 1,by simp only [zZ,zR,zP,zQ,zN,zS,zM,zX,zU,Nat.reduceEqDiff,reduceIte,mgS];rw [ht,jR,mD,hTT,hNN,eT,eN];try rfl,hlt,by omega⟩
    ·rw [decide_eq_false hlr];refine zA ?_;refine yC rfl ?_;refine zJ (fun K hK=>?_);simp (disch:=omega) only [push_cast,↓Int.cast_ofNat_Int,simprocAttr]
     refine aW zT7 (qK4 c.b c.r (by omega) (by omega)) (.cons (aH (aN _)) (.cons (aH (aN _)) .nil)) ?_
     with_reducible refine aB ?_;simp (disch:=omega) only [push_cast,↓Int.cast_ofNat_Int,simprocAttr]
     refine hK _ ?_
     by_cases hbr:c.b=c.r
     ·have hL:mV c:=.inr (.inr hbr)
      have eT:ckT c=cat c.l:=by rw [ckT,if_pos hL]
      have eN:ckN c=0:=by rw [ckN,if_pos hL]
      rw [decide_eq_true hbr];refine zA ?_
      skip
      refine yD rfl ?_;refine zJ (fun K hK=>?_);simp (disch:=omega) only [push_cast,↓Int.cast_ofNat_Int,simprocAttr]
      refine aW zGj (qHt c.l (by omega) (by omega)) (.cons (aH (aN _)) .nil) ?_
      with_reducible refine aB ?_;simp (disch:=omega) only [push_cast,↓Int.cast_ofNat_Int,simprocAttr]
      refine ⟨by first|omega|decide|((repeat' apply And.intro) <;> first|omega|decide),?_⟩
      refine hK _ ?_;refine zB ?_;refine zB ?_;refine zA ?_;refine zJ (fun K hK=>?_);simp (disch:=omega) only [push_cast,↓Int.cast_ofNat_Int,simprocAttr];refine hK _ ?_
      refine zA ?_;refine ⟨n + 1,by simp only [zZ,zR,zP,zQ,zN,zS,zM,zX,zU,Nat.reduceEqDiff,reduceIte,mgS];rw [ht,jR,mD,hTT,hNN,eT,eN];try rfl,hlt,by omega⟩
     ·have hL:¬ mV c:=fun h=>h.elim (fun h=>by rw [hst] at h;cases h) (fun h=>h.elim hlr hbr)
      rw [decide_eq_false hbr];refine zA ?_
      skip
      refine yC rfl ?_;refine zE ?_;refine zJ (fun K hK=>?_);simp (disch:=omega) only [push_cast,↓Int.cast_ofNat_Int,simprocAttr]
      refine aW zT7 (qK4 c.b c.l (by omega) (by omega)) (.cons (aH (aN _)) (.cons (aH (aN _)) .nil)) ?_
      with_reducible refine aB ?_;simp (disch:=omega) only [push_cast,↓Int.cast_ofNat_Int,simprocAttr]
      refine hK _ ?_
      by_cases hbl:c.b=c.l
      ·have eT:ckT c=cat c.r:=by rw [ckT,if_neg hL,if_pos hbl]
       have eN:ckN c=0:=by rw [ckN,if_neg hL,if_pos hbl]
       rw [decide_eq_true hbl];refine zA ?_;refine yD rfl ?_;refine zJ (fun K hK=>?_);simp (disch:=omega) only [push_cast,↓Int.cast_ofNat_Int,simprocAttr]
       refine aW zGj (qHt c.r (by omega) (by omega)) (.cons (aH (aN _)) .nil) ?_
       with_reducible refine aB ?_;simp (disch:=omega) only [push_cast,↓Int.cast_ofNat_Int,simprocAttr]
       refine ⟨by first|omega|decide|((repeat' apply And.intro) <;> first|omega|decide),?_⟩
       refine hK _ ?_;refine zB ?_;refine zB ?_;refine zA ?_;refine zJ (fun K hK=>?_);simp (disch:=omega) only [push_cast,↓Int.cast_ofNat_Int,simprocAttr];refine hK _ ?_
       refine zA ?_;refine ⟨n + 1,by simp only [zZ,zR,zP,zQ,zN,zS,zM,zX,zU,Nat.reduceEqDiff,reduceIte,mgS];rw [ht,jR,mD,hTT,hNN,eT,eN];try rfl,hlt,by omega⟩
      ·have eT:ckT c=((((mkA ++ cat (dU c.l)) ++ mkM) ++ cat (dU c.r)) ++ mkB):=by rw [ckT,if_neg hL,if_neg hbl]
       have eN:ckN c=1:=by rw [ckN,if_neg hL,if_neg hbl]
       rw [decide_eq_false hbl]
       have k1:=qVv c.l (by omega) (fun x hx=>by have:=qKa hx;omega)
       have k2:=qVv c.r (by omega) (fun x hx=>by have:=qKa hx;omega)
       have z1:=nU c.l
       have z2:=nU c.r
       have j1:=qHt (dU c.l) (by rw [nT];omega) (by omega)
       have j2:=qHt (dU c.r) (by rw [nT];omega) (by omega)
       refine zA ?_;refine yC rfl ?_;refine zE ?_;refine zJ (fun K hK=>?_);simp (disch:=omega) only [push_cast,↓Int.cast_ofNat_Int,simprocAttr];refine hK _ ?_
       refine yB [6,7,11,22,23,24] [88,128] (by simp only [zZ,zR,zP,zQ,zN,zS,zM,zX,zU,Nat.reduceEqDiff,reduceIte];exact rfl) ?_
       have sA:({ data:=#[60,60,60,60,60,60,60,10] }:ByteArray).size=8:=rfl
       have sM:({ data:=#[61,61,61,61,61,61,61,10] }:ByteArray).size=8:=rfl
       have sB:({ data:=#[62,62,62,62,62,62,62,10] }:ByteArray).size=8:=rfl
       refine qWg 13 mixed (by kernel_rfl) (fun K hK K1 hK1=>?_);simp (disch:=omega) only [push_cast,↓Int.cast_ofNat_Int,simprocAttr]
       refine qEo zV0 k1 (.cons (aH (aN _)) .nil) ?_;with_reducible refine aB ?_;simp (disch:=omega) only [push_cast,↓Int.cast_ofNat_Int,simprocAttr]
       refine zB7 zGj j1 (.cons (aH (aN _)) .nil) ?_;with_reducible refine aB ?_;simp (disch:=omega) only [push_cast,↓Int.cast_ofNat_Int,simprocAttr,sA,sM,sB,ByteArray.size_append]
       refine ⟨by omega,by omega,?_⟩
       refine qEo zV0 k2 (.cons (aH (aN _)) .nil) ?_;with_reducible refine aB ?_;simp (disch:=omega) only [push_cast,↓Int.cast_ofNat_Int,simprocAttr]
       refine zB7 zGj j2 (.cons (aH (aN _)) .nil) ?_;with_reducible refine aB ?_;simp (disch:=omega) only [push_cast,↓Int.cast_ofNat_Int,simprocAttr,sA,sM,sB,ByteArray.size_append]
       refine ⟨by omega,by omega,?_⟩
       refine hK1 _ ?_;(try clear hK1 K1);with_reducible refine aB ?_;simp (disch:=omega) only [push_cast,↓Int.cast_ofNat_Int,simprocAttr,sA,sM,sB,ByteArray.size_append]
       refine ⟨by omega,?_⟩
       refine hK _ ?_;refine zB ?_;refine zB ?_;refine zA ?_;refine zJ (fun K hK=>?_);simp (disch:=omega) only [push_cast,↓Int.cast_ofNat_Int,simprocAttr];refine hK _ ?_
       refine zA ?_;refine ⟨n + 1,by simp only [zZ,zR,zP,zQ,zN,zS,zM,zX,zU,Nat.reduceEqDiff,reduceIte,mgS];rw [ht,jR,mD,hTT,hNN,eT,eN];try rfl,hlt,by omega⟩
  ·have hne:n=cs.length:=by omega
   subst hne;refine zE ?_;refine zJ (fun K hK=>?_);simp (disch:=omega) only [push_cast,↓Int.cast_ofNat_Int,simprocAttr,iE];refine hK _ ?_
   refine zE ?_;refine yC rfl ?_;refine zT ?_;refine zG ?_;refine zG ?_;refine zH ?_;refine zE ?_;refine zJ (fun K hK=>?_);simp (disch:=omega) only [push_cast,↓Int.cast_ofNat_Int,simprocAttr];refine hK _ ?_
   refine zA ?_;refine zW ?_;simp only [yA,yM,yH,yE,aA,aC,yK,yJ,zS,zM,Nat.reduceEqDiff,reduceIte,reduceCtorEq];exact gD (by rw [hfin.1,hfin.2,hE])
end Go.Proofs.YtdfjeokjmigkaaaGreat
end
section
set_option maxRecDepth 20000
namespace Go.Proofs.YtdfjeokjmigkaaaGreat
open Go Go.Eng Go.RowKit Go.Tr Go.Dk Go.Rc Go.DiffM
def mgR (a h s:Int × ByteArray):Bool:=okM (iX h s (qF1 (nV a) h.2 s.2) (qF2 (nV a) h.2 s.2) (lP (nV a) h.2 s.2))
theorem qFg {a:Int × ByteArray} (h:a.2.size≤4096):(nV a).size≤4096:=by
 unfold nV;split
 ·exact h
 ·exact Nat.zero_le _
theorem zVc:zGy mgR:=fun a h s ha hh hs =>
 ⟨_,qPy a h s _ _ _ (zBu (nV a) h.2 s.2 (Nat.le_trans (qFg ha) (by decide)) (Nat.le_trans hh (by decide)) (Nat.le_trans hs (by decide)))⟩
end Go.Proofs.YtdfjeokjmigkaaaGreat
end
section
namespace Go.DiffM
variable {α:Type} [DecidableEq α]
theorem tX:∀ (n:Nat) (a b s:List α),a.length + b.length≤n→s.Sublist a→s.Sublist b→s.length≤lcs a b
|n,[],b,s,_,ha,_=>by rw [List.sublist_nil.1 ha];simp
|n,a,[],s,_,_,hb=>by rw [List.sublist_nil.1 hb];simp
|0,x :: xs,_,s,h,_,_=>by simp at h
|n + 1,x :: xs,y :: ys,s,h,ha,hb=>by
  simp only [List.length_cons] at h;rw [qF5]
  by_cases he:x=y
  ·rw [if_pos he]
   cases s with
  |nil=>simp
  |cons z t =>
    have h1:t.Sublist xs:=by
     cases ha with
    |cons _ h=>exact (List.sublist_cons_self z t).trans h
    |cons_cons _ h=>exact h
    have h2:t.Sublist ys:=by
     cases hb with
    |cons _ h=>exact (List.sublist_cons_self z t).trans h
    |cons_cons _ h=>exact h
    have:=tX n xs ys t (by omega) h1 h2
    simp;omega
  ·rw [if_neg he]
   cases ha with
  |cons _ h1 =>
    have:=tX n xs (y :: ys) s (by simp only [List.length_cons];omega) h1 hb
    omega
  |cons_cons _ h1 =>
    cases hb with
   |cons _ h2 =>
     have:=tX n (x :: xs) ys _ (by simp only [List.length_cons];omega) (h1.cons_cons x) h2
     omega
   |cons_cons _ h2=>exact absurd rfl he
theorem qL3:∀ (n:Nat) (a b:List α),a.length + b.length≤n→∃ s:List α,s.Sublist a∧s.Sublist b∧s.length=lcs a b
|n,[],b,_=>⟨[],by simp,by simp,by simp [lcs]⟩
|n,a,[],_=>⟨[],by simp,by simp,by simp [qL2]⟩
|0,x :: xs,_,h=>by simp at h
|n + 1,x :: xs,y :: ys,h=>by
  simp only [List.length_cons] at h;rw [qF5]
  by_cases he:x=y
  ·subst he;rw [if_pos rfl];obtain ⟨s,h1,h2,h3⟩:=qL3 n xs ys (by omega)
   exact ⟨x :: s,h1.cons_cons x,h2.cons_cons x,by simp [h3]⟩
  ·rw [if_neg he];obtain ⟨s,h1,h2,h3⟩:=qL3 n xs (y :: ys) (by simp only [List.length_cons];omega)
   obtain ⟨s',h1',h2',h3'⟩:=qL3 n (x :: xs) ys (by simp only [List.length_cons];omega)
   by_cases hm:lcs (x :: xs) ys≤lcs xs (y :: ys)
   ·exact ⟨s,h1.cons x,h2,by omega⟩
   ·exact ⟨s',h1',h2'.cons y,by omega⟩
end Go.DiffM
end
