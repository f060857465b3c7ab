/-
  The reference's Merge, walked.
-/
import Derived.Test.YtdfjeokjmigkaaaGreatKept
import Derived.Test.YtdfjeokjmigkaaaGreatMrC
import Derived.Test.YtdfjeokjmigkaaaGreatDiffD
set_option linter.unusedSimpArgs false
set_option linter.unusedVariables false
section
set_option maxRecDepth 20000
namespace Go.Proofs.YtdfjeokjmigkaaaGreat
open Go Go.Eng Go.RowKit Go.DiffM

theorem zCz {α:Type} {a b:List α} {i:Nat} (h:a.take i=b.take i) (h1:a.length≤i) (h2:b.length≤i):a=b:=by
 rw [List.take_of_length_le h1,List.take_of_length_le h2] at h;exact h
theorem qWs {α:Type} {a b:List α} {i:Nat} (h:a.take i=b.take i) (h1:i < a.length) (h2:i < b.length) (he:a[i]=b[i]):a.take (i + 1)=b.take (i + 1):=by
 rw [List.take_succ_eq_append_getElem h1,List.take_succ_eq_append_getElem h2,h,he]
set_option maxHeartbeats 1000000 in
theorem qHc (a b:List ByteArray):HFun Tryz.prog 49 [.lst false (aK a),.lst false (aK b)] (fun h st=>h=.v (.bool (decide (a=b)))):=by
 refine eF (N:=26) Tryz.func49 rfl Tryz.ntmps49 Tryz.results49 (by simp) ?_
 refine zMi 0 rfl (fun hA=>?_)
 rw [aF] at hA;refine zE ?_;refine zJ (fun K hK=>?_);simp (disch:=omega) only [push_cast,↓Int.cast_ofNat_Int,simprocAttr];refine hK _ ?_
 by_cases hl:a.length=b.length
 ·refine zE ?_;refine zE ?_;refine zJ (fun K hK=>?_);simp (disch:=omega) only [push_cast,↓Int.cast_ofNat_Int,simprocAttr,aF];refine hK _ ?_
  refine zA ?_;refine yC rfl ?_;refine zC ?_;refine zE ?_;refine zE ?_;refine zJ (fun K hK=>?_);simp (disch:=omega) only [push_cast,↓Int.cast_ofNat_Int,simprocAttr];refine hK _ ?_
  refine zA ?_;refine zD ?_;refine bR (fun i:Nat=>⟨[(0,.lst false (aK a)),(1,.lst false (aK b)),(5,.v (.int .i64 i))],[]⟩) (fun i=>i≤a.length∧a.take i=b.take i) (fun i=>a.length - i) [0,1,5] [] 0 rfl ⟨Nat.zero_le _,rfl⟩ ?_
  rintro i ⟨hi,hp⟩;refine zE ?_;refine zE ?_;refine zJ (fun K hK=>?_);simp (disch:=omega) only [push_cast,↓Int.cast_ofNat_Int,simprocAttr,aF];refine hK _ ?_
  refine zA ?_;refine eQ rfl (fun hlt=>?_) (fun hge=>?_)
  ·have hia:i < a.length:=by simpa using hlt
   have hib:i < b.length:=by omega
   by_cases he:a[i]=b[i]
   ·have he':decide (a[i]=b[i])=true:=decide_eq_true he
    refine zC ?_;refine zE ?_;refine zD ?_;refine zE ?_;refine HW_drw 9 mixed (by kernel_rfl) (fun K hK=>?_);simp (disch:=omega) only [push_cast,↓Int.cast_ofNat_Int,simprocAttr,aF,bJ,eY,he']
    with_reducible refine aB ?_;simp (disch:=omega) only [push_cast,↓Int.cast_ofNat_Int,simprocAttr]
    refine hK _ ?_;refine zA ?_;refine yC rfl ?_;refine zC ?_;refine zB ?_;refine zA ?_;refine zJ (fun K hK=>?_);simp (disch:=omega) only [push_cast,↓Int.cast_ofNat_Int,simprocAttr];refine hK _ ?_
    exact zA ⟨i + 1,rfl,⟨hia,qWs hp hia hib he⟩,by omega⟩
   ·have he':decide (a[i]=b[i])=false:=decide_eq_false he
    refine zC ?_;refine zE ?_;refine zD ?_;refine zE ?_;refine HW_drw 9 mixed (by kernel_rfl) (fun K hK=>?_);simp (disch:=omega) only [push_cast,↓Int.cast_ofNat_Int,simprocAttr,aF,bJ,eY,he']
    with_reducible refine aB ?_;simp (disch:=omega) only [push_cast,↓Int.cast_ofNat_Int,simprocAttr]
    refine hK _ ?_;refine zA ?_;refine yD rfl ?_;refine zE ?_;refine zJ (fun K hK=>?_);simp (disch:=omega) only [push_cast,↓Int.cast_ofNat_Int,simprocAttr];refine hK _ ?_
    refine zA ?_;refine zW ?_;refine zL ?_;refine zK ?_;refine zK ?_;refine zL ?_;refine zK ?_;simp only [yA,yM,yH,yE,aA,aC,yK,yJ,zS,zM,Nat.reduceEqDiff,reduceIte,reduceCtorEq];refine aL ?_;rw [decide_eq_false (fun e=>he (by subst e;rfl))]
  ·have hge':a.length≤i:=by simpa using hge
   refine zT ?_;refine zG ?_;refine zG ?_;refine zH ?_;refine zE ?_;refine zJ (fun K hK=>?_);simp (disch:=omega) only [push_cast,↓Int.cast_ofNat_Int,simprocAttr];refine hK _ ?_
   refine zA ?_;refine zW ?_;simp only [yA,yM,yH,yE,aA,aC,yK,yJ,zS,zM,Nat.reduceEqDiff,reduceIte,reduceCtorEq];refine aL ?_;rw [decide_eq_true (zCz hp hge' (by omega))]
 ·refine zE ?_;refine zE ?_;refine zJ (fun K hK=>?_);simp (disch:=omega) only [push_cast,↓Int.cast_ofNat_Int,simprocAttr,aF];refine hK _ ?_
  refine zA ?_;refine yD rfl ?_;refine zE ?_;refine zJ (fun K hK=>?_);simp (disch:=omega) only [push_cast,↓Int.cast_ofNat_Int,simprocAttr];refine hK _ ?_
  refine zA ?_;refine zW ?_;refine zK ?_;simp only [yA,yM,yH,yE,aA,aC,yK,yJ,zS,zM,Nat.reduceEqDiff,reduceIte,reduceCtorEq];refine aL ?_;rw [decide_eq_false (fun e=>hl (by rw [e]))]
end Go.Proofs.YtdfjeokjmigkaaaGreat
end
section
set_option maxRecDepth 20000
namespace Go.Proofs.YtdfjeokjmigkaaaGreat
open Go Go.Eng Go.RowKit Go.DiffM


def mrS (cs:List (Ck ByteArray)) (n:Nat):HS:=⟨[(9,.own 152),(11,.v (.string (mgT (cs.take n)))),(12,.v (.int .i64 (mgN (cs.take n)))),(13,.v (.int .i64 n))],[(152,.sl true 77 4 (cks cs))]⟩
set_option maxHeartbeats 8000000 in
theorem qLe (x y z:ByteArray) (hx:x.size≤1073741824) (hy:y.size≤1073741824) (hz:z.size≤1073741824):HFun Tryz.prog 33 [.v (.string x),.v (.string y),.v (.string z)] (fun h st =>
  h=.tup [.v (.string (qF1 x y z)),.v (.int .i64 (qF2 x y z)),.v (.int .i64 (lP x y z))]):=by
 refine eF (N:=84) Tryz.func33 rfl Tryz.ntmps33 Tryz.results33 (by simp) ?_
 refine zE ?_;refine zJ (fun K hK=>?_);simp (disch:=omega) only [push_cast,↓Int.cast_ofNat_Int,simprocAttr];refine hK _ ?_
 refine zE ?_;refine zJ (fun K hK=>?_);simp (disch:=omega) only [push_cast,↓Int.cast_ofNat_Int,simprocAttr]
 refine hat 152 zX8 (qTp x y z (by omega) (by omega) (by omega)) (.cons (.v _) (.cons (.v _) (.cons (.v _) .nil))) ?_
 rintro _ _ (⟨he,rfl,rfl⟩|⟨t0,t1,t2,rfl,rfl⟩)
 ·have e1:qF1 x y z={ data:=#[] }:=by rw [qF1,if_pos he]
  have e2:qF2 x y z=0:=by rw [qF2,if_pos he]
  with_reducible refine aB ?_;simp (disch:=omega) only [push_cast,↓Int.cast_ofNat_Int,simprocAttr]
  refine hK _ ?_;refine zE ?_;refine zE ?_;refine zJ (fun K hK=>?_);simp (disch:=omega) only [push_cast,↓Int.cast_ofNat_Int,simprocAttr];refine hK _ ?_
  refine zA ?_;refine yD rfl ?_;refine zE ?_;refine zJ (fun K hK=>?_);simp (disch:=omega) only [push_cast,↓Int.cast_ofNat_Int,simprocAttr];refine hK _ ?_
  refine zA ?_;refine zW ?_;refine zK ?_;simp only [yA,yM,yH,yE,aA,aC,yK,yJ,zS,zM,Nat.reduceEqDiff,reduceIte,reduceCtorEq];exact gD (by rw [e1,e2];rfl)
 ·have hE:=qUb t0 t1 t2
  have e1:qF1 x y z=mgT (aS x y z):=by rw [qF1,if_neg (by simpa using hE)]
  have e2:qF2 x y z=mgN (aS x y z):=by rw [qF2,if_neg (by simpa using hE)]
  have hlen:=qMz t0 t1 t2
  have hsz:∀ n,(mgT ((aS x y z).take n)).size≤y.size + z.size + 31200:=fun n=>by
   have h1:=qUa ((aS x y z).take n)
   have h2:(cat (((aS x y z).take n).flatMap (·.l))).size≤y.size:=by
    have:cat ((aS x y z).flatMap (·.l))=y:=by rw [show (aS x y z).flatMap (·.l)=bW y from qC8 (bW x) (bW y) (bW z),rC]
    rw [← List.take_append_drop n (aS x y z),List.flatMap_append,mX] at this;rw [← congrArg ByteArray.size this,ByteArray.size_append];omega
   have h3:(cat (((aS x y z).take n).flatMap (·.r))).size≤z.size:=by
    have:cat ((aS x y z).flatMap (·.r))=z:=by rw [show (aS x y z).flatMap (·.r)=bW z from qC7 (bW x) (bW y) (bW z),rC]
    rw [← List.take_append_drop n (aS x y z),List.flatMap_append,mX] at this;rw [← congrArg ByteArray.size this,ByteArray.size_append];omega
   have h4:((aS x y z).take n).length≤1200:=by rw [List.length_take];omega
   omega
  have hll:∀ c ∈ aS x y z,c.b.length≤400∧c.l.length≤400∧c.r.length≤400∧(cat c.l).size≤y.size∧(cat c.r).size≤z.size:=fun c hc=>by
   have p1:=yS (·.b) hc
   have p2:=yS (·.l) hc
   have p3:=yS (·.r) hc
   rw [show (aS x y z).flatMap (·.b)=bW x from qM0 (bW x) (bW y) (bW z)] at p1
   rw [show (aS x y z).flatMap (·.l)=bW y from qC8 (bW x) (bW y) (bW z),rC] at p2
   rw [show (aS x y z).flatMap (·.r)=bW z from qC7 (bW x) (bW y) (bW z),rC] at p3
   have:=eU t0;have:=eU t1;have:=eU t2
   exact ⟨by omega,by omega,by omega,p2.2.1,p3.2.1⟩
  have hfin:qF1 x y z=mgT ((aS x y z).take (aS x y z).length)∧qF2 x y z=mgN ((aS x y z).take (aS x y z).length):=by rw [List.take_length];exact ⟨e1,e2⟩
  clear e1 e2;generalize aS x y z=cs at *
  with_reducible refine aB ?_;simp (disch:=omega) only [push_cast,↓Int.cast_ofNat_Int,simprocAttr]
  refine hK _ ?_;refine zE ?_;refine zE ?_;refine zJ (fun K hK=>?_);simp (disch:=omega) only [push_cast,↓Int.cast_ofNat_Int,simprocAttr];refine hK _ ?_
  refine zA ?_;refine yC rfl ?_;refine zC ?_;refine zE ?_;refine zJ (fun K hK=>?_);simp (disch:=omega) only [push_cast,↓Int.cast_ofNat_Int,simprocAttr];refine hK _ ?_
  refine zE ?_;refine zE ?_;refine zJ (fun K hK=>?_);simp (disch:=omega) only [push_cast,↓Int.cast_ofNat_Int,simprocAttr];refine hK _ ?_
  refine zA ?_;refine zD ?_;refine bR (mrS cs) (fun n=>n≤cs.length) (fun n=>cs.length - n) [9,11,12,13] [152] 0 (by simp only [zZ,zR,zP,zQ,zN,zS,zM,zX,zU,Nat.reduceEqDiff,reduceIte,mrS];try rfl) (Nat.zero_le _) ?_
  intro n hn;simp only [mrS]
  by_cases hlt:n < cs.length
  ·obtain ⟨c,hc⟩:∃ c,cs[n]=c:=⟨_,rfl⟩
   have hcm:c ∈ cs:=hc ▸ List.getElem_mem hlt
   obtain ⟨b1,b2,b3,b4,b5⟩:=hll c hcm
   have hs1:=hsz n
   have hs2:=hsz (n + 1)
   have hnn:=zJs (cs.take n)
   rw [List.length_take] at hnn
   have ht:cs.take (n + 1)=cs.take n ++ [c]:=by rw [List.take_succ_eq_append_getElem hlt,hc]
   rw [ht,jR,ByteArray.size_append] at hs2
   have hT:=qMy c
   have hg:∀ d,(cks cs).getD n d=[.v (.bool c.st),.lst true (aK c.b),.lst true (aK c.l),.lst true (aK c.r)]:=fun d=>by rw [qSh hlt,hc];rfl
   generalize hTT:mgT (cs.take n)=T at *
   generalize hNN:mgN (cs.take n)=M at *
   refine zE ?_;refine zE ?_;refine zJ (fun K hK=>?_);simp (disch:=omega) only [push_cast,↓Int.cast_ofNat_Int,simprocAttr,iE];refine hK _ ?_
   refine zA ?_;refine yD rfl ?_;refine zC ?_;refine zE ?_
   cases hst:c.st with
  |true =>
    have hL:mV c:=.inl hst
    have eT:ckT c=cat c.l:=by rw [ckT,if_pos hL]
    have eN:ckN c=0:=by rw [ckN,if_pos hL]
    refine zD ?_;refine zE ?_;refine zJ (fun K hK=>?_);simp (disch:=omega) only [push_cast,↓Int.cast_ofNat_Int,simprocAttr,iE,oS,hg,hst];refine hK _ ?_
    refine yB [9,11,12,13,14] [112,152] (by simp only [zZ,zR,zP,zQ,zN,zS,zM,zX,zU,Nat.reduceEqDiff,reduceIte];exact rfl) ?_
    refine zE ?_;refine zJ (fun K hK=>?_);simp (disch:=omega) only [push_cast,↓Int.cast_ofNat_Int,simprocAttr]
    refine hK _ ?_;refine zA ?_;refine yD rfl ?_;refine zJ (fun K hK=>?_);simp (disch:=omega) only [push_cast,↓Int.cast_ofNat_Int,simprocAttr]
    refine aW zGi (sG c.l (by omega) (by omega)) (.cons (aH (aN _)) .nil) ?_
    with_reducible refine aB ?_;simp (disch:=omega) only [push_cast,↓Int.cast_ofNat_Int,simprocAttr]
    refine ⟨by first|omega|decide|((repeat' apply And.intro) <;> first|omega|decide),?_⟩
    refine hK _ ?_;refine zB ?_;refine zA ?_;refine zJ (fun K hK=>?_);simp (disch:=omega) only [push_cast,↓Int.cast_ofNat_Int,simprocAttr];refine hK _ ?_
    refine zA ?_;refine ⟨n + 1,by simp only [zZ,zR,zP,zQ,zN,zS,zM,zX,zU,Nat.reduceEqDiff,reduceIte,mrS];rw [ht,jR,mD,hTT,hNN,eT,eN];try rfl,hlt,by omega⟩
  |false =>
    refine zD ?_;refine zE ?_;refine zJ (fun K hK=>?_);simp (disch:=omega) only [push_cast,↓Int.cast_ofNat_Int,simprocAttr,iE,oS,hg,hst];refine hK _ ?_
    refine yB [9,11,12,13,14] [112,152] (by simp only [zZ,zR,zP,zQ,zN,zS,zM,zX,zU,Nat.reduceEqDiff,reduceIte];exact rfl) ?_
    by_cases hlr:c.l=c.r
    ·have hL:mV c:=.inr (.inl hlr)
     have eT:ckT c=cat c.l:=by rw [ckT,if_pos hL]
     have eN:ckN c=0:=by rw [ckN,if_pos hL]
     have S1:=qHc c.l c.r
     rw [decide_eq_true hlr] at S1;refine zE ?_;refine zJ (fun K hK=>?_);simp (disch:=omega) only [push_cast,↓Int.cast_ofNat_Int,simprocAttr]
     refine aW zA0 S1 (.cons (aH (aN _)) (.cons (aH (aN _)) .nil)) ?_;with_reducible refine aB ?_;simp (disch:=omega) only [push_cast,↓Int.cast_ofNat_Int,simprocAttr]
     refine hK _ ?_;refine zA ?_;refine yD rfl ?_;refine zJ (fun K hK=>?_);simp (disch:=omega) only [push_cast,↓Int.cast_ofNat_Int,simprocAttr]
     refine aW zGi (sG c.l (by omega) (by omega)) (.cons (aH (aN _)) .nil) ?_
     with_reducible refine aB ?_;simp (disch:=omega) only [push_cast,↓Int.cast_ofNat_Int,simprocAttr]
     refine ⟨by first|omega|decide|((repeat' apply And.intro) <;> first|omega|decide),?_⟩
     refine hK _ ?_;refine zB ?_;refine zA ?_;refine zJ (fun K hK=>?_);simp (disch:=omega) only [push_cast,↓Int.cast_ofNat_Int,simprocAttr];refine hK _ ?_
     refine zA ?_;refine ⟨n + 1,by simp only [zZ,zR,zP,zQ,zN,zS,zM,zX,zU,Nat.reduceEqDiff,reduceIte,mrS];rw [ht,jR,mD,hTT,hNN,eT,eN];try rfl,hlt,by omega⟩
    ·have S1:=qHc c.l c.r
     rw [decide_eq_false hlr] at S1
     by_cases hbr:c.b=c.r
     ·have hL:mV c:=.inr (.inr hbr)
      have eT:ckT c=cat c.l:=by rw [ckT,if_pos hL]
      have eN:ckN c=0:=by rw [ckN,if_pos hL]
      have S2:=qHc c.r c.b
      rw [decide_eq_true hbr.symm] at S2;refine zE ?_;refine zJ (fun K hK=>?_);simp (disch:=omega) only [push_cast,↓Int.cast_ofNat_Int,simprocAttr]
      refine aW zA0 S1 (.cons (aH (aN _)) (.cons (aH (aN _)) .nil)) ?_;with_reducible refine aB ?_;simp (disch:=omega) only [push_cast,↓Int.cast_ofNat_Int,simprocAttr]
      refine aW zA0 S2 (.cons (aH (aN _)) (.cons (aH (aN _)) .nil)) ?_;with_reducible refine aB ?_;simp (disch:=omega) only [push_cast,↓Int.cast_ofNat_Int,simprocAttr]
      refine hK _ ?_;refine zA ?_;refine yD rfl ?_;refine zJ (fun K hK=>?_);simp (disch:=omega) only [push_cast,↓Int.cast_ofNat_Int,simprocAttr]
      refine aW zGi (sG c.l (by omega) (by omega)) (.cons (aH (aN _)) .nil) ?_
      with_reducible refine aB ?_;simp (disch:=omega) only [push_cast,↓Int.cast_ofNat_Int,simprocAttr]
      refine ⟨by first|omega|decide|((repeat' apply And.intro) <;> first|omega|decide),?_⟩
      refine hK _ ?_;refine zB ?_;refine zA ?_;refine zJ (fun K hK=>?_);simp (disch:=omega) only [push_cast,↓Int.cast_ofNat_Int,simprocAttr];refine hK _ ?_
      refine zA ?_;refine ⟨n + 1,by simp only [zZ,zR,zP,zQ,zN,zS,zM,zX,zU,Nat.reduceEqDiff,reduceIte,mrS];rw [ht,jR,mD,hTT,hNN,eT,eN];try rfl,hlt,by omega⟩
     ·have hL:¬ mV c:=fun h=>h.elim (fun h=>by rw [hst] at h;cases h) (fun h=>h.elim hlr hbr)
      have S2:=qHc c.r c.b
      rw [decide_eq_false (fun e=>hbr e.symm)] at S2
      refine zE ?_;refine zJ (fun K hK=>?_);simp (disch:=omega) only [push_cast,↓Int.cast_ofNat_Int,simprocAttr]
      refine aW zA0 S1 (.cons (aH (aN _)) (.cons (aH (aN _)) .nil)) ?_;with_reducible refine aB ?_;simp (disch:=omega) only [push_cast,↓Int.cast_ofNat_Int,simprocAttr]
      refine aW zA0 S2 (.cons (aH (aN _)) (.cons (aH (aN _)) .nil)) ?_;with_reducible refine aB ?_;simp (disch:=omega) only [push_cast,↓Int.cast_ofNat_Int,simprocAttr]
      refine hK _ ?_;refine zA ?_;refine yC rfl ?_;refine yB [9,11,12,13,14] [112,152] (by simp only [zZ,zR,zP,zQ,zN,zS,zM,zX,zU,Nat.reduceEqDiff,reduceIte];exact rfl) ?_
      by_cases hbl:c.b=c.l
      ·have eT:ckT c=cat c.r:=by rw [ckT,if_neg hL,if_pos hbl]
       have eN:ckN c=0:=by rw [ckN,if_neg hL,if_pos hbl]
       have S3:=qHc c.l c.b
       rw [decide_eq_true hbl.symm] at S3;refine zE ?_;refine zJ (fun K hK=>?_);simp (disch:=omega) only [push_cast,↓Int.cast_ofNat_Int,simprocAttr]
       refine aW zA0 S3 (.cons (aH (aN _)) (.cons (aH (aN _)) .nil)) ?_;with_reducible refine aB ?_;simp (disch:=omega) only [push_cast,↓Int.cast_ofNat_Int,simprocAttr]
       refine hK _ ?_;refine zA ?_;refine yD rfl ?_;refine zJ (fun K hK=>?_);simp (disch:=omega) only [push_cast,↓Int.cast_ofNat_Int,simprocAttr]
       refine aW zGi (sG c.r (by omega) (by omega)) (.cons (aH (aN _)) .nil) ?_
       with_reducible refine aB ?_;simp (disch:=omega) only [push_cast,↓Int.cast_ofNat_Int,simprocAttr]
       refine ⟨by first|omega|decide|((repeat' apply And.intro) <;> first|omega|decide),?_⟩
       refine hK _ ?_;refine zB ?_;refine zA ?_;refine zJ (fun K hK=>?_);simp (disch:=omega) only [push_cast,↓Int.cast_ofNat_Int,simprocAttr];refine hK _ ?_
       refine zA ?_;refine ⟨n + 1,by simp only [zZ,zR,zP,zQ,zN,zS,zM,zX,zU,Nat.reduceEqDiff,reduceIte,mrS];rw [ht,jR,mD,hTT,hNN,eT,eN];try rfl,hlt,by omega⟩
      ·have eT:ckT c=((((mkA ++ cat (dU c.l)) ++ mkM) ++ cat (dU c.r)) ++ mkB):=by rw [ckT,if_neg hL,if_neg hbl]
       have eN:ckN c=1:=by rw [ckN,if_neg hL,if_neg hbl]
       have S3:=qHc c.l c.b
       rw [decide_eq_false (fun e=>hbl e.symm)] at S3
       have k1:=qJk c.l (by omega) (fun x hx=>by have:=qKa hx;omega)
       have k2:=qJk c.r (by omega) (fun x hx=>by have:=qKa hx;omega)
       have z1:=nU c.l
       have z2:=nU c.r
       have j1:=sG (dU c.l) (by rw [nT];omega) (by omega)
       have j2:=sG (dU c.r) (by rw [nT];omega) (by omega)
       refine zE ?_;refine zJ (fun K hK=>?_);simp (disch:=omega) only [push_cast,↓Int.cast_ofNat_Int,simprocAttr]
       refine aW zA0 S3 (.cons (aH (aN _)) (.cons (aH (aN _)) .nil)) ?_;with_reducible refine aB ?_;simp (disch:=omega) only [push_cast,↓Int.cast_ofNat_Int,simprocAttr]
       refine hK _ ?_;refine zA ?_;refine yC rfl ?_;refine zE ?_;refine zJ (fun K hK=>?_);simp (disch:=omega) only [push_cast,↓Int.cast_ofNat_Int,simprocAttr];refine hK _ ?_
       refine yB [9,11,12,13,14] [112,152] (by simp only [zZ,zR,zP,zQ,zN,zS,zM,zX,zU,Nat.reduceEqDiff,reduceIte];exact rfl) ?_
       have sA:({ data:=#[60,60,60,60,60,60,60,10] }:ByteArray).size=8:=rfl
       have sM:({ data:=#[61,61,61,61,61,61,61,10] }:ByteArray).size=8:=rfl
       have sB:({ data:=#[62,62,62,62,62,62,62,10] }:ByteArray).size=8:=rfl
       refine qWg 12 mixed (by kernel_rfl) (fun K hK K1 hK1=>?_);simp (disch:=omega) only [push_cast,↓Int.cast_ofNat_Int,simprocAttr,sA,sM,sB,ByteArray.size_append]
       refine ⟨by omega,?_⟩
       refine qEo zVz k1 (.cons (aH (aN _)) .nil) ?_;with_reducible refine aB ?_;simp (disch:=omega) only [push_cast,↓Int.cast_ofNat_Int,simprocAttr]
       refine zB7 zGi j1 (.cons (aH (aN _)) .nil) ?_;with_reducible refine aB ?_;simp (disch:=omega) only [push_cast,↓Int.cast_ofNat_Int,simprocAttr,sA,sM,sB,ByteArray.size_append]
       refine ⟨by omega,by omega,?_⟩
       refine qEo zVz k2 (.cons (aH (aN _)) .nil) ?_;with_reducible refine aB ?_;simp (disch:=omega) only [push_cast,↓Int.cast_ofNat_Int,simprocAttr]
       refine zB7 zGi j2 (.cons (aH (aN _)) .nil) ?_;with_reducible refine aB ?_;simp (disch:=omega) only [push_cast,↓Int.cast_ofNat_Int,simprocAttr,sA,sM,sB,ByteArray.size_append]
       refine hK1 _ ?_;(try clear hK1 K1);with_reducible refine aB ?_;simp (disch:=omega) only [push_cast,↓Int.cast_ofNat_Int,simprocAttr,sA,sM,sB,ByteArray.size_append]
       refine ⟨by omega,by omega,?_⟩
       refine hK _ ?_;refine zB ?_;refine zA ?_;refine zJ (fun K hK=>?_);simp (disch:=omega) only [push_cast,↓Int.cast_ofNat_Int,simprocAttr];refine hK _ ?_
       refine zA ?_;refine ⟨n + 1,by simp only [zZ,zR,zP,zQ,zN,zS,zM,zX,zU,Nat.reduceEqDiff,reduceIte,mrS];rw [ht,jR,mD,hTT,hNN,eT,eN];simp only [ByteArray.append_assoc];try rfl,hlt,by omega⟩
  ·have hne:n=cs.length:=by omega
   subst hne;refine zE ?_;refine zE ?_;refine zJ (fun K hK=>?_);simp (disch:=omega) only [push_cast,↓Int.cast_ofNat_Int,simprocAttr,iE];refine hK _ ?_
   refine zA ?_;refine yC rfl ?_;refine zT ?_;refine zG ?_;refine zG ?_;refine zH ?_;refine zE ?_;refine zJ (fun K hK=>?_);simp (disch:=omega) only [push_cast,↓Int.cast_ofNat_Int,simprocAttr];refine hK _ ?_
   refine zA ?_;refine zW ?_;simp only [yA,yM,yH,yE,aA,aC,yK,yJ,zS,zM,Nat.reduceEqDiff,reduceIte,reduceCtorEq];exact gD (by rw [hfin.1,hfin.2,hE])
end Go.Proofs.YtdfjeokjmigkaaaGreat
end
