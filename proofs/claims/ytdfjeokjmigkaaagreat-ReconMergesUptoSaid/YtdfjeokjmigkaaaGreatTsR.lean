/-
  The document's Sub.
-/
import Derived.Test.YtdfjeokjmigkaaaGreatDiffM
import Derived.Test.YtdfjeokjmigkaaaGreatDiffD
import Derived.Test.YtdfjeokjmigkaaaGreatMrD
import Derived.Test.YtdfjeokjmigkaaaGreatTrU
import Derived.Test.YtdfjeokjmigkaaaGreatUpt
import Derived.Test.YtdfjeokjmigkaaaGreatRcD
set_option linter.unusedSimpArgs false
set_option linter.unusedVariables false
section
set_option maxRecDepth 20000
namespace Go.Proofs.YtdfjeokjmigkaaaGreat
open Go Go.Eng Go.RowKit Go.Tr Go.Dk Go.Rc Go.DiffM
theorem qEq {n:Int × ByteArray} (h:sR n=true):n.2.size≤4096:=by
 unfold sR at h;split at h
 ·exact of_decide_eq_true h
 ·simp only [Bool.and_eq_true,decide_eq_true_eq] at h;omega
set_option maxHeartbeats 8000000 in
theorem qNr (a h s:Int × ByteArray):HFun Tryz.prog 4 [fE a,fE h,fE s] (fun h st=>h=.v (.bool true)):=by
 refine eF (N:=88) Tryz.func4 rfl Tryz.ntmps4 Tryz.results4 (by simp) ?_
 have wa:=qFl a
 have wh:=qFl h
 have ws:=qFl s
 cases d1:sR a with
|false =>
  rw [d1] at wa;obtain ⟨ka,da⟩:=a;obtain ⟨kh,dh⟩:=h;obtain ⟨ks,ds⟩:=s;refine zE ?_;refine zJ (fun K hK=>?_);simp (disch:=omega) only [push_cast,↓Int.cast_ofNat_Int,simprocAttr];refine hK _ ?_
  refine zE ?_;refine zE ?_;refine zJ (fun K hK=>?_);simp (disch:=omega) only [push_cast,↓Int.cast_ofNat_Int,simprocAttr]
  refine aW cl9 mA .nil ?_;with_reducible refine aB ?_;simp (disch:=omega) only [push_cast,↓Int.cast_ofNat_Int,simprocAttr]
  refine aW qGw wa (.cons (aR (ka,da)) .nil) ?_;with_reducible refine aB ?_;simp (disch:=omega) only [push_cast,↓Int.cast_ofNat_Int,simprocAttr]
  refine hK _ ?_;refine zA ?_;refine yD rfl ?_;refine zE ?_;refine zJ (fun K hK=>?_);simp (disch:=omega) only [push_cast,↓Int.cast_ofNat_Int,simprocAttr]
  refine aW cl9 mA .nil ?_;with_reducible refine aB ?_;simp (disch:=omega) only [push_cast,↓Int.cast_ofNat_Int,simprocAttr]
  refine hK _ ?_;refine zA ?_;refine zW ?_;refine zK ?_;simp only [yA,yM,yH,yE,aA,aC,yK,yJ,zS,zM,Nat.reduceEqDiff,reduceIte,reduceCtorEq];exact aL rfl
|true =>
 rw [d1] at wa
 cases d2:sR h with
|false =>
  rw [d2] at wh;obtain ⟨ka,da⟩:=a;obtain ⟨kh,dh⟩:=h;obtain ⟨ks,ds⟩:=s;refine zE ?_;refine zJ (fun K hK=>?_);simp (disch:=omega) only [push_cast,↓Int.cast_ofNat_Int,simprocAttr];refine hK _ ?_
  refine zE ?_;refine zE ?_;refine zJ (fun K hK=>?_);simp (disch:=omega) only [push_cast,↓Int.cast_ofNat_Int,simprocAttr]
  refine aW cl9 mA .nil ?_;with_reducible refine aB ?_;simp (disch:=omega) only [push_cast,↓Int.cast_ofNat_Int,simprocAttr]
  refine aW qGw wa (.cons (aR (ka,da)) .nil) ?_;with_reducible refine aB ?_;simp (disch:=omega) only [push_cast,↓Int.cast_ofNat_Int,simprocAttr]
  refine aW qGw wh (.cons (aR (kh,dh)) .nil) ?_;with_reducible refine aB ?_;simp (disch:=omega) only [push_cast,↓Int.cast_ofNat_Int,simprocAttr]
  refine hK _ ?_;refine zA ?_;refine yD rfl ?_;refine zE ?_;refine zJ (fun K hK=>?_);simp (disch:=omega) only [push_cast,↓Int.cast_ofNat_Int,simprocAttr]
  refine aW cl9 mA .nil ?_;with_reducible refine aB ?_;simp (disch:=omega) only [push_cast,↓Int.cast_ofNat_Int,simprocAttr]
  refine hK _ ?_;refine zA ?_;refine zW ?_;refine zK ?_;simp only [yA,yM,yH,yE,aA,aC,yK,yJ,zS,zM,Nat.reduceEqDiff,reduceIte,reduceCtorEq];exact aL rfl
|true =>
 rw [d2] at wh
 cases d3:sR s with
|false =>
  rw [d3] at ws;obtain ⟨ka,da⟩:=a;obtain ⟨kh,dh⟩:=h;obtain ⟨ks,ds⟩:=s;refine zE ?_;refine zJ (fun K hK=>?_);simp (disch:=omega) only [push_cast,↓Int.cast_ofNat_Int,simprocAttr];refine hK _ ?_
  refine zE ?_;refine zE ?_;refine zJ (fun K hK=>?_);simp (disch:=omega) only [push_cast,↓Int.cast_ofNat_Int,simprocAttr]
  refine aW cl9 mA .nil ?_;with_reducible refine aB ?_;simp (disch:=omega) only [push_cast,↓Int.cast_ofNat_Int,simprocAttr]
  refine aW qGw wa (.cons (aR (ka,da)) .nil) ?_;with_reducible refine aB ?_;simp (disch:=omega) only [push_cast,↓Int.cast_ofNat_Int,simprocAttr]
  refine aW qGw wh (.cons (aR (kh,dh)) .nil) ?_;with_reducible refine aB ?_;simp (disch:=omega) only [push_cast,↓Int.cast_ofNat_Int,simprocAttr]
  refine aW qGw ws (.cons (aR (ks,ds)) .nil) ?_;with_reducible refine aB ?_;simp (disch:=omega) only [push_cast,↓Int.cast_ofNat_Int,simprocAttr]
  refine hK _ ?_;refine zA ?_;refine yD rfl ?_;refine zE ?_;refine zJ (fun K hK=>?_);simp (disch:=omega) only [push_cast,↓Int.cast_ofNat_Int,simprocAttr]
  refine aW cl9 mA .nil ?_;with_reducible refine aB ?_;simp (disch:=omega) only [push_cast,↓Int.cast_ofNat_Int,simprocAttr]
  refine hK _ ?_;refine zA ?_;refine zW ?_;refine zK ?_;simp only [yA,yM,yH,yE,aA,aC,yK,yJ,zS,zM,Nat.reduceEqDiff,reduceIte,reduceCtorEq];exact aL rfl
|true =>
 rw [d3] at ws
 have z1:=qEq d1
 have z2:=qEq d2
 have z3:=qEq d3
 have zb:=qFg z1
 have cm:=zBu (nV a) h.2 s.2 (Nat.le_trans zb (by decide)) (Nat.le_trans z2 (by decide)) (Nat.le_trans z3 (by decide))
 have cr:=qLe (nV a) h.2 s.2 (Nat.le_trans zb (by decide)) (Nat.le_trans z2 (by decide)) (Nat.le_trans z3 (by decide))
 have m1:=qUd a h s _ _ _ cm
 have m2:=qPj a h s _ _ _ cr
 have n1:=qPy a h s _ _ _ cm
 have n2:=qK8 a h s _ _ _ cr
 clear cm cr;generalize iX h s (qF1 (nV a) h.2 s.2) (qF2 (nV a) h.2 s.2) (lP (nV a) h.2 s.2)=m at m1 m2 n1 n2;obtain ⟨t,n,e⟩:=m;dsimp only at m1 m2 n1 n2;generalize okM (t,n,e)=ok at n1 n2;obtain ⟨R,hR⟩:∃ R:Int × ByteArray,(if ok=true then ((2:Int),t) else (0,{ data:=#[] }))=R:=⟨_,rfl⟩
 rw [hR] at n1 n2;clear hR;obtain ⟨ka,da⟩:=a;obtain ⟨kh,dh⟩:=h;obtain ⟨ks,ds⟩:=s;obtain ⟨kr,dr⟩:=R
 have eR:decide (kr=kr∧dr=dr)=true:=by simp
 refine zE ?_;refine zJ (fun K hK=>?_);simp (disch:=omega) only [push_cast,↓Int.cast_ofNat_Int,simprocAttr];refine hK _ ?_
 refine zE ?_;refine zE ?_;refine zJ (fun K hK=>?_);simp (disch:=omega) only [push_cast,↓Int.cast_ofNat_Int,simprocAttr]
 refine aW cl9 mA .nil ?_;with_reducible refine aB ?_;simp (disch:=omega) only [push_cast,↓Int.cast_ofNat_Int,simprocAttr]
 refine aW qGw wa (.cons (aR (ka,da)) .nil) ?_;with_reducible refine aB ?_;simp (disch:=omega) only [push_cast,↓Int.cast_ofNat_Int,simprocAttr]
 refine aW qGw wh (.cons (aR (kh,dh)) .nil) ?_;with_reducible refine aB ?_;simp (disch:=omega) only [push_cast,↓Int.cast_ofNat_Int,simprocAttr]
 refine aW qGw ws (.cons (aR (ks,ds)) .nil) ?_;with_reducible refine aB ?_;simp (disch:=omega) only [push_cast,↓Int.cast_ofNat_Int,simprocAttr]
 refine hK _ ?_;refine zA ?_;refine yC rfl ?_;refine zC ?_;refine zE ?_;refine yB [3,4,5,6] [24,32,40] (by simp only [zZ,zR,zP,zQ,zN,zS,zM,zX,zU,Nat.reduceEqDiff,reduceIte];exact rfl) ?_
 refine zJ (fun K hK=>?_);simp (disch:=omega) only [push_cast,↓Int.cast_ofNat_Int,simprocAttr]
 refine hat 312 zV4 n1 (.cons (aR (ka,da)) (.cons (aR (kh,dh)) (.cons (aR (ks,ds)) .nil))) ?_;rintro _ _ ⟨rfl,rfl⟩;with_reducible refine aB ?_;simp (disch:=omega) only [push_cast,↓Int.cast_ofNat_Int,simprocAttr]
 refine hK _ ?_;refine yB [3,4,5,6,7,8] [24,32,40,56] (by simp only [zZ,zR,zP,zQ,zN,zS,zM,zX,zU,Nat.reduceEqDiff,reduceIte];exact rfl) ?_
 refine zE ?_;refine zJ (fun K hK=>?_);simp (disch:=omega) only [push_cast,↓Int.cast_ofNat_Int,simprocAttr]
 refine hat 368 zV3 n2 (.cons (aR (ka,da)) (.cons (aR (kh,dh)) (.cons (aR (ks,ds)) .nil))) ?_;rintro _ _ ⟨rfl,rfl⟩;with_reducible refine aB ?_;simp (disch:=omega) only [push_cast,↓Int.cast_ofNat_Int,simprocAttr]
 refine hK _ ?_;refine yB [3,4,5,6,7,8,9,10] [24,32,40,56,72] (by simp only [zZ,zR,zP,zQ,zN,zS,zM,zX,zU,Nat.reduceEqDiff,reduceIte];exact rfl) ?_
 refine zE ?_;refine zJ (fun K hK=>?_);simp (disch:=omega) only [push_cast,↓Int.cast_ofNat_Int,simprocAttr]
 refine qJz zV2 m1 (.cons (aR (ka,da)) (.cons (aR (kh,dh)) (.cons (aR (ks,ds)) .nil))) ?_;with_reducible refine aB ?_;simp (disch:=omega) only [push_cast,↓Int.cast_ofNat_Int,simprocAttr]
 refine hK _ ?_;refine yB [3,4,5,6,7,8,9,10,11,12,13] [24,32,40,56,72] (by simp only [zZ,zR,zP,zQ,zN,zS,zM,zX,zU,Nat.reduceEqDiff,reduceIte];exact rfl) ?_
 refine zE ?_;refine zJ (fun K hK=>?_);simp (disch:=omega) only [push_cast,↓Int.cast_ofNat_Int,simprocAttr]
 refine qJz zV1 m2 (.cons (aR (ka,da)) (.cons (aR (kh,dh)) (.cons (aR (ks,ds)) .nil))) ?_;with_reducible refine aB ?_;simp (disch:=omega) only [push_cast,↓Int.cast_ofNat_Int,simprocAttr]
 refine hK _ ?_;refine yB [6,7,8,9,10,11,12,13,14,15,16] [56,72] (by simp only [zZ,zR,zP,zQ,zN,zS,zM,zX,zU,Nat.reduceEqDiff,reduceIte];exact rfl) ?_
 refine zE ?_;refine zJ (fun K hK=>?_);simp (disch:=omega) only [push_cast,↓Int.cast_ofNat_Int,simprocAttr]
 refine ⟨_,eqN _ _ _ _,?_⟩
 cases ok with
|true =>
  with_reducible refine aB ?_;simp (disch:=omega) only [push_cast,↓Int.cast_ofNat_Int,simprocAttr,eR]
  refine hK _ ?_;refine zA ?_;refine zW ?_;simp only [yA,yM,yH,yE,aA,aC,yK,yJ,zS,zM,Nat.reduceEqDiff,reduceIte,reduceCtorEq];exact aL rfl
|false =>
  with_reducible refine aB ?_;simp (disch:=omega) only [push_cast,↓Int.cast_ofNat_Int,simprocAttr,eR]
  refine hK _ ?_;refine zA ?_;refine zW ?_;simp only [yA,yM,yH,yE,aA,aC,yK,yJ,zS,zM,Nat.reduceEqDiff,reduceIte,reduceCtorEq];exact aL rfl
end Go.Proofs.YtdfjeokjmigkaaaGreat
end
section
namespace Go.Rc
open Go Go.Tr Go.Eng Go.Dk
variable {mg:(Int × ByteArray)→(Int × ByteArray)→(Int × ByteArray)→Bool}
theorem iK {p q:ByteArray} {t:List UInt8} (h:p.data.toList=q.data.toList ++ t) (ht:t=[]∨∃ r,t=47 :: r):gF p q=true:=by
 unfold gF
 rcases ht with rfl|⟨r,rfl⟩
 ·have:p=q:=jF (by rw [h,List.append_nil])
  rw [decide_eq_true this];simp
 ·have:(q ++ stroke).data.toList.isPrefixOf p.data.toList=true:=by
   rw [List.isPrefixOf_iff_prefix];exact ⟨r,by rw [h];simp [stroke]⟩
  rw [this];simp
theorem qA5 (p:ByteArray):gF p { data:=#[] }=true:=by
 unfold gF
 have:({ data:=#[] }:ByteArray)=ByteArray.empty:=rfl
 rw [decide_eq_true this];rfl
theorem zCr (p:ByteArray):gF p p=true:=iK (t:=[]) (by simp) (.inl rfl)
theorem qWo {a b c:ByteArray} (h1:gF a b=true) (h2:gF b c=true):gF a c=true:=by
 by_cases hc:c={ data:=#[] }
 ·rw [hc];exact qA5 a
 ·obtain ⟨t2,e2,k2⟩:=jA h2 hc
  have hb:b≠{ data:=#[] }:=fun h=>by
   rw [h] at e2
   have e3:=congrArg List.length e2
   rw [List.length_append] at e3
   have e4:c.data.toList.length=0:=by
    have:(({ data:=#[] }:ByteArray).data.toList).length=0:=rfl
    omega
   exact hc (jF (by rw [List.length_eq_zero_iff.1 e4]))
  obtain ⟨t1,e1,k1⟩:=jA h1 hb;refine iK (t:=t2 ++ t1) (by rw [e1,e2,List.append_assoc]) ?_
  rcases k2 with rfl|⟨r,rfl⟩
  ·exact k1
  ·exact .inr ⟨r ++ t1,rfl⟩
theorem qHm {p q:ByteArray} {e:Ent} (h:cN p e=some q) (hs:∀ r,e.1.data.toList≠47 :: r):gF q p=true∧gF e.1 q=true∧gF e.1 p=true:=by
 unfold cN at h;split at h
 ·cases h
 ·rename_i hn;simp only [not_or,Option.some.injEq] at hn h;obtain ⟨h1,h2,h3⟩:=hn
  have hu:gF e.1 p=true:=by simpa using h2
  obtain ⟨f,hf⟩:∃ f,kB e.1 p=f:=⟨_,rfl⟩;rw [hf] at h h3
  have hfn:f.data.toList≠[]:=fun x=>h3 (jF (by rw [x]))
  have hql:q.data.toList=if p={ data:=#[] } then f.data.toList else p.data.toList ++ 47 :: f.data.toList:=by
   rw [← h];exact qDs _ _ h3
  have hfl:f.data.toList=(oW (e.1.data.toList.drop p.data.toList.length)).take (oX (oW (e.1.data.toList.drop p.data.toList.length))):=by rw [← hf,uW]
  have hrest:∀ (l:List UInt8),∃ t,l=l.take (oX l) ++ t∧(t=[]∨∃ r,t=47 :: r):=by
   intro l
   induction l with
  |nil=>exact ⟨[],rfl,.inl rfl⟩
  |cons c r ih =>
    rw [oX];split
    ·rename_i hc;exact ⟨c :: r,rfl,.inr ⟨r,by rw [hc]⟩⟩
    ·obtain ⟨t,e,k⟩:=ih;exact ⟨t,by rw [List.take_succ_cons,List.cons_append,← e],k⟩
  obtain ⟨t,ht,hk⟩:=hrest (oW (e.1.data.toList.drop p.data.toList.length));rw [← hfl] at ht
  by_cases hp:p={ data:=#[] }
  ·rw [if_pos hp] at hql;refine ⟨by rw [hp];exact qA5 q,?_,hu⟩
   have hd:e.1.data.toList.drop p.data.toList.length=e.1.data.toList:=by rw [hp];rfl
   rw [hd] at ht
   cases hx:e.1.data.toList with
  |nil =>
    rw [hx] at ht
    have:f.data.toList=[]:=by
     have e3:=congrArg List.length ht
     simp only [oW,List.length_nil,List.length_append] at e3;exact List.length_eq_zero_iff.1 (by omega)
    exact absurd this hfn
  |cons c r =>
    rw [hx] at ht
    by_cases hc:c=47
    ·subst hc;exact absurd hx (hs r)
    ·simp only [oW,if_neg hc] at ht;exact iK (t:=t) (by rw [hx,ht,hql]) hk
  ·rw [if_neg hp] at hql;refine ⟨iK (t:=47 :: f.data.toList) hql (.inr ⟨_,rfl⟩),?_,hu⟩;obtain ⟨u,hu1,hu2⟩:=jA hu hp
   have hd:e.1.data.toList.drop p.data.toList.length=u:=by rw [hu1,List.drop_append_of_le_length (Nat.le_refl _),List.drop_of_length_le (Nat.le_refl _)];rfl
   rw [hd] at ht
   rcases hu2 with rfl|⟨r,rfl⟩
   ·exact absurd (jF (by rw [hu1,List.append_nil])) h1
   ·simp only [oW,if_pos] at ht;exact iK (t:=t) (by rw [hu1,ht,hql,List.append_assoc];rfl) hk
theorem zBt {p q:ByteArray} {e:Ent} (h:cN p e=some q):gF e.1 p=true∧gF q p=true:=by
 unfold cN at h;split at h
 ·cases h
 ·rename_i hn;simp only [not_or,Option.some.injEq] at hn h;obtain ⟨h1,h2,h3⟩:=hn
  have hu:gF e.1 p=true:=by simpa using h2
  refine ⟨hu,?_⟩
  by_cases hp:p={ data:=#[] }
  ·rw [hp];exact qA5 q
  ·have hql:=qDs p (kB e.1 p) h3
   rw [h,if_neg hp] at hql;exact iK hql (.inr ⟨_,rfl⟩)
theorem qG5 {r:ByteArray→LN} {A H S:List Ent} {p:ByteArray} {x:ByteArray × Int} (hx:x ∈ iT mg r A H S p):x.1=p∨x ∈ r p:=by
 unfold iT at hx;split at hx
 ·split at hx
  ·cases hx
  ·rw [List.mem_singleton] at hx;exact .inl (by rw [hx])
 ·split at hx
  ·rcases List.mem_append.1 hx with hx|hx
   ·split at hx
    ·cases hx
    ·rw [List.mem_singleton] at hx;exact .inl (by rw [hx])
   ·exact .inr hx
  ·split at hx
   ·rw [List.mem_singleton] at hx;exact .inl (by rw [hx])
   ·split at hx
    ·rw [List.mem_singleton] at hx;exact .inl (by rw [hx])
    ·rw [List.mem_singleton] at hx;exact .inl (by rw [hx])
theorem qFe {A H S:List Ent}:∀ (k:Nat) (p:ByteArray),∀ x ∈ bN mg A H S k p,gF x.1 p=true
|0,_,x,hx=>by simp [bN] at hx
|k + 1,p,x,hx=>by
  rw [bN] at hx;obtain ⟨q,hq,hx⟩:=List.mem_flatMap.1 hx;obtain ⟨y,hy,rfl⟩:=List.mem_map.1 hq
  rcases nL (A ++ H ++ S) [] hy with h0|⟨e,he,hn⟩
  ·cases h0
  ·rcases qG5 hx with h|h
   ·rw [h];exact (zBt hn).2
   ·exact qWo (qFe k _ x h) (zBt hn).2
theorem qKh {A H S:List Ent} {k:Nat} {q:ByteArray} {x:ByteArray × Int} (hx:x ∈ iT mg (bN mg A H S k) A H S q):gF x.1 q=true:=by
 rcases qG5 hx with h|h
 ·rw [h];exact zCr q
 ·exact qFe k q x h
theorem zNd {q:ByteArray} {v:Int} {L:LN}:q ∈ (put q v L).map (fun e=>e.1):=by
 induction L with
|nil=>simp [put]
|cons y r ih =>
  obtain ⟨t,y⟩:=y;rw [put]
  (repeat' split) <;> first|(simp;done)|(rw [List.map_cons,List.mem_cons];exact .inr ih)
theorem zHy {q s:ByteArray} {v:Int} {L:LN} (h:s ∈ L.map (fun e=>e.1)):s ∈ (put q v L).map (fun e=>e.1):=by
 induction L with
|nil=>cases h
|cons y r ih =>
  obtain ⟨t,y⟩:=y;rw [List.map_cons,List.mem_cons] at h;rw [put]
  (repeat' split) <;> rcases h with h|h <;> simp_all
theorem qPx {top q:ByteArray}:∀ (es:List Ent) (L:LN),(q ∈ L.map (fun e=>e.1)∨∃ e ∈ es,cN top e=some q)→q ∈ (es.foldl (cX top) L).map (fun e=>e.1)
|[],L,h=>by
  rcases h with h|⟨e,he,_⟩
  ·exact h
  ·cases he
|e :: r,L,h=>by
  rw [List.foldl_cons];refine qPx r _ ?_
  rcases h with h|⟨x,hx,hn⟩
  ·refine .inl ?_;unfold cX;split
   ·exact zHy h
   ·exact h
  ·rcases List.mem_cons.1 hx with rfl|hx
   ·refine .inl ?_;rw [cX,hn];exact zNd
   ·exact .inr ⟨x,hx,hn⟩
end Go.Rc
end
section
set_option maxRecDepth 20000
namespace Go.Proofs.YtdfjeokjmigkaaaGreat
open Go Go.Eng Go.RowKit Go.Tr
set_option maxHeartbeats 4000000 in
theorem qK7 (t:List Ent) (p:ByteArray) (hl:t.length≤1048576) (hs:∀ e ∈ t,e.1.size≤1048576) (hp:p.size≤1048576):HFun Tryz.prog 23 [.lst false (aQ t),.v (.string p)] (fun h st=>h=.own 0∧st=[(0,rowE (t.filter fun e=>gF e.1 p))]):=by
 refine eF (N:=28) Tryz.func23 rfl Tryz.ntmps23 Tryz.results23 (by simp) ?_
 refine zE ?_;refine zJ (fun K hK=>?_);simp (disch:=omega) only [push_cast,↓Int.cast_ofNat_Int,simprocAttr];refine hK _ ?_
 refine zE ?_;refine zJ (fun K hK=>?_);simp (disch:=omega) only [push_cast,↓Int.cast_ofNat_Int,simprocAttr];refine hK _ ?_
 refine zE ?_;refine zE ?_;refine zJ (fun K hK=>?_);simp (disch:=omega) only [push_cast,↓Int.cast_ofNat_Int,simprocAttr];refine hK _ ?_
 refine zA ?_;refine zD ?_;refine qE 5 9000 50 3 rfl (by simp only [oK,tJ,tK,gQ,fN,gG,fF,kG,gN,jD,gM,gK,iQ,gP,gJ,fM,iL,iN,iM,kF,kP,jC,Nat.reduceBEq,Nat.reduceEqDiff,reduceIte,cond_true,cond_false,List.map_cons,List.map_nil];exact rfl) ?_
 refine bR (fun x:Nat × List Ent=>⟨[(0,.lst false (aQ t)),(1,.v (.string p)),(5,.own 9000),(6,.v (.int .i64 x.1))],[(9000,rowE x.2)]⟩) (fun x=>x.1≤t.length∧x.2=(t.take x.1).filter fun e=>gF e.1 p) (fun x=>t.length - x.1) [0,1,5,6] [9000] (0,[]) (by simp only [zZ,zR,zP,zQ,zN,zS,zM,zX,zU,Nat.reduceEqDiff,reduceIte];rfl) ⟨Nat.zero_le _,rfl⟩ ?_
 rintro ⟨i,out⟩ ⟨hi,ho⟩;simp only at hi ho
 by_cases hlt:i < t.length
 ·have hsz:=hs _ (List.getElem_mem hlt)
  have hol:out.length≤i:=by
   rw [ho];refine Nat.le_trans (List.length_filter_le ..) ?_;rw [List.length_take];omega
  have cu:=zHp t[i].1 p hsz hp
  refine zE ?_;refine zE ?_;refine zJ (fun K hK=>?_);simp (disch:=omega) only [push_cast,↓Int.cast_ofNat_Int,simprocAttr,yV];refine hK _ ?_
  refine zA ?_;refine yD rfl ?_;refine zC ?_;refine zE ?_;refine zD ?_;refine zE ?_;refine zJ (fun K hK=>?_);simp (disch:=omega) only [push_cast,↓Int.cast_ofNat_Int,simprocAttr,yV,yU,yW hlt]
  refine aW zYm cu (.cons (.v _) (.cons (.v _) .nil)) ?_;with_reducible refine aB ?_;simp (disch:=omega) only [push_cast,↓Int.cast_ofNat_Int,simprocAttr]
  refine hK _ ?_
  cases hu:gF t[i].1 p with
 |true =>
   have e2:aQ out ++ [[FV.v (.string t[i].1),.v (.int .i64 t[i].2.1),.v (.string t[i].2.2)]]=aQ (out ++ [t[i]]):=qAs out _ _ _
   refine yD rfl ?_;refine zJ (fun K hK=>?_);simp (disch:=omega) only [push_cast,↓Int.cast_ofNat_Int,simprocAttr,yV,yU,yW hlt,e2];(repeat refine ⟨by first|omega|decide|((repeat' apply And.intro) <;> first|omega|decide),?_⟩);refine hK _ ?_
   refine zB ?_;refine zA ?_;refine zJ (fun K hK=>?_);simp (disch:=omega) only [push_cast,↓Int.cast_ofNat_Int,simprocAttr];refine hK _ ?_
   refine zA ?_;refine ⟨(i + 1,out ++ [t[i]]),by simp only [zZ,zR,zP,zQ,zN,zS,zM,zX,zU,Nat.reduceEqDiff,reduceIte];try rfl,⟨hlt,?_⟩,by dsimp only;omega⟩
   dsimp only;rw [List.take_succ_eq_append_getElem hlt,List.filter_append,← ho];simp [hu]
 |false =>
   refine yC rfl ?_;refine zC ?_;refine zB ?_;refine zA ?_;refine zJ (fun K hK=>?_);simp (disch:=omega) only [push_cast,↓Int.cast_ofNat_Int,simprocAttr];refine hK _ ?_
   refine zA ?_;refine ⟨(i + 1,out),by simp only [zZ,zR,zP,zQ,zN,zS,zM,zX,zU,Nat.reduceEqDiff,reduceIte];try rfl,⟨hlt,?_⟩,by dsimp only;omega⟩
   dsimp only;rw [List.take_succ_eq_append_getElem hlt,List.filter_append,← ho];simp [hu]
 ·have hne:i=t.length:=by omega
  subst hne;rw [List.take_length] at ho;rw [ho];refine zE ?_;refine zE ?_;refine zJ (fun K hK=>?_);simp (disch:=omega) only [push_cast,↓Int.cast_ofNat_Int,simprocAttr,yV];refine hK _ ?_
  refine zA ?_;refine yC rfl ?_;refine zT ?_;refine zG ?_;refine zG ?_;refine zH ?_;refine zE ?_;refine zJ (fun K hK=>?_);simp (disch:=omega) only [push_cast,↓Int.cast_ofNat_Int,simprocAttr];refine hK _ ?_
  refine zA ?_;refine zW ?_;simp only [yA,yM,yH,yE,aA,aC,yK,yJ,zS,zM,Nat.reduceEqDiff,reduceIte,reduceCtorEq];exact lW rfl (qBo _) ⟨rfl,rfl⟩
end Go.Proofs.YtdfjeokjmigkaaaGreat
end
