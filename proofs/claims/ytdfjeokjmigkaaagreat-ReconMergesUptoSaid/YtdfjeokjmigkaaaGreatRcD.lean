/-
  Recon: ay many things are said ay qG are entries, at the most: plain.
-/
import Derived.Test.YtdfjeokjmigkaaaGreatRcv
import Derived.Test.YtdfjeokjmigkaaaGreatApd
set_option linter.unusedSimpArgs false
set_option linter.unusedVariables false
section
namespace Go.Eng
open Go Go.RowKit
section
variable {P:Program} {N:Nat} {c:Ctx} {S:HS} {look:Nat→Option Value} {w w':World} {ρ:Nat→Value} {xs:Nat→List Value}
theorem qJz {f:FuncId} {args args':List HV} {xs:List Value} {K:HV→HS→Prop} (hc:aE P f=true) (H:HFun P f args' (fun h st=>h=.tup (xs.map .v))) (hl:Lends S.st args args') (hK:K (.tup (xs.map .v)) S):HAt P f args S K :=
 ⟨hc,fun c look w ρ xs' vs G R=>Ret.mono (H w vs (sJ G R hl)) fun v w' ⟨B,h,st,h8,q,ρ',xs',G',hr⟩=>⟨_,_,hK,ρ,_,G.below B,by subst q;exact hr.plain (.tup xs)⟩⟩
end
end Go.Eng
end
section
set_option maxRecDepth 20000
namespace Go.Proofs.YtdfjeokjmigkaaaGreat
open Go Go.Eng Go.RowKit Go.Tr Go.Dk
theorem qEr:∀ (l:List UInt8),(Lib.indexByte l 47=-1∧oX l=l.length)∨(Lib.indexByte l 47=(oX l:Int)∧oX l < l.length)
|[]=>.inl ⟨rfl,rfl⟩
|c :: r=>by
  rw [Lib.indexByte,oX]
  by_cases h:c=47
  ·subst h
   right
   simp
  ·have hc:(c == 47)=false:=beq_eq_false_iff_ne.2 h
   rw [hc,if_neg h]
   rcases qEr r with ⟨a,b⟩|⟨a,b⟩
   ·left
    rw [a,b];exact ⟨rfl,by simp⟩
   ·right
    rw [a]
    have:((oX r:Int) == -1)=false:=beq_eq_false_iff_ne.2 (by omega)
    rw [this];simp only [Bool.false_eq_true,if_false,List.length_cons];exact ⟨rfl,by omega⟩
theorem zG4 {p:ByteArray} (h:Lib.indexByte p.data.toList 47=-1):vol p=p:=by
 rcases qEr p.data.toList with ⟨a,b⟩|⟨a,b⟩
 ·rw [vol,b,← Lib.size_eq];exact ByteArray.extract_zero_size
 ·omega
def aft (p:ByteArray):ByteArray:=if oX p.data.toList < p.size then p.extract (oX p.data.toList + 1) p.size else { data:=#[] }
def fnd (p:ByteArray):Bool:=decide (oX p.data.toList < p.size)
set_option maxHeartbeats 1000000 in
theorem zVt (s:ByteArray) (hs:s.size≤1048576):HFun Tryz.prog 55 [.v (.string s),.v (.string { data:=#[47] })] (fun h st=>h=.tup ([.string (vol s),.string (aft s),.bool (fnd s)].map .v)):=by
 refine eF (N:=23) Tryz.func55 rfl Tryz.ntmps55 Tryz.results55 (by simp) ?_
 have hc:=zHj s
 unfold aft fnd
 rcases qEr s.data.toList with ⟨a,b⟩|⟨a,b⟩
 ·rw [a] at hc;rw [← Lib.size_eq] at b;refine zE ?_;refine zJ (fun K hK=>?_);simp (disch:=omega) only [push_cast,↓Int.cast_ofNat_Int,simprocAttr];refine hK _ ?_
  refine zE ?_;refine zE ?_;refine zJ (fun K hK=>?_);simp (disch:=omega) only [push_cast,↓Int.cast_ofNat_Int,simprocAttr]
  refine aW zVw hc (.cons (.v _) (.cons (.v _) .nil)) ?_;with_reducible refine aB ?_;simp (disch:=omega) only [push_cast,↓Int.cast_ofNat_Int,simprocAttr]
  refine hK _ ?_;refine zE ?_;refine zJ (fun K hK=>?_);simp (disch:=omega) only [push_cast,↓Int.cast_ofNat_Int,simprocAttr];refine hK _ ?_
  refine zA ?_;refine yC rfl ?_;refine zC ?_;refine zE ?_;refine zJ (fun K hK=>?_);simp (disch:=omega) only [push_cast,↓Int.cast_ofNat_Int,simprocAttr];refine hK _ ?_
  refine zA ?_;refine zW ?_;simp only [yA,yM,yH,yE,aA,aC,yK,yJ,zS,zM,Nat.reduceEqDiff,reduceIte,reduceCtorEq];refine gD ?_;rw [zG4 a,b];simp
 ·rw [a] at hc;rw [← Lib.size_eq] at b;obtain ⟨k,hk⟩:∃ k,oX s.data.toList=k:=⟨_,rfl⟩
  have hv:vol s=s.extract 0 k:=by rw [vol,hk]
  rw [hk] at hc b ⊢;rw [hv,if_pos b];refine zE ?_;refine zJ (fun K hK=>?_);simp (disch:=omega) only [push_cast,↓Int.cast_ofNat_Int,simprocAttr];refine hK _ ?_
  refine zE ?_;refine zE ?_;refine zJ (fun K hK=>?_);simp (disch:=omega) only [push_cast,↓Int.cast_ofNat_Int,simprocAttr]
  refine aW zVw hc (.cons (.v _) (.cons (.v _) .nil)) ?_;with_reducible refine aB ?_;simp (disch:=omega) only [push_cast,↓Int.cast_ofNat_Int,simprocAttr]
  refine hK _ ?_;refine zE ?_;refine zJ (fun K hK=>?_);simp (disch:=omega) only [push_cast,↓Int.cast_ofNat_Int,simprocAttr];refine hK _ ?_
  refine zA ?_;refine eQ rfl (fun _=>?_) (fun hf=>by simp at hf)
  refine zE ?_;refine HW_drw 10 mixed (by kernel_rfl) (fun K hK=>?_);simp (disch:=omega) only [push_cast,↓Int.cast_ofNat_Int,simprocAttr,qB5]
  refine ⟨by omega,by omega,?_⟩
  with_reducible refine aB ?_;simp (disch:=omega) only [push_cast,↓Int.cast_ofNat_Int,simprocAttr]
  refine hK _ ?_;refine zA ?_;refine zW ?_;refine zK ?_;simp only [yA,yM,yH,yE,aA,aC,yK,yJ,zS,zM,Nat.reduceEqDiff,reduceIte,reduceCtorEq];refine gD ?_;simp [b]
set_option maxHeartbeats 1000000 in
theorem zRr (s:ByteArray) (hs:s.size≤1048576):HFun Tryz.prog 39 [.v (.string s),.v (.string { data:=#[47] })] (fun h st=>h=.tup ([.string (vol s),.string (aft s),.bool (fnd s)].map .v)):=by
 refine eF (N:=13) Tryz.func39 rfl Tryz.ntmps39 Tryz.results39 (by simp) ?_
 refine zE ?_;refine zJ (fun K hK=>?_);simp (disch:=omega) only [push_cast,↓Int.cast_ofNat_Int,simprocAttr];refine hK _ ?_
 refine zE ?_;refine zJ (fun K hK=>?_);simp (disch:=omega) only [push_cast,↓Int.cast_ofNat_Int,simprocAttr]
 refine qJz zX5 (zVt s hs) (.cons (.v _) (.cons (.v _) .nil)) ?_;with_reducible refine aB ?_;simp (disch:=omega) only [push_cast,↓Int.cast_ofNat_Int,simprocAttr]
 refine hK _ ?_;refine zA ?_;refine zW ?_;simp only [yA,yM,yH,yE,aA,aC,yK,yJ,zS,zM,Nat.reduceEqDiff,reduceIte,reduceCtorEq];exact gD rfl
theorem mx {s:ByteArray} (h:s.size≤1048576):s.size≤maxLen:=Nat.le_trans h (by decide)
end Go.Proofs.YtdfjeokjmigkaaaGreat
end
section
namespace Go.Rc
open Go Go.Tr Go.Eng Go.Dk
def vM (s:ByteArray):ByteArray:=if stroke.data.toList.isPrefixOf s.data.toList=true then s.extract 1 s.size else s
def kB (p top:ByteArray):ByteArray:=vol (vM (p.extract top.size p.size))
def qEn (a b:ByteArray):ByteArray:=if a={ data:=#[] } then b else if b={ data:=#[] } then a else a ++ stroke ++ b
def cN (top:ByteArray) (e:Ent):Option ByteArray:=if e.1=top∨gF e.1 top=false∨kB e.1 top={ data:=#[] } then none else some (qEn top (kB e.1 top))
abbrev LN:=List (ByteArray × Int)
def cX (top:ByteArray) (L:LN) (e:Ent):LN:=match cN top e with
|some q=>put q ((jJ L q).getD 0 + 1) L
|none=>L
def lV (top:ByteArray) (es:List Ent):LN:=es.foldl (cX top) []
def eV (t:List Ent) (p:ByteArray):List Ent:=t.filter fun e=>gF e.1 p
def iT (mg:(Int × ByteArray)→(Int × ByteArray)→(Int × ByteArray)→Bool) (r:ByteArray→LN) (A H S:List Ent) (p:ByteArray):LN :=
 if eV H p=eV S p then (if eV A p=eV H p then [] else [(p,1)])
 else if (eH H p).1=1∧(eH S p).1=1 then (if (eH A p).1=1 then [] else [(p,1)]) ++ r p
 else if eV H p=eV A p then [(p,3)]
 else if eV S p=eV A p then [(p,2)]
 else [(p,if mg (eH A p) (eH H p) (eH S p)=true then 4 else 5)]
def bN (mg:(Int × ByteArray)→(Int × ByteArray)→(Int × ByteArray)→Bool) (A H S:List Ent):Nat→ByteArray→LN
|0,_=>[]
|k + 1,top=>((lV top (A ++ H ++ S)).map fun e=>e.1).flatMap (iT mg (bN mg A H S k) A H S)
theorem qRs {top:ByteArray} {L:LN} {e:Ent} {q:ByteArray × Int} (h:q ∈ cX top L e):q ∈ L∨cN top e=some q.1:=by
 unfold cX at h
 cases hn:cN top e with
|none=>rw [hn] at h;exact .inl h
|some s =>
  rw [hn] at h
  rcases qJ3 h with rfl|h
  ·exact .inr rfl
  ·exact .inl h
theorem nL {top:ByteArray}:∀ (es:List Ent) (L:LN) {q:ByteArray × Int},q ∈ es.foldl (cX top) L→q ∈ L∨∃ e ∈ es,cN top e=some q.1
|[],L,q,h=>.inl h
|e :: r,L,q,h=>by
  rcases nL r _ h with h|⟨x,hx,hq⟩
  ·rcases qRs h with h|h
   ·exact .inl h
   ·exact .inr ⟨e,by simp,h⟩
  ·exact .inr ⟨x,by simp [hx],hq⟩
theorem qBg {top:ByteArray}:∀ (es:List Ent) (L:LN),qJ0 L→qJ0 (es.foldl (cX top) L)
|[],L,h=>h
|e :: r,L,h=>by
  refine qBg r _ ?_;unfold cX;split
  ·exact qTj _ _ h
  ·exact h
theorem qPw {top:ByteArray}:∀ (es:List Ent) (L:LN),(es.foldl (cX top) L).length≤L.length + es.length
|[],L=>Nat.le_refl _
|e :: r,L=>by
  have h1:=qPw (top:=top) r (cX top L e)
  have h2:(cX top L e).length≤L.length + 1:=by
   have pl:∀ (q:ByteArray) (x:Int) (L:LN),(put q x L).length≤L.length + 1:=by
    intro q x L
    induction L with
   |nil=>exact Nat.le_refl _
   |cons y r ih =>
     obtain ⟨t,y⟩:=y;rw [put]
     (repeat' split) <;> simp only [List.length_cons] <;> omega
   unfold cX;split
   ·exact pl _ _ _
   ·omega
  simp only [List.foldl_cons,List.length_cons];omega
theorem zG5 (s:ByteArray):(vol s).size≤s.size:=by rw [vol,ByteArray.size_extract];omega
theorem qLs {s:ByteArray} (h:¬ s={ data:=#[] }):0 < s.size:=by
 rcases Nat.eq_zero_or_pos s.size with h0|h0
 ·exact absurd (ByteArray.size_eq_zero_iff.1 h0) h
 ·exact h0
theorem jX {top q:ByteArray} {e:Ent} (h:cN top e=some q):top.size < q.size∧q.size≤e.1.size:=by
 unfold cN at h;split at h
 ·cases h
 ·rename_i hn;simp only [not_or,Option.some.injEq] at hn h;obtain ⟨h1,h2,h3⟩:=hn
  have hu:gF e.1 top=true:=by simpa using h2
  have hf:=qLs h3
  have hv:(kB e.1 top).size≤(vM (e.1.extract top.size e.1.size)).size:=zG5 _
  have he:(e.1.extract top.size e.1.size).size=e.1.size - top.size:=by rw [ByteArray.size_extract];omega
  subst h;unfold qEn
  by_cases ht:top={ data:=#[] }
  ·rw [if_pos ht];subst ht
   have:(vM (e.1.extract ({ data:=#[] }:ByteArray).size e.1.size)).size≤(e.1.extract ({ data:=#[] }:ByteArray).size e.1.size).size:=by
    unfold vM;split
    ·rw [ByteArray.size_extract];omega
    ·exact Nat.le_refl _
   have h0:({ data:=#[] }:ByteArray).size=0:=rfl
   rw [h0] at this he hv ⊢;exact ⟨by omega,by omega⟩
  ·rw [if_neg ht,if_neg h3]
   -- behind the path stands a stroke
   have oV:(top ++ stroke).data.toList.isPrefixOf e.1.data.toList=true:=by
    unfold gF at hu;simp only [Bool.or_eq_true,decide_eq_true_eq] at hu
    rcases hu with (h|h)|h
    ·exact absurd h ht
    ·exact absurd h h1
    ·exact h
   obtain ⟨r,hr⟩:=List.isPrefixOf_iff_prefix.1 oV
   have hl:(top ++ stroke).data.toList.length=top.size + 1:=by
    have:(top ++ stroke).size=top.size + stroke.size:=ByteArray.size_append
    rw [← Lib.size_eq,this];rfl
   have hsz:top.size + 1≤e.1.size:=by
    have:=congrArg List.length hr
    rw [List.length_append,hl] at this
    have:=Lib.size_eq e.1
    omega
   have hst:stroke.data.toList.isPrefixOf (e.1.extract top.size e.1.size).data.toList=true:=by
    rw [List.isPrefixOf_iff_prefix];refine ⟨r,?_⟩
    have ed:(e.1.extract top.size e.1.size).data.toList=e.1.data.toList.drop top.size:=by
     rw [ByteArray.data_extract,Array.toList_extract,List.extract_eq_take_drop,List.take_of_length_le];rw [List.length_drop,← Lib.size_eq];omega
    rw [ed,← hr]
    have e1:(top ++ stroke).data.toList=top.data.toList ++ stroke.data.toList:=by simp
    rw [e1,List.append_assoc,List.drop_append_of_le_length (by rw [← Lib.size_eq];omega),List.drop_of_length_le (by rw [← Lib.size_eq];omega)]
    rfl
   have htr:(vM (e.1.extract top.size e.1.size)).size=e.1.size - top.size - 1:=by
    unfold vM;rw [if_pos hst,ByteArray.size_extract];omega
   have e3:(top ++ stroke ++ kB e.1 top).size=top.size + 1 + (kB e.1 top).size:=by
    rw [ByteArray.size_append,ByteArray.size_append];rfl
   rw [e3];omega
end Go.Rc
end
section
namespace Go.Rc
open Go Go.Tr Go.Eng Go.Dk
variable {mg:(Int × ByteArray)→(Int × ByteArray)→(Int × ByteArray)→Bool}
def qWe (n:Int) (L:LN):Prop:=∀ x ∈ L,0≤x.2∧x.2≤n
theorem qLw {n:Int} {L:LN} (h:qWe n L) (hn:0≤n) (q:ByteArray):0≤(jJ L q).getD 0∧(jJ L q).getD 0≤n:=by
 cases e:jJ L q with
|none=>exact ⟨Int.le_refl _,hn⟩
|some v=>exact h (q,v) (qHo e)
theorem zC6 {n:Int} {top:ByteArray} {L:LN} (e:Ent) (h:qWe n L) (hn:0≤n):qWe (n + 1) (cX top L e):=by
 intro x hx;unfold cX at hx
 cases hq:cN top e with
|none=>rw [hq] at hx;have:=h x hx;omega
|some q =>
  rw [hq] at hx
  rcases qJ3 hx with rfl|hx
  ·have:=qLw h hn q
   exact ⟨by simp only;omega,by simp only;omega⟩
  ·have:=h x hx;omega
theorem qX9 {top:ByteArray} {es:List Ent} (h:∀ e ∈ es,e.1.size≤top.size):lV top es=[]:=by
 cases hx:lV top es with
|nil=>rfl
|cons q r =>
  rcases nL es [] (q:=q) (by rw [show es.foldl (cX top) []=lV top es from rfl,hx];simp) with h0|⟨e,he,hq⟩
  ·cases h0
  ·have:=jX hq
   have:=h e he
   omega
end Go.Rc
end
section
namespace Go.Rc
open Go Go.Tr Go.Eng Go.Dk
variable {mg:(Int × ByteArray)→(Int × ByteArray)→(Int × ByteArray)→Bool}
theorem qGn (s:ByteArray) (i j:Nat):(s.extract i j).data.toList=(s.data.toList.drop i).take (j - i):=by
 rw [ByteArray.data_extract,Array.toList_extract,List.extract_eq_take_drop]
def oW:List UInt8→List UInt8
|[]=>[]
|c :: r=>if c=47 then r else c :: r
theorem zCv (s:ByteArray):(vM s).data.toList=oW s.data.toList:=by
 unfold vM
 have hs:stroke.data.toList=[47]:=rfl
 rw [hs]
 cases h:s.data.toList with
|nil=>simp [oW,h]
|cons c r =>
  by_cases hc:c=47
  ·subst hc;rw [if_pos (by simp),qGn,h]
   have:s.size=r.length + 1:=by rw [Lib.size_eq,h];rfl
   rw [this];simp [oW]
  ·rw [if_neg (by simp [Ne.symm hc]),h]
   simp [oW,hc]
theorem qFi (s:ByteArray):(vol s).data.toList=s.data.toList.take (oX s.data.toList):=by
 rw [vol,qGn,List.drop_zero,Nat.sub_zero]
theorem uW (p top:ByteArray):(kB p top).data.toList=(oW (p.data.toList.drop top.data.toList.length)).take (oX (oW (p.data.toList.drop top.data.toList.length))):=by
 have e:(p.extract top.size p.size).data.toList=p.data.toList.drop top.data.toList.length:=by
  rw [qGn,Lib.size_eq top,List.take_of_length_le];rw [List.length_drop,← Lib.size_eq];omega
 rw [kB,qFi,zCv,e]
theorem qG6:∀ (l:List UInt8),∀ c ∈ l.take (oX l),c≠47
|[],c,h=>by simp at h
|x :: r,c,h=>by
  rw [oX] at h;split at h
  ·simp at h
  ·rename_i hx;rw [List.take_succ_cons,List.mem_cons] at h
   rcases h with rfl|h
   ·exact hx
   ·exact qG6 r c h
theorem zBb:∀ (f t:List UInt8),(∀ c ∈ f,c≠47)→(t=[]∨∃ r,t=47 :: r)→oX (f ++ t)=f.length
|[],t,_,ht=>by
  rcases ht with rfl|⟨r,rfl⟩
  ·rfl
  ·simp [oX]
|c :: f,t,hf,ht=>by
  rw [List.cons_append,oX,if_neg (hf c (by simp)),zBb f t (fun x hx=>hf x (by simp [hx])) ht];rfl
theorem qDs (a b:ByteArray) (hb:b≠{ data:=#[] }):(qEn a b).data.toList=if a={ data:=#[] } then b.data.toList else a.data.toList ++ 47 :: b.data.toList:=by
 unfold qEn;split
 ·rfl
 ·simp [stroke]
theorem jA {p q:ByteArray} (h:gF p q=true) (hq:q≠{ data:=#[] }):∃ t,p.data.toList=q.data.toList ++ t∧(t=[]∨∃ r,t=47 :: r):=by
 unfold gF at h;simp only [Bool.or_eq_true,decide_eq_true_eq] at h
 rcases h with (h|h)|h
 ·exact absurd h hq
 ·subst h;exact ⟨[],by simp,.inl rfl⟩
 ·obtain ⟨r,hr⟩:=List.isPrefixOf_iff_prefix.1 h;refine ⟨47 :: r,?_,.inr ⟨r,rfl⟩⟩;rw [← hr];simp [stroke]
theorem qT9 {top q:ByteArray} {e0 e:Ent} (h:cN top e0=some q) (hu:gF e.1 q=true):cN top e=some q:=by
 have hsz:=(jX h).1
 unfold cN at h;split at h
 ·cases h
 ·rename_i hn;simp only [not_or,Option.some.injEq] at hn h;obtain ⟨h1,h2,h3⟩:=hn
  have hq0:q≠{ data:=#[] }:=fun x=>by rw [x] at hsz;exact absurd hsz (by show ¬ _ < 0;omega)
  obtain ⟨t,ht,hts⟩:=jA hu hq0;obtain ⟨f,hf⟩:∃ f,kB e0.1 top=f:=⟨_,rfl⟩;rw [hf] at h h3
  have hfr:∀ c ∈ f.data.toList,c≠47:=by
   rw [← hf,uW];exact qG6 _
  have hfn:f.data.toList≠[]:=fun x=>h3 (jF (by rw [x]))
  have hql:q.data.toList=if top={ data:=#[] } then f.data.toList else top.data.toList ++ 47 :: f.data.toList:=by
   rw [← h];exact qDs _ _ h3
  have hne:e.1≠top:=fun x=>by
   have:e.1.size=q.size + t.length:=by rw [Lib.size_eq,ht,List.length_append,← Lib.size_eq]
   rw [x] at this;omega
  have hun:gF e.1 top=true:=by
   unfold gF
   by_cases ht0:top={ data:=#[] }
   ·have:top=ByteArray.empty:=ht0
    rw [decide_eq_true this];rfl
   ·rw [if_neg ht0] at hql
    have:(top ++ stroke).data.toList.isPrefixOf e.1.data.toList=true:=by
     rw [List.isPrefixOf_iff_prefix];refine ⟨f.data.toList ++ t,?_⟩;rw [ht,hql];simp [stroke]
    rw [this];simp
  have hfi:kB e.1 top=f:=by
   refine jF ?_
   have key:oW (e.1.data.toList.drop top.data.toList.length)=f.data.toList ++ t:=by
    rw [ht,hql]
    by_cases ht0:top={ data:=#[] }
    ·rw [if_pos ht0,ht0]
     cases hx:f.data.toList with
    |nil=>exact absurd hx hfn
    |cons c r =>
      have:c≠47:=hfr c (by rw [hx];simp)
      simp [oW,this]
    ·rw [if_neg ht0,List.append_assoc,List.drop_append_of_le_length (Nat.le_refl _),List.drop_of_length_le (Nat.le_refl _)];simp [oW]
   rw [uW,key,zBb _ _ hfr hts,List.take_append_of_le_length (Nat.le_refl _),List.take_of_length_le (Nat.le_refl _)]
  unfold cN;rw [if_neg (by rw [hfi];simp only [not_or];exact ⟨hne,by rw [hun];decide,h3⟩),hfi,h]
theorem zJi {x:Option ByteArray}:∀ {ns:List ByteArray},ns.Nodup→(ns.map fun q=>if x=some q then 1 else 0).sum≤if x.isSome=true then 1 else 0
|[],_=>by simp
|a :: r,h=>by
  rw [List.nodup_cons] at h
  have ih:=zJi (x:=x) h.2
  rw [List.map_cons,List.sum_cons]
  by_cases hx:x=some a
  ·have h0:∀ (l:List ByteArray),a ∉ l→(l.map fun q=>if x=some q then 1 else 0).sum=0:=by
    intro l
    induction l with
   |nil=>intro _;rfl
   |cons b l il =>
     intro hb;rw [List.mem_cons,not_or] at hb;rw [List.map_cons,List.sum_cons,il hb.2,if_neg (fun y=>hb.1 (by rw [hx] at y;exact (Option.some.inj y)))]
   rw [if_pos hx,h0 r h.1,hx];simp
  ·rw [if_neg hx];omega
theorem zBg (f g:ByteArray→Nat):∀ (ns:List ByteArray),(ns.map fun q=>f q + g q).sum=(ns.map f).sum + (ns.map g).sum
|[]=>rfl
|a :: r=>by simp only [List.map_cons,List.sum_cons,zBg f g r];omega
theorem qKr {f g:ByteArray→Nat}:∀ {ns:List ByteArray},(∀ q ∈ ns,f q≤g q)→(ns.map f).sum≤(ns.map g).sum
|[],_=>Nat.le_refl _
|a :: r,h=>by
  have h1:=h a (by simp)
  have h2:=qKr (ns:=r) fun q hq=>h q (by simp [hq])
  simp only [List.map_cons,List.sum_cons];omega
theorem zBf {top:ByteArray} {ns:List ByteArray} (hn:ns.Nodup):∀ (E:List Ent),(ns.map fun q=>E.countP fun e=>decide (cN top e=some q)).sum≤E.countP fun e=>(cN top e).isSome
|[]=>by
  have:∀ (l:List ByteArray),(l.map fun q=>List.countP (fun e=>decide (cN top e=some q)) ([]:List Ent)).sum=0:=by
   intro l
   induction l with
  |nil=>rfl
  |cons a r ih=>rw [List.map_cons,List.sum_cons,ih];rfl
  rw [this];exact Nat.zero_le _
|e :: r=>by
  have ih:=zBf (top:=top) hn r
  have ho:=zJi (x:=cN top e) hn
  simp only [List.countP_cons,decide_eq_true_eq];rw [zBg];omega
theorem qQc {f g:Ent→Bool} (h:∀ e,f e=true→g e=true):∀ {E:List Ent},(∃ e ∈ E,g e=true∧f e=false)→E.countP f + 1≤E.countP g
|[],⟨e,he,_⟩=>by cases he
|a :: r,⟨e,he,h1,h2⟩=>by
  have hle:r.countP f≤r.countP g:=List.countP_mono_left fun x _ hx=>h x hx
  rw [List.countP_cons,List.countP_cons]
  rcases List.mem_cons.1 he with rfl|he
  ·rw [h1,h2];simp;omega
  ·have:=qQc h ⟨e,he,h1,h2⟩
   cases hf:f a with
  |true=>rw [h a hf];simp;omega
  |false=>simp;split <;> omega
theorem qT8 (top:ByteArray) (es:List Ent):((lV top es).map fun e=>e.1).Nodup:=by
 have h:=qBg (top:=top) es [] List.Pairwise.nil
 refine List.pairwise_map.2 (h.imp fun {a b} hab e=>?_)
 rw [e,qBq] at hab;cases hab
def mu (top:ByteArray) (E:List Ent):Nat:=E.countP fun e=>(cN top e).isSome
theorem qQi (A H S:List Ent):∀ (k:Nat) (top:ByteArray),(bN mg A H S k top).length≤mu top (A ++ H ++ S)
|0,top=>Nat.zero_le _
|k + 1,top=>by
  rw [bN,List.length_flatMap];refine Nat.le_trans (qKr (g:=fun q=>(A ++ H ++ S).countP fun e=>decide (cN top e=some q)) fun q hq=>?_) (zBf (qT8 top _) _)
  obtain ⟨x,hx,hxq⟩:=List.mem_map.1 hq
  rcases nL (A ++ H ++ S) [] hx with h0|⟨e0,he0,hn0⟩
  ·cases h0
  rw [hxq] at hn0
  have h1:1≤(A ++ H ++ S).countP fun e=>decide (cN top e=some q):=List.countP_pos_iff.2 ⟨e0,he0,decide_eq_true hn0⟩
  unfold iT;split
  ·split
   ·exact Nat.zero_le _
   ·exact h1
  ·split
   ·rename_i hd
    have hH:∃ e ∈ H,e.1=q:=by
     have h:=hd.1
     unfold eH at h
     cases hf:H.find? (fun e=>decide (e.1=q)) with
    |none=>rw [hf] at h;exact absurd h (by decide)
    |some e=>exact ⟨e,List.mem_of_find?_eq_some hf,by simpa using List.find?_some hf⟩
    obtain ⟨e,he,heq⟩:=hH
    have ih:=qQi A H S k q
    have hc:(A ++ H ++ S).countP (fun e=>(cN q e).isSome) + 1≤(A ++ H ++ S).countP fun e=>decide (cN top e=some q):=by
     refine qQc (fun y hy=>?_) ⟨e,by simp [he],?_,?_⟩
     ·refine decide_eq_true (qT9 hn0 ?_);unfold cN at hy;split at hy
      ·cases hy
      ·rename_i hz;simp only [not_or] at hz
       simpa using hz.2.1
     ·refine decide_eq_true (qT9 hn0 ?_);unfold gF;rw [heq];simp
     ·unfold cN;rw [if_pos (.inl heq)];rfl
    unfold mu at ih;rw [List.length_append];split
    ·rw [List.length_nil];omega
    ·rw [List.length_singleton];omega
   ·split
    ·exact h1
    ·split
     ·exact h1
     ·exact h1
theorem qJw (A H S:List Ent) (k:Nat) (top:ByteArray):(bN mg A H S k top).length≤A.length + H.length + S.length:=by
 refine Nat.le_trans (qQi A H S k top) ?_;unfold mu;refine Nat.le_trans List.countP_le_length ?_;rw [List.length_append,List.length_append];exact Nat.le_refl _
end Go.Rc
end
