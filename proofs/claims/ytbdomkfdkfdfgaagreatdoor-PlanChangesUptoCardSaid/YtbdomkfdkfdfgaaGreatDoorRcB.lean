/-
  Recon: where two of the xX trees are alike, one thing alone is said: plain.
-/
import Derived.Test.YtbdomkfdkfdfgaaGreatDoorMu
import Derived.Test.YtbdomkfdkfdfgaaGreatDoorSrs
import Derived.Test.YtbdomkfdkfdfgaaGreatDoorTrD
set_option linter.unusedSimpArgs false
set_option linter.unusedVariables false
section
set_option maxRecDepth 20000
namespace Go.Proofs.YtbdomkfdkfdfgaaGreatDoor
open Go Go.Eng Go.RowKit Go.Tr Go.Dk
theorem qAf:∀ (l:List UInt8),(Lib.indexByte l 47=-1∧uT l=l.length)∨(Lib.indexByte l 47=(uT l:Int)∧uT l < l.length)
|[]=>.inl ⟨rfl,rfl⟩
|c :: r=>by
  rw [Lib.indexByte,uT]
  by_cases h:c=47
  ·subst h
   right
   simp
  ·have hc:(c == 47)=false:=beq_eq_false_iff_ne.2 h
   rw [hc,if_neg h]
   rcases qAf r with ⟨a,b⟩|⟨a,b⟩
   ·left
    rw [a,b];exact ⟨rfl,by simp⟩
   ·right
    rw [a]
    have:((uT r:Int) == -1)=false:=beq_eq_false_iff_ne.2 (by omega)
    rw [this];simp only [Bool.false_eq_true,if_false,List.length_cons];exact ⟨rfl,by omega⟩
theorem zGk {p:ByteArray} (h:Lib.indexByte p.data.toList 47=-1):vol p=p:=by
 rcases qAf p.data.toList with ⟨a,b⟩|⟨a,b⟩
 ·rw [vol,b,← Lib.size_eq];exact ByteArray.extract_zero_size
 ·omega
def aft (p:ByteArray):ByteArray:=if uT p.data.toList < p.size then p.extract (uT p.data.toList + 1) p.size else { data:=#[] }
def fnd (p:ByteArray):Bool:=decide (uT p.data.toList < p.size)
set_option maxHeartbeats 1000000 in
theorem zTu (s:ByteArray) (hs:s.size≤1048576):HFun Tryz.prog 104 [.v (.string s),.v (.string { data:=#[47] })] (fun h st=>h=.tup ([.string (vol s),.string (aft s),.bool (fnd s)].map .v)):=by
 refine fJ (N:=23) Tryz.func104 rfl Tryz.ntmps104 Tryz.results104 (by simp) ?_
 have hc:=qU9 s
 unfold aft fnd
 rcases qAf s.data.toList with ⟨a,b⟩|⟨a,b⟩
 ·rw [a] at hc;rw [← Lib.size_eq] at b;refine zE ?_;refine zJ (fun K hK=>?_);simp (disch:=omega) only [push_cast,↓Int.cast_ofNat_Int,simprocAttr];refine hK _ ?_;clear hK K
  refine zE ?_;refine zE ?_;refine zJ (fun K hK=>?_);simp (disch:=omega) only [push_cast,↓Int.cast_ofNat_Int,simprocAttr]
  refine cP zK9 hc (.cons (.v _) (.cons (.v _) .nil)) ?_;with_reducible refine aC ?_;simp (disch:=omega) only [push_cast,↓Int.cast_ofNat_Int,simprocAttr]
  refine hK _ ?_;clear hK K;refine zE ?_;refine zJ (fun K hK=>?_);simp (disch:=omega) only [push_cast,↓Int.cast_ofNat_Int,simprocAttr];refine hK _ ?_;clear hK K
  refine zA ?_;refine yC rfl ?_;refine zC ?_;refine zE ?_;refine zJ (fun K hK=>?_);simp (disch:=omega) only [push_cast,↓Int.cast_ofNat_Int,simprocAttr];refine hK _ ?_;clear hK K
  refine zA ?_;refine zW ?_;simp only [yA,yM,yH,yE,aA,aD,yK,yJ,zS,zM,Nat.reduceEqDiff,reduceIte,reduceCtorEq];refine qLe ?_;rw [zGk a,b];simp
 ·rw [a] at hc;rw [← Lib.size_eq] at b;obtain ⟨k,hk⟩:∃ k,uT s.data.toList=k:=⟨_,rfl⟩
  have hv:vol s=s.extract 0 k:=by rw [vol,hk]
  rw [hk] at hc b ⊢;rw [hv,if_pos b];refine zE ?_;refine zJ (fun K hK=>?_);simp (disch:=omega) only [push_cast,↓Int.cast_ofNat_Int,simprocAttr];refine hK _ ?_;clear hK K
  refine zE ?_;refine zE ?_;refine zJ (fun K hK=>?_);simp (disch:=omega) only [push_cast,↓Int.cast_ofNat_Int,simprocAttr]
  refine cP zK9 hc (.cons (.v _) (.cons (.v _) .nil)) ?_;with_reducible refine aC ?_;simp (disch:=omega) only [push_cast,↓Int.cast_ofNat_Int,simprocAttr]
  refine hK _ ?_;clear hK K;refine zE ?_;refine zJ (fun K hK=>?_);simp (disch:=omega) only [push_cast,↓Int.cast_ofNat_Int,simprocAttr];refine hK _ ?_;clear hK K
  refine zA ?_;refine xR rfl (fun _=>?_) (fun hf=>by simp at hf)
  refine zE ?_;refine HW_drw 10 mixed (by kernel_rfl) (fun K hK=>?_);simp (disch:=omega) only [push_cast,↓Int.cast_ofNat_Int,simprocAttr,pH]
  refine ⟨by omega,by omega,?_⟩
  with_reducible refine aC ?_;simp (disch:=omega) only [push_cast,↓Int.cast_ofNat_Int,simprocAttr]
  refine hK _ ?_;clear hK K;refine zA ?_;refine zW ?_;refine zK ?_;simp only [yA,yM,yH,yE,aA,aD,yK,yJ,zS,zM,Nat.reduceEqDiff,reduceIte,reduceCtorEq];refine qLe ?_;simp [b]
set_option maxHeartbeats 1000000 in
theorem zQz (s:ByteArray) (hs:s.size≤1048576):HFun Tryz.prog 74 [.v (.string s),.v (.string { data:=#[47] })] (fun h st=>h=.tup ([.string (vol s),.string (aft s),.bool (fnd s)].map .v)):=by
 refine fJ (N:=13) Tryz.func74 rfl Tryz.ntmps74 Tryz.results74 (by simp) ?_
 refine zE ?_;refine zJ (fun K hK=>?_);simp (disch:=omega) only [push_cast,↓Int.cast_ofNat_Int,simprocAttr];refine hK _ ?_;clear hK K
 refine zE ?_;refine zJ (fun K hK=>?_);simp (disch:=omega) only [push_cast,↓Int.cast_ofNat_Int,simprocAttr]
 refine zM1 zT6 (zTu s hs) (.cons (.v _) (.cons (.v _) .nil)) ?_;with_reducible refine aC ?_;simp (disch:=omega) only [push_cast,↓Int.cast_ofNat_Int,simprocAttr]
 refine hK _ ?_;clear hK K;refine zA ?_;refine zW ?_;simp only [yA,yM,yH,yE,aA,aD,yK,yJ,zS,zM,Nat.reduceEqDiff,reduceIte,reduceCtorEq];exact qLe rfl
theorem mx {s:ByteArray} (h:s.size≤1048576):s.size≤maxLen:=Nat.le_trans h (by decide)
end Go.Proofs.YtbdomkfdkfdfgaaGreatDoor
end
section
namespace Go.Rc
open Go Go.Tr Go.Eng Go.Dk
def pF (s:ByteArray):ByteArray:=if stroke.data.toList.isPrefixOf s.data.toList=true then s.extract 1 s.size else s
def lM (p top:ByteArray):ByteArray:=vol (pF (p.extract top.size p.size))
def qAd (a b:ByteArray):ByteArray:=if a={ data:=#[] } then b else if b={ data:=#[] } then a else a ++ stroke ++ b
def dK (top:ByteArray) (e:Ent):Option ByteArray:=if e.1=top∨eK e.1 top=false∨lM e.1 top={ data:=#[] } then none else some (qAd top (lM e.1 top))
abbrev LN:=List (ByteArray × Int)
def cN (top:ByteArray) (L:LN) (e:Ent):LN:=match dK top e with
|some q=>put q ((gF L q).getD 0 + 1) L
|none=>L
def lD (top:ByteArray) (es:List Ent):LN:=es.foldl (cN top) []
def qD1 (t:List Ent) (p:ByteArray):List Ent:=t.filter fun e=>eK e.1 p
def oA (mg:(Int × ByteArray)→(Int × ByteArray)→(Int × ByteArray)→Bool) (r:ByteArray→LN) (A H S:List Ent) (p:ByteArray):LN :=
 if qD1 H p=qD1 S p then (if qD1 A p=qD1 H p then [] else [(p,1)])
 else if (aF H p).1=1∧(aF S p).1=1 then (if (aF A p).1=1 then [] else [(p,1)]) ++ r p
 else if qD1 H p=qD1 A p then [(p,3)]
 else if qD1 S p=qD1 A p then [(p,2)]
 else [(p,if mg (aF A p) (aF H p) (aF S p)=true then 4 else 5)]
def dQ (mg:(Int × ByteArray)→(Int × ByteArray)→(Int × ByteArray)→Bool) (A H S:List Ent):Nat→ByteArray→LN
|0,_=>[]
|k + 1,top=>((lD top (A ++ H ++ S)).map fun e=>e.1).flatMap (oA mg (dQ mg A H S k) A H S)
theorem qT1 {top:ByteArray} {L:LN} {e:Ent} {q:ByteArray × Int} (h:q ∈ cN top L e):q ∈ L∨dK top e=some q.1:=by
 unfold cN at h
 cases hn:dK top e with
|none=>rw [hn] at h;exact .inl h
|some s =>
  rw [hn] at h
  rcases qHn h with rfl|h
  ·exact .inr rfl
  ·exact .inl h
theorem wX {top:ByteArray}:∀ (es:List Ent) (L:LN) {q:ByteArray × Int},q ∈ es.foldl (cN top) L→q ∈ L∨∃ e ∈ es,dK top e=some q.1
|[],L,q,h=>.inl h
|e :: r,L,q,h=>by
  rcases wX r _ h with h|⟨x,hx,hq⟩
  ·rcases qT1 h with h|h
   ·exact .inl h
   ·exact .inr ⟨e,by simp,h⟩
  ·exact .inr ⟨x,by simp [hx],hq⟩
theorem qA6 {top:ByteArray}:∀ (es:List Ent) (L:LN),qHh L→qHh (es.foldl (cN top) L)
|[],L,h=>h
|e :: r,L,h=>by
  refine qA6 r _ ?_;unfold cN;split
  ·exact qVe _ _ h
  ·exact h
theorem qQ1 {top:ByteArray}:∀ (es:List Ent) (L:LN),(es.foldl (cN top) L).length≤L.length + es.length
|[],L=>Nat.le_refl _
|e :: r,L=>by
  have h1:=qQ1 (top:=top) r (cN top L e)
  have h2:(cN top L e).length≤L.length + 1:=by
   have pl:∀ (q:ByteArray) (x:Int) (L:LN),(put q x L).length≤L.length + 1:=by
    intro q x L
    induction L with
   |nil=>exact Nat.le_refl _
   |cons y r ih =>
     obtain ⟨t,y⟩:=y;rw [put]
     (repeat' split) <;> simp only [List.length_cons] <;> omega
   unfold cN;split
   ·exact pl _ _ _
   ·omega
  simp only [List.foldl_cons,List.length_cons];omega
theorem zGm (s:ByteArray):(vol s).size≤s.size:=by rw [vol,ByteArray.size_extract];omega
theorem zQ6 {s:ByteArray} (h:¬ s={ data:=#[] }):0 < s.size:=by
 rcases Nat.eq_zero_or_pos s.size with h0|h0
 ·exact absurd (ByteArray.size_eq_zero_iff.1 h0) h
 ·exact h0
theorem wY {top q:ByteArray} {e:Ent} (h:dK top e=some q):top.size < q.size∧q.size≤e.1.size:=by
 unfold dK at h;split at h
 ·cases h
 ·rename_i hn;simp only [not_or,Option.some.injEq] at hn h;obtain ⟨h1,h2,h3⟩:=hn
  have hu:eK e.1 top=true:=by simpa using h2
  have hf:=zQ6 h3
  have hv:(lM e.1 top).size≤(pF (e.1.extract top.size e.1.size)).size:=zGm _
  have he:(e.1.extract top.size e.1.size).size=e.1.size - top.size:=by rw [ByteArray.size_extract];omega
  subst h;unfold qAd
  by_cases ht:top={ data:=#[] }
  ·rw [if_pos ht];subst ht
   have:(pF (e.1.extract ({ data:=#[] }:ByteArray).size e.1.size)).size≤(e.1.extract ({ data:=#[] }:ByteArray).size e.1.size).size:=by
    unfold pF;split
    ·rw [ByteArray.size_extract];omega
    ·exact Nat.le_refl _
   have h0:({ data:=#[] }:ByteArray).size=0:=rfl
   rw [h0] at this he hv ⊢;exact ⟨by omega,by omega⟩
  ·rw [if_neg ht,if_neg h3]
   -- behind the path stands a stroke
   have kQ:(top ++ stroke).data.toList.isPrefixOf e.1.data.toList=true:=by
    unfold eK at hu;simp only [Bool.or_eq_true,decide_eq_true_eq] at hu
    rcases hu with (h|h)|h
    ·exact absurd h ht
    ·exact absurd h h1
    ·exact h
   obtain ⟨r,hr⟩:=List.isPrefixOf_iff_prefix.1 kQ
   have hl:(top ++ stroke).data.toList.length=top.size + 1:=by
    have:(top ++ stroke).size=top.size + stroke.size:=ByteArray.size_append
    rw [← Lib.size_eq,this];rfl
   have hsz:top.size + 1≤e.1.size:=by
    have:=congrArg List.length hr
    rw [List.length_append,hl] at this
    have:=Lib.size_eq e.1
    omega
   have hst:stroke.data.toList.isPrefixOf (e.1.extract top.size e.1.size).data.toList=true:=by
    rw [List.isPrefixOf_iff_prefix];refine ⟨r,?_⟩
    have ed:(e.1.extract top.size e.1.size).data.toList=e.1.data.toList.drop top.size:=by
     rw [ByteArray.data_extract,Array.toList_extract,List.extract_eq_take_drop,List.take_of_length_le];rw [List.length_drop,← Lib.size_eq];omega
    rw [ed,← hr]
    have e1:(top ++ stroke).data.toList=top.data.toList ++ stroke.data.toList:=by simp
    rw [e1,List.append_assoc,List.drop_append_of_le_length (by rw [← Lib.size_eq];omega),List.drop_of_length_le (by rw [← Lib.size_eq];omega)]
    rfl
   have htr:(pF (e.1.extract top.size e.1.size)).size=e.1.size - top.size - 1:=by
    unfold pF;rw [if_pos hst,ByteArray.size_extract];omega
   have e3:(top ++ stroke ++ lM e.1 top).size=top.size + 1 + (lM e.1 top).size:=by
    rw [ByteArray.size_append,ByteArray.size_append];rfl
   rw [e3];omega
end Go.Rc
end
section
namespace Go.Rc
open Go Go.Tr Go.Eng Go.Dk
variable {mg:(Int × ByteArray)→(Int × ByteArray)→(Int × ByteArray)→Bool}
def qYt (n:Int) (L:LN):Prop:=∀ x ∈ L,0≤x.2∧x.2≤n
theorem qK0 {n:Int} {L:LN} (h:qYt n L) (hn:0≤n) (q:ByteArray):0≤(gF L q).getD 0∧(gF L q).getD 0≤n:=by
 cases e:gF L q with
|none=>exact ⟨Int.le_refl _,hn⟩
|some v=>exact h (q,v) (qEq e)
theorem zEt {n:Int} {top:ByteArray} {L:LN} (e:Ent) (h:qYt n L) (hn:0≤n):qYt (n + 1) (cN top L e):=by
 intro x hx;unfold cN at hx
 cases hq:dK top e with
|none=>rw [hq] at hx;have:=h x hx;omega
|some q =>
  rw [hq] at hx
  rcases qHn hx with rfl|hx
  ·have:=qK0 h hn q
   exact ⟨by simp only;omega,by simp only;omega⟩
  ·have:=h x hx;omega
theorem qZt {top:ByteArray} {es:List Ent} (h:∀ e ∈ es,e.1.size≤top.size):lD top es=[]:=by
 cases hx:lD top es with
|nil=>rfl
|cons q r =>
  rcases wX es [] (q:=q) (by rw [show es.foldl (cN top) []=lD top es from rfl,hx];simp) with h0|⟨e,he,hq⟩
  ·cases h0
  ·have:=wY hq
   have:=h e he
   omega
end Go.Rc
end
