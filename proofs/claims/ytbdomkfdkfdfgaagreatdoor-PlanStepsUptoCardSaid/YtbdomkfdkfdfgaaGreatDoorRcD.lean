/-
  Recon: ay many things are said ay aU are entries, at the most: plain.
-/
import Derived.Test.YtbdomkfdkfdfgaaGreatDoorDkB
import Derived.Test.YtbdomkfdkfdfgaaGreatDoorApd
set_option linter.unusedSimpArgs false
set_option linter.unusedVariables false
section
namespace Go.Rc
open Go Go.Tr Go.Eng Go.Dk
def tR (s:ByteArray):ByteArray:=if stroke.data.toList.isPrefixOf s.data.toList=true then s.extract 1 s.size else s
def oF (p top:ByteArray):ByteArray:=vol (tR (p.extract top.size p.size))
def qDl (a b:ByteArray):ByteArray:=if a={ data:=#[] } then b else if b={ data:=#[] } then a else a ++ stroke ++ b
def eQ (top:ByteArray) (e:Ent):Option ByteArray:=if e.1=top∨dY e.1 top=false∨oF e.1 top={ data:=#[] } then none else some (qDl top (oF e.1 top))
abbrev LN:=List (ByteArray × Int)
def dP (top:ByteArray) (L:LN) (e:Ent):LN:=match eQ top e with
|some q=>put q ((iQ L q).getD 0 + 1) L
|none=>L
def oB (top:ByteArray) (es:List Ent):LN:=es.foldl (dP top) []
def qGy (t:List Ent) (p:ByteArray):List Ent:=t.filter fun e=>dY e.1 p
def qR (mg:(Int × ByteArray)→(Int × ByteArray)→(Int × ByteArray)→Bool) (r:ByteArray→LN) (A H S:List Ent) (p:ByteArray):LN :=
 if qGy H p=qGy S p then (if qGy A p=qGy H p then [] else [(p,1)])
 else if (aN H p).1=1∧(aN S p).1=1 then (if (aN A p).1=1 then [] else [(p,1)]) ++ r p
 else if qGy H p=qGy A p then [(p,3)]
 else if qGy S p=qGy A p then [(p,2)]
 else [(p,if mg (aN A p) (aN H p) (aN S p)=true then 4 else 5)]
def eY (mg:(Int × ByteArray)→(Int × ByteArray)→(Int × ByteArray)→Bool) (A H S:List Ent):Nat→ByteArray→LN
|0,_=>[]
|k + 1,top=>((oB top (A ++ H ++ S)).map fun e=>e.1).flatMap (qR mg (eY mg A H S k) A H S)
theorem qV0 {top:ByteArray} {L:LN} {e:Ent} {q:ByteArray × Int} (h:q ∈ dP top L e):q ∈ L∨eQ top e=some q.1:=by
 unfold dP at h
 cases hn:eQ top e with
|none=>rw [hn] at h;exact .inl h
|some s =>
  rw [hn] at h
  rcases qKu h with rfl|h
  ·exact .inr rfl
  ·exact .inl h
theorem qCm {top:ByteArray}:∀ (es:List Ent) (L:LN) {q:ByteArray × Int},q ∈ es.foldl (dP top) L→q ∈ L∨∃ e ∈ es,eQ top e=some q.1
|[],L,q,h=>.inl h
|e :: r,L,q,h=>by
  rcases qCm r _ h with h|⟨x,hx,hq⟩
  ·rcases qV0 h with h|h
   ·exact .inl h
   ·exact .inr ⟨e,by simp,h⟩
  ·exact .inr ⟨x,by simp [hx],hq⟩
theorem qD3 {top:ByteArray}:∀ (es:List Ent) (L:LN),qKm L→qKm (es.foldl (dP top) L)
|[],L,h=>h
|e :: r,L,h=>by
  refine qD3 r _ ?_;unfold dP;split
  ·exact qXd _ _ h
  ·exact h
theorem qS3 {top:ByteArray}:∀ (es:List Ent) (L:LN),(es.foldl (dP top) L).length≤L.length + es.length
|[],L=>Nat.le_refl _
|e :: r,L=>by
  have h1:=qS3 (top:=top) r (dP top L e)
  have h2:(dP top L e).length≤L.length + 1:=by
   have pl:∀ (q:ByteArray) (x:Int) (L:LN),(put q x L).length≤L.length + 1:=by
    intro q x L
    induction L with
   |nil=>exact Nat.le_refl _
   |cons y r ih =>
     obtain ⟨t,y⟩:=y;rw [put]
     (repeat' split) <;> simp only [List.length_cons] <;> omega
   unfold dP;split
   ·exact pl _ _ _
   ·omega
  simp only [List.foldl_cons,List.length_cons];omega
theorem zJx (s:ByteArray):(vol s).size≤s.size:=by rw [vol,ByteArray.size_extract];omega
theorem zTe {s:ByteArray} (h:¬ s={ data:=#[] }):0 < s.size:=by
 rcases Nat.eq_zero_or_pos s.size with h0|h0
 ·exact absurd (ByteArray.size_eq_zero_iff.1 h0) h
 ·exact h0
theorem qCn {top q:ByteArray} {e:Ent} (h:eQ top e=some q):top.size < q.size∧q.size≤e.1.size:=by
 unfold eQ at h;split at h
 ·cases h
 ·rename_i hn;simp only [not_or,Option.some.injEq] at hn h;obtain ⟨h1,h2,h3⟩:=hn
  have hu:dY e.1 top=true:=by simpa using h2
  have hf:=zTe h3
  have hv:(oF e.1 top).size≤(tR (e.1.extract top.size e.1.size)).size:=zJx _
  have he:(e.1.extract top.size e.1.size).size=e.1.size - top.size:=by rw [ByteArray.size_extract];omega
  subst h;unfold qDl
  by_cases ht:top={ data:=#[] }
  ·rw [if_pos ht];subst ht
   have:(tR (e.1.extract ({ data:=#[] }:ByteArray).size e.1.size)).size≤(e.1.extract ({ data:=#[] }:ByteArray).size e.1.size).size:=by
    unfold tR;split
    ·rw [ByteArray.size_extract];omega
    ·exact Nat.le_refl _
   have h0:({ data:=#[] }:ByteArray).size=0:=rfl
   rw [h0] at this he hv ⊢;exact ⟨by omega,by omega⟩
  ·rw [if_neg ht,if_neg h3]
   -- behind the path stands a stroke
   have nU:(top ++ stroke).data.toList.isPrefixOf e.1.data.toList=true:=by
    unfold dY at hu;simp only [Bool.or_eq_true,decide_eq_true_eq] at hu
    rcases hu with (h|h)|h
    ·exact absurd h ht
    ·exact absurd h h1
    ·exact h
   obtain ⟨r,hr⟩:=List.isPrefixOf_iff_prefix.1 nU
   have hl:(top ++ stroke).data.toList.length=top.size + 1:=by
    have:(top ++ stroke).size=top.size + stroke.size:=ByteArray.size_append
    rw [← Lib.size_eq,this];rfl
   have hsz:top.size + 1≤e.1.size:=by
    have:=congrArg List.length hr
    rw [List.length_append,hl] at this
    have:=Lib.size_eq e.1
    omega
   have hst:stroke.data.toList.isPrefixOf (e.1.extract top.size e.1.size).data.toList=true:=by
    rw [List.isPrefixOf_iff_prefix];refine ⟨r,?_⟩
    have ed:(e.1.extract top.size e.1.size).data.toList=e.1.data.toList.drop top.size:=by
     rw [ByteArray.data_extract,Array.toList_extract,List.extract_eq_take_drop,List.take_of_length_le];rw [List.length_drop,← Lib.size_eq];omega
    rw [ed,← hr]
    have e1:(top ++ stroke).data.toList=top.data.toList ++ stroke.data.toList:=by simp
    rw [e1,List.append_assoc,List.drop_append_of_le_length (by rw [← Lib.size_eq];omega),List.drop_of_length_le (by rw [← Lib.size_eq];omega)]
    rfl
   have htr:(tR (e.1.extract top.size e.1.size)).size=e.1.size - top.size - 1:=by
    unfold tR;rw [if_pos hst,ByteArray.size_extract];omega
   have e3:(top ++ stroke ++ oF e.1 top).size=top.size + 1 + (oF e.1 top).size:=by
    rw [ByteArray.size_append,ByteArray.size_append];rfl
   rw [e3];omega
end Go.Rc
end
section
namespace Go.Rc
open Go Go.Tr Go.Eng Go.Dk
variable {mg:(Int × ByteArray)→(Int × ByteArray)→(Int × ByteArray)→Bool}
def zAu (n:Int) (L:LN):Prop:=∀ x ∈ L,0≤x.2∧x.2≤n
theorem qMy {n:Int} {L:LN} (h:zAu n L) (hn:0≤n) (q:ByteArray):0≤(iQ L q).getD 0∧(iQ L q).getD 0≤n:=by
 cases e:iQ L q with
|none=>exact ⟨Int.le_refl _,hn⟩
|some v=>exact h (q,v) (qHe e)
theorem zG8 {n:Int} {top:ByteArray} {L:LN} (e:Ent) (h:zAu n L) (hn:0≤n):zAu (n + 1) (dP top L e):=by
 intro x hx;unfold dP at hx
 cases hq:eQ top e with
|none=>rw [hq] at hx;have:=h x hx;omega
|some q =>
  rw [hq] at hx
  rcases qKu hx with rfl|hx
  ·have:=qMy h hn q
   exact ⟨by simp only;omega,by simp only;omega⟩
  ·have:=h x hx;omega
theorem zB0 {top:ByteArray} {es:List Ent} (h:∀ e ∈ es,e.1.size≤top.size):oB top es=[]:=by
 cases hx:oB top es with
|nil=>rfl
|cons q r =>
  rcases qCm es [] (q:=q) (by rw [show es.foldl (dP top) []=oB top es from rfl,hx];simp) with h0|⟨e,he,hq⟩
  ·cases h0
  ·have:=qCn hq
   have:=h e he
   omega
end Go.Rc
end
section
namespace Go.Rc
open Go Go.Tr Go.Eng Go.Dk
variable {mg:(Int × ByteArray)→(Int × ByteArray)→(Int × ByteArray)→Bool}
theorem qQg (s:ByteArray) (i j:Nat):(s.extract i j).data.toList=(s.data.toList.drop i).take (j - i):=by
 rw [ByteArray.data_extract,Array.toList_extract,List.extract_eq_take_drop]
def qEo:List UInt8→List UInt8
|[]=>[]
|c :: r=>if c=47 then r else c :: r
theorem zG1 (s:ByteArray):(tR s).data.toList=qEo s.data.toList:=by
 unfold tR
 have hs:stroke.data.toList=[47]:=rfl
 rw [hs]
 cases h:s.data.toList with
|nil=>simp [qEo,h]
|cons c r =>
  by_cases hc:c=47
  ·subst hc;rw [if_pos (by simp),qQg,h]
   have:s.size=r.length + 1:=by rw [Lib.size_eq,h];rfl
   rw [this];simp [qEo]
  ·rw [if_neg (by simp [Ne.symm hc]),h]
   simp [qEo,hc]
theorem zJw (s:ByteArray):(vol s).data.toList=s.data.toList.take (qAm s.data.toList):=by
 rw [vol,qQg,List.drop_zero,Nat.sub_zero]
theorem qQe (p top:ByteArray):(oF p top).data.toList=(qEo (p.data.toList.drop top.data.toList.length)).take (qAm (qEo (p.data.toList.drop top.data.toList.length))):=by
 have e:(p.extract top.size p.size).data.toList=p.data.toList.drop top.data.toList.length:=by
  rw [qQg,Lib.size_eq top,List.take_of_length_le];rw [List.length_drop,← Lib.size_eq];omega
 rw [oF,zJw,zG1,e]
theorem qRo:∀ (l:List UInt8),∀ c ∈ l.take (qAm l),c≠47
|[],c,h=>by simp at h
|x :: r,c,h=>by
  rw [qAm] at h;split at h
  ·simp at h
  ·rename_i hx;rw [List.take_succ_cons,List.mem_cons] at h
   rcases h with rfl|h
   ·exact hx
   ·exact qRo r c h
theorem zC4:∀ (f t:List UInt8),(∀ c ∈ f,c≠47)→(t=[]∨∃ r,t=47 :: r)→qAm (f ++ t)=f.length
|[],t,_,ht=>by
  rcases ht with rfl|⟨r,rfl⟩
  ·rfl
  ·simp [qAm]
|c :: f,t,hf,ht=>by
  rw [List.cons_append,qAm,if_neg (hf c (by simp)),zC4 f t (fun x hx=>hf x (by simp [hx])) ht];rfl
theorem zHz (a b:ByteArray) (hb:b≠{ data:=#[] }):(qDl a b).data.toList=if a={ data:=#[] } then b.data.toList else a.data.toList ++ 47 :: b.data.toList:=by
 unfold qDl;split
 ·rfl
 ·simp [stroke]
theorem qRp {p q:ByteArray} (h:dY p q=true) (hq:q≠{ data:=#[] }):∃ t,p.data.toList=q.data.toList ++ t∧(t=[]∨∃ r,t=47 :: r):=by
 unfold dY at h;simp only [Bool.or_eq_true,decide_eq_true_eq] at h
 rcases h with (h|h)|h
 ·exact absurd h hq
 ·subst h;exact ⟨[],by simp,.inl rfl⟩
 ·obtain ⟨r,hr⟩:=List.isPrefixOf_iff_prefix.1 h;refine ⟨47 :: r,?_,.inr ⟨r,rfl⟩⟩;rw [← hr];simp [stroke]
theorem qX0 {top q:ByteArray} {e0 e:Ent} (h:eQ top e0=some q) (hu:dY e.1 q=true):eQ top e=some q:=by
 have hsz:=(qCn h).1
 unfold eQ at h;split at h
 ·cases h
 ·rename_i hn;simp only [not_or,Option.some.injEq] at hn h;obtain ⟨h1,h2,h3⟩:=hn
  have hq0:q≠{ data:=#[] }:=fun x=>by rw [x] at hsz;exact absurd hsz (by show ¬ _ < 0;omega)
  obtain ⟨t,ht,hts⟩:=qRp hu hq0;obtain ⟨f,hf⟩:∃ f,oF e0.1 top=f:=⟨_,rfl⟩;rw [hf] at h h3
  have hfr:∀ c ∈ f.data.toList,c≠47:=by
   rw [← hf,qQe];exact qRo _
  have hfn:f.data.toList≠[]:=fun x=>h3 (tF (by rw [x]))
  have hql:q.data.toList=if top={ data:=#[] } then f.data.toList else top.data.toList ++ 47 :: f.data.toList:=by
   rw [← h];exact zHz _ _ h3
  have hne:e.1≠top:=fun x=>by
   have:e.1.size=q.size + t.length:=by rw [Lib.size_eq,ht,List.length_append,← Lib.size_eq]
   rw [x] at this;omega
  have hun:dY e.1 top=true:=by
   unfold dY
   by_cases ht0:top={ data:=#[] }
   ·have:top=ByteArray.empty:=ht0
    rw [decide_eq_true this];rfl
   ·rw [if_neg ht0] at hql
    have:(top ++ stroke).data.toList.isPrefixOf e.1.data.toList=true:=by
     rw [List.isPrefixOf_iff_prefix];refine ⟨f.data.toList ++ t,?_⟩;rw [ht,hql];simp [stroke]
    rw [this];simp
  have hfi:oF e.1 top=f:=by
   refine tF ?_
   have key:qEo (e.1.data.toList.drop top.data.toList.length)=f.data.toList ++ t:=by
    rw [ht,hql]
    by_cases ht0:top={ data:=#[] }
    ·rw [if_pos ht0,ht0]
     cases hx:f.data.toList with
    |nil=>exact absurd hx hfn
    |cons c r =>
      have:c≠47:=hfr c (by rw [hx];simp)
      simp [qEo,this]
    ·rw [if_neg ht0,List.append_assoc,List.drop_append_of_le_length (Nat.le_refl _),List.drop_of_length_le (Nat.le_refl _)];simp [qEo]
   rw [qQe,key,zC4 _ _ hfr hts,List.take_append_of_le_length (Nat.le_refl _),List.take_of_length_le (Nat.le_refl _)]
  unfold eQ;rw [if_neg (by rw [hfi];simp only [not_or];exact ⟨hne,by rw [hun];decide,h3⟩),hfi,h]
theorem zK9 {x:Option ByteArray}:∀ {ns:List ByteArray},ns.Nodup→(ns.map fun q=>if x=some q then 1 else 0).sum≤if x.isSome=true then 1 else 0
|[],_=>by simp
|a :: r,h=>by
  rw [List.nodup_cons] at h
  have ih:=zK9 (x:=x) h.2
  rw [List.map_cons,List.sum_cons]
  by_cases hx:x=some a
  ·have h0:∀ (l:List ByteArray),a ∉ l→(l.map fun q=>if x=some q then 1 else 0).sum=0:=by
    intro l
    induction l with
   |nil=>intro _;rfl
   |cons b l il =>
     intro hb;rw [List.mem_cons,not_or] at hb;rw [List.map_cons,List.sum_cons,il hb.2,if_neg (fun y=>hb.1 (by rw [hx] at y;exact (Option.some.inj y)))]
   rw [if_pos hx,h0 r h.1,hx];simp
  ·rw [if_neg hx];omega
theorem zDb (f g:ByteArray→Nat):∀ (ns:List ByteArray),(ns.map fun q=>f q + g q).sum=(ns.map f).sum + (ns.map g).sum
|[]=>rfl
|a :: r=>by simp only [List.map_cons,List.sum_cons,zDb f g r];omega
theorem qK8 {f g:ByteArray→Nat}:∀ {ns:List ByteArray},(∀ q ∈ ns,f q≤g q)→(ns.map f).sum≤(ns.map g).sum
|[],_=>Nat.le_refl _
|a :: r,h=>by
  have h1:=h a (by simp)
  have h2:=qK8 (ns:=r) fun q hq=>h q (by simp [hq])
  simp only [List.map_cons,List.sum_cons];omega
theorem zDa {top:ByteArray} {ns:List ByteArray} (hn:ns.Nodup):∀ (E:List Ent),(ns.map fun q=>E.countP fun e=>decide (eQ top e=some q)).sum≤E.countP fun e=>(eQ top e).isSome
|[]=>by
  have:∀ (l:List ByteArray),(l.map fun q=>List.countP (fun e=>decide (eQ top e=some q)) ([]:List Ent)).sum=0:=by
   intro l
   induction l with
  |nil=>rfl
  |cons a r ih=>rw [List.map_cons,List.sum_cons,ih];rfl
  rw [this];exact Nat.zero_le _
|e :: r=>by
  have ih:=zDa (top:=top) hn r
  have ho:=zK9 (x:=eQ top e) hn
  simp only [List.countP_cons,decide_eq_true_eq];rw [zDb];omega
theorem qU6 {f g:Ent→Bool} (h:∀ e,f e=true→g e=true):∀ {E:List Ent},(∃ e ∈ E,g e=true∧f e=false)→E.countP f + 1≤E.countP g
|[],⟨e,he,_⟩=>by cases he
|a :: r,⟨e,he,h1,h2⟩=>by
  have hle:r.countP f≤r.countP g:=List.countP_mono_left fun x _ hx=>h x hx
  rw [List.countP_cons,List.countP_cons]
  rcases List.mem_cons.1 he with rfl|he
  ·rw [h1,h2];simp;omega
  ·have:=qU6 h ⟨e,he,h1,h2⟩
   cases hf:f a with
  |true=>rw [h a hf];simp;omega
  |false=>simp;split <;> omega
theorem qXz (top:ByteArray) (es:List Ent):((oB top es).map fun e=>e.1).Nodup:=by
 have h:=qD3 (top:=top) es [] List.Pairwise.nil
 refine List.pairwise_map.2 (h.imp fun {a b} hab e=>?_)
 rw [e,fD] at hab;cases hab
def mu (top:ByteArray) (E:List Ent):Nat:=E.countP fun e=>(eQ top e).isSome
theorem qVd (A H S:List Ent):∀ (k:Nat) (top:ByteArray),(eY mg A H S k top).length≤mu top (A ++ H ++ S)
|0,top=>Nat.zero_le _
|k + 1,top=>by
  rw [eY,List.length_flatMap];refine Nat.le_trans (qK8 (g:=fun q=>(A ++ H ++ S).countP fun e=>decide (eQ top e=some q)) fun q hq=>?_) (zDa (qXz top _) _)
  obtain ⟨x,hx,hxq⟩:=List.mem_map.1 hq
  rcases qCm (A ++ H ++ S) [] hx with h0|⟨e0,he0,hn0⟩
  ·cases h0
  rw [hxq] at hn0
  have h1:1≤(A ++ H ++ S).countP fun e=>decide (eQ top e=some q):=List.countP_pos_iff.2 ⟨e0,he0,decide_eq_true hn0⟩
  unfold qR;split
  ·split
   ·exact Nat.zero_le _
   ·exact h1
  ·split
   ·rename_i hd
    have hH:∃ e ∈ H,e.1=q:=by
     have h:=hd.1
     unfold aN at h
     cases hf:H.find? (fun e=>decide (e.1=q)) with
    |none=>rw [hf] at h;exact absurd h (by decide)
    |some e=>exact ⟨e,List.mem_of_find?_eq_some hf,by simpa using List.find?_some hf⟩
    obtain ⟨e,he,heq⟩:=hH
    have ih:=qVd A H S k q
    have hc:(A ++ H ++ S).countP (fun e=>(eQ q e).isSome) + 1≤(A ++ H ++ S).countP fun e=>decide (eQ top e=some q):=by
     refine qU6 (fun y hy=>?_) ⟨e,by simp [he],?_,?_⟩
     ·refine decide_eq_true (qX0 hn0 ?_);unfold eQ at hy;split at hy
      ·cases hy
      ·rename_i hz;simp only [not_or] at hz
       simpa using hz.2.1
     ·refine decide_eq_true (qX0 hn0 ?_);unfold dY;rw [heq];simp
     ·unfold eQ;rw [if_pos (.inl heq)];rfl
    unfold mu at ih;rw [List.length_append];split
    ·rw [List.length_nil];omega
    ·rw [List.length_singleton];omega
   ·split
    ·exact h1
    ·split
     ·exact h1
     ·exact h1
theorem zAp (A H S:List Ent) (k:Nat) (top:ByteArray):(eY mg A H S k top).length≤A.length + H.length + S.length:=by
 refine Nat.le_trans (qVd A H S k top) ?_;unfold mu;refine Nat.le_trans List.countP_le_length ?_;rw [List.length_append,List.length_append];exact Nat.le_refl _
end Go.Rc
end
