/-
  Recon: path.Join, strings.TrimPrefix, what is said.
-/
import Derived.Test.YtbdomkfdkfdfgaaGreatDoorRcB
import Derived.Test.YtbdomkfdkfdfgaaGreatDoorTrH
set_option linter.unusedSimpArgs false
set_option linter.unusedVariables false
section
namespace Go.Rc
open Go Go.Tr Go.Eng Go.Dk
variable {mg:(Int × ByteArray)→(Int × ByteArray)→(Int × ByteArray)→Bool}
theorem qNh (s:ByteArray) (i j:Nat):(s.extract i j).data.toList=(s.data.toList.drop i).take (j - i):=by
 rw [ByteArray.data_extract,Array.toList_extract,List.extract_eq_take_drop]
def qB8:List UInt8→List UInt8
|[]=>[]
|c :: r=>if c=47 then r else c :: r
theorem zEm (s:ByteArray):(pF s).data.toList=qB8 s.data.toList:=by
 unfold pF
 have hs:stroke.data.toList=[47]:=rfl
 rw [hs]
 cases h:s.data.toList with
|nil=>simp [qB8,h]
|cons c r =>
  by_cases hc:c=47
  ·subst hc;rw [if_pos (by simp),qNh,h]
   have:s.size=r.length + 1:=by rw [Lib.size_eq,h];rfl
   rw [this];simp [qB8]
  ·rw [if_neg (by simp [Ne.symm hc]),h]
   simp [qB8,hc]
theorem zGl (s:ByteArray):(vol s).data.toList=s.data.toList.take (uT s.data.toList):=by
 rw [vol,qNh,List.drop_zero,Nat.sub_zero]
theorem qNf (p top:ByteArray):(lM p top).data.toList=(qB8 (p.data.toList.drop top.data.toList.length)).take (uT (qB8 (p.data.toList.drop top.data.toList.length))):=by
 have e:(p.extract top.size p.size).data.toList=p.data.toList.drop top.data.toList.length:=by
  rw [qNh,Lib.size_eq top,List.take_of_length_le];rw [List.length_drop,← Lib.size_eq];omega
 rw [lM,zGl,zEm,e]
theorem qPs:∀ (l:List UInt8),∀ c ∈ l.take (uT l),c≠47
|[],c,h=>by simp at h
|x :: r,c,h=>by
  rw [uT] at h;split at h
  ·simp at h
  ·rename_i hx;rw [List.take_succ_cons,List.mem_cons] at h
   rcases h with rfl|h
   ·exact hx
   ·exact qPs r c h
theorem zAz:∀ (f t:List UInt8),(∀ c ∈ f,c≠47)→(t=[]∨∃ r,t=47 :: r)→uT (f ++ t)=f.length
|[],t,_,ht=>by
  rcases ht with rfl|⟨r,rfl⟩
  ·rfl
  ·simp [uT]
|c :: f,t,hf,ht=>by
  rw [List.cons_append,uT,if_neg (hf c (by simp)),zAz f t (fun x hx=>hf x (by simp [hx])) ht];rfl
theorem zFp (a b:ByteArray) (hb:b≠{ data:=#[] }):(qAd a b).data.toList=if a={ data:=#[] } then b.data.toList else a.data.toList ++ 47 :: b.data.toList:=by
 unfold qAd;split
 ·rfl
 ·simp [stroke]
theorem qPt {p q:ByteArray} (h:eK p q=true) (hq:q≠{ data:=#[] }):∃ t,p.data.toList=q.data.toList ++ t∧(t=[]∨∃ r,t=47 :: r):=by
 unfold eK at h;simp only [Bool.or_eq_true,decide_eq_true_eq] at h
 rcases h with (h|h)|h
 ·exact absurd h hq
 ·subst h;exact ⟨[],by simp,.inl rfl⟩
 ·obtain ⟨r,hr⟩:=List.isPrefixOf_iff_prefix.1 h;refine ⟨47 :: r,?_,.inr ⟨r,rfl⟩⟩;rw [← hr];simp [stroke]
theorem qVz {top q:ByteArray} {e0 e:Ent} (h:dK top e0=some q) (hu:eK e.1 q=true):dK top e=some q:=by
 have hsz:=(wY h).1
 unfold dK at h;split at h
 ·cases h
 ·rename_i hn;simp only [not_or,Option.some.injEq] at hn h;obtain ⟨h1,h2,h3⟩:=hn
  have hq0:q≠{ data:=#[] }:=fun x=>by rw [x] at hsz;exact absurd hsz (by show ¬ _ < 0;omega)
  obtain ⟨t,ht,hts⟩:=qPt hu hq0;obtain ⟨f,hf⟩:∃ f,lM e0.1 top=f:=⟨_,rfl⟩;rw [hf] at h h3
  have hfr:∀ c ∈ f.data.toList,c≠47:=by
   rw [← hf,qNf];exact qPs _
  have hfn:f.data.toList≠[]:=fun x=>h3 (oV (by rw [x]))
  have hql:q.data.toList=if top={ data:=#[] } then f.data.toList else top.data.toList ++ 47 :: f.data.toList:=by
   rw [← h];exact zFp _ _ h3
  have hne:e.1≠top:=fun x=>by
   have:e.1.size=q.size + t.length:=by rw [Lib.size_eq,ht,List.length_append,← Lib.size_eq]
   rw [x] at this;omega
  have hun:eK e.1 top=true:=by
   unfold eK
   by_cases ht0:top={ data:=#[] }
   ·have:top=ByteArray.empty:=ht0
    rw [decide_eq_true this];rfl
   ·rw [if_neg ht0] at hql
    have:(top ++ stroke).data.toList.isPrefixOf e.1.data.toList=true:=by
     rw [List.isPrefixOf_iff_prefix];refine ⟨f.data.toList ++ t,?_⟩;rw [ht,hql];simp [stroke]
    rw [this];simp
  have hfi:lM e.1 top=f:=by
   refine oV ?_
   have key:qB8 (e.1.data.toList.drop top.data.toList.length)=f.data.toList ++ t:=by
    rw [ht,hql]
    by_cases ht0:top={ data:=#[] }
    ·rw [if_pos ht0,ht0]
     cases hx:f.data.toList with
    |nil=>exact absurd hx hfn
    |cons c r =>
      have:c≠47:=hfr c (by rw [hx];simp)
      simp [qB8,this]
    ·rw [if_neg ht0,List.append_assoc,List.drop_append_of_le_length (Nat.le_refl _),List.drop_of_length_le (Nat.le_refl _)];simp [qB8]
   rw [qNf,key,zAz _ _ hfr hts,List.take_append_of_le_length (Nat.le_refl _),List.take_of_length_le (Nat.le_refl _)]
  unfold dK;rw [if_neg (by rw [hfi];simp only [not_or];exact ⟨hne,by rw [hun];decide,h3⟩),hfi,h]
theorem zH3 {x:Option ByteArray}:∀ {ns:List ByteArray},ns.Nodup→(ns.map fun q=>if x=some q then 1 else 0).sum≤if x.isSome=true then 1 else 0
|[],_=>by simp
|a :: r,h=>by
  rw [List.nodup_cons] at h
  have ih:=zH3 (x:=x) h.2
  rw [List.map_cons,List.sum_cons]
  by_cases hx:x=some a
  ·have h0:∀ (l:List ByteArray),a ∉ l→(l.map fun q=>if x=some q then 1 else 0).sum=0:=by
    intro l
    induction l with
   |nil=>intro _;rfl
   |cons b l il =>
     intro hb;rw [List.mem_cons,not_or] at hb;rw [List.map_cons,List.sum_cons,il hb.2,if_neg (fun y=>hb.1 (by rw [hx] at y;exact (Option.some.inj y)))]
   rw [if_pos hx,h0 r h.1,hx];simp
  ·rw [if_neg hx];omega
theorem zA4 (f g:ByteArray→Nat):∀ (ns:List ByteArray),(ns.map fun q=>f q + g q).sum=(ns.map f).sum + (ns.map g).sum
|[]=>rfl
|a :: r=>by simp only [List.map_cons,List.sum_cons,zA4 f g r];omega
theorem qAh {f g:ByteArray→Nat}:∀ {ns:List ByteArray},(∀ q ∈ ns,f q≤g q)→(ns.map f).sum≤(ns.map g).sum
|[],_=>Nat.le_refl _
|a :: r,h=>by
  have h1:=h a (by simp)
  have h2:=qAh (ns:=r) fun q hq=>h q (by simp [hq])
  simp only [List.map_cons,List.sum_cons];omega
theorem zA3 {top:ByteArray} {ns:List ByteArray} (hn:ns.Nodup):∀ (E:List Ent),(ns.map fun q=>E.countP fun e=>decide (dK top e=some q)).sum≤E.countP fun e=>(dK top e).isSome
|[]=>by
  have:∀ (l:List ByteArray),(l.map fun q=>List.countP (fun e=>decide (dK top e=some q)) ([]:List Ent)).sum=0:=by
   intro l
   induction l with
  |nil=>rfl
  |cons a r ih=>rw [List.map_cons,List.sum_cons,ih];rfl
  rw [this];exact Nat.zero_le _
|e :: r=>by
  have ih:=zA3 (top:=top) hn r
  have ho:=zH3 (x:=dK top e) hn
  simp only [List.countP_cons,decide_eq_true_eq];rw [zA4];omega
theorem qSv {f g:Ent→Bool} (h:∀ e,f e=true→g e=true):∀ {E:List Ent},(∃ e ∈ E,g e=true∧f e=false)→E.countP f + 1≤E.countP g
|[],⟨e,he,_⟩=>by cases he
|a :: r,⟨e,he,h1,h2⟩=>by
  have hle:r.countP f≤r.countP g:=List.countP_mono_left fun x _ hx=>h x hx
  rw [List.countP_cons,List.countP_cons]
  rcases List.mem_cons.1 he with rfl|he
  ·rw [h1,h2];simp;omega
  ·have:=qSv h ⟨e,he,h1,h2⟩
   cases hf:f a with
  |true=>rw [h a hf];simp;omega
  |false=>simp;split <;> omega
theorem qVy (top:ByteArray) (es:List Ent):((lD top es).map fun e=>e.1).Nodup:=by
 have h:=qA6 (top:=top) es [] List.Pairwise.nil
 refine List.pairwise_map.2 (h.imp fun {a b} hab e=>?_)
 rw [e,fP] at hab;cases hab
def mu (top:ByteArray) (E:List Ent):Nat:=E.countP fun e=>(dK top e).isSome
theorem qS6 (A H S:List Ent):∀ (k:Nat) (top:ByteArray),(dQ mg A H S k top).length≤mu top (A ++ H ++ S)
|0,top=>Nat.zero_le _
|k + 1,top=>by
  rw [dQ,List.length_flatMap];refine Nat.le_trans (qAh (g:=fun q=>(A ++ H ++ S).countP fun e=>decide (dK top e=some q)) fun q hq=>?_) (zA3 (qVy top _) _)
  obtain ⟨x,hx,hxq⟩:=List.mem_map.1 hq
  rcases wX (A ++ H ++ S) [] hx with h0|⟨e0,he0,hn0⟩
  ·cases h0
  rw [hxq] at hn0
  have h1:1≤(A ++ H ++ S).countP fun e=>decide (dK top e=some q):=List.countP_pos_iff.2 ⟨e0,he0,decide_eq_true hn0⟩
  unfold oA;split
  ·split
   ·exact Nat.zero_le _
   ·exact h1
  ·split
   ·rename_i hd
    have hH:∃ e ∈ H,e.1=q:=by
     have h:=hd.1
     unfold aF at h
     cases hf:H.find? (fun e=>decide (e.1=q)) with
    |none=>rw [hf] at h;exact absurd h (by decide)
    |some e=>exact ⟨e,List.mem_of_find?_eq_some hf,by simpa using List.find?_some hf⟩
    obtain ⟨e,he,heq⟩:=hH
    have ih:=qS6 A H S k q
    have hc:(A ++ H ++ S).countP (fun e=>(dK q e).isSome) + 1≤(A ++ H ++ S).countP fun e=>decide (dK top e=some q):=by
     refine qSv (fun y hy=>?_) ⟨e,by simp [he],?_,?_⟩
     ·refine decide_eq_true (qVz hn0 ?_);unfold dK at hy;split at hy
      ·cases hy
      ·rename_i hz;simp only [not_or] at hz
       simpa using hz.2.1
     ·refine decide_eq_true (qVz hn0 ?_);unfold eK;rw [heq];simp
     ·unfold dK;rw [if_pos (.inl heq)];rfl
    unfold mu at ih;rw [List.length_append];split
    ·rw [List.length_nil];omega
    ·rw [List.length_singleton];omega
   ·split
    ·exact h1
    ·split
     ·exact h1
     ·exact h1
theorem qYn (A H S:List Ent) (k:Nat) (top:ByteArray):(dQ mg A H S k top).length≤A.length + H.length + S.length:=by
 refine Nat.le_trans (qS6 A H S k top) ?_;unfold mu;refine Nat.le_trans List.countP_le_length ?_;rw [List.length_append,List.length_append];exact Nat.le_refl _
end Go.Rc
end
section
set_option maxRecDepth 20000
namespace Go.Rc
open Go Go.Eng Go.RowKit Go.Tr Go.Dk
def itl (L:LN):List (List FV):=L.map fun e=>[.v (.string e.1),.v (.int .i64 e.2)]
theorem zCd (L:LN):(itl L).length=L.length:=by simp [itl]
theorem zCc (L:LN):Wid 2 (itl L)=True:=eq_true (qB6 L fun _=>rfl)
theorem zJm (L:LN) (p:ByteArray) (n:Int):itl L ++ [[.v (.string p),.v (.int .i64 n)]]=itl (L ++ [(p,n)]):=by simp [itl]
abbrev wgR (A H S:List Ent):Row:=.bx false 92 [.lst false (aL A),.lst false (aL H),.lst false (aL S),.own 1]
abbrev wgS (A H S:List Ent) (out:LN):aB:=[(0,wgR A H S),(1,.sl true 71 2 (itl out))]
end Go.Rc
namespace Go.Proofs.YtbdomkfdkfdfgaaGreatDoor
open Go Go.Eng Go.RowKit Go.Tr Go.Dk Go.Rc
theorem zMp (a b:ByteArray) (ha:a.size≤1048576) (hb:b.size≤1048576):HFun Tryz.prog 75 [.v (.string a),.v (.string b)] (fun h st=>h=.v (.string (qAd a b))):=by
 refine fJ (N:=17) Tryz.func75 rfl Tryz.ntmps75 Tryz.results75 (by simp) ?_
 refine zE ?_;refine zJ (fun K hK=>?_);simp (disch:=omega) only [push_cast,↓Int.cast_ofNat_Int,simprocAttr];refine hK _ ?_;clear hK K
 unfold qAd
 cases e1:decide (a={ data:=#[] }) with
|true =>
  rw [if_pos (of_decide_eq_true e1)];refine zE ?_;refine zD ?_;refine zE ?_;refine zJ (fun K hK=>?_);simp (disch:=omega) only [push_cast,↓Int.cast_ofNat_Int,simprocAttr,e1];refine hK _ ?_;clear hK K
  refine zA ?_;refine yD rfl ?_;refine zE ?_;refine zJ (fun K hK=>?_);simp (disch:=omega) only [push_cast,↓Int.cast_ofNat_Int,simprocAttr];refine hK _ ?_;clear hK K
  refine zA ?_;refine zW ?_;refine zL ?_;refine zK ?_;simp only [yA,yM,yH,yE,aA,aD,yK,yJ,zS,zM,Nat.reduceEqDiff,reduceIte,reduceCtorEq];exact aM rfl
|false =>
  rw [if_neg (of_decide_eq_false e1)];refine zE ?_;refine zD ?_;refine zE ?_;refine zJ (fun K hK=>?_);simp (disch:=omega) only [push_cast,↓Int.cast_ofNat_Int,simprocAttr,e1];refine hK _ ?_;clear hK K
  refine zA ?_;refine yC rfl ?_
  cases e2:decide (b={ data:=#[] }) with
 |true =>
   rw [if_pos (of_decide_eq_true e2)];refine zE ?_;refine zJ (fun K hK=>?_);simp (disch:=omega) only [push_cast,↓Int.cast_ofNat_Int,simprocAttr,e2];refine hK _ ?_;clear hK K
   refine zA ?_;refine yD rfl ?_;refine zE ?_;refine zJ (fun K hK=>?_);simp (disch:=omega) only [push_cast,↓Int.cast_ofNat_Int,simprocAttr];refine hK _ ?_;clear hK K
   refine zA ?_;refine zW ?_;refine zL ?_;refine zK ?_;simp only [yA,yM,yH,yE,aA,aD,yK,yJ,zS,zM,Nat.reduceEqDiff,reduceIte,reduceCtorEq];exact aM rfl
 |false =>
   rw [if_neg (of_decide_eq_false e2)];refine zE ?_;refine zJ (fun K hK=>?_);simp (disch:=omega) only [push_cast,↓Int.cast_ofNat_Int,simprocAttr,e2];refine hK _ ?_;clear hK K
   refine zA ?_;refine yC rfl ?_;refine zC ?_;refine zB ?_;refine zE ?_
   have h1:({ data:=#[47] }:ByteArray).size=1:=rfl
   have h2:(a ++ ({ data:=#[47] }:ByteArray)).size=a.size + 1:=ByteArray.size_append
   refine zJ (fun K hK=>?_);simp (disch:=omega) only [push_cast,↓Int.cast_ofNat_Int,simprocAttr]
   refine ⟨by omega,by omega,?_⟩
   refine hK _ ?_;clear hK K;refine zA ?_;refine zW ?_;simp only [yA,yM,yH,yE,aA,aD,yK,yJ,zS,zM,Nat.reduceEqDiff,reduceIte,reduceCtorEq];exact aM rfl
theorem zL6 (s:ByteArray):HFun Tryz.prog 103 [.v (.string s),.v (.string { data:=#[47] })] (fun h st=>h=.v (.string (pF s))):=by
 refine fJ (N:=13) Tryz.func103 rfl Tryz.ntmps103 Tryz.results103 (by simp) ?_
 have c:=qR2 s { data:=#[47] }
 refine zE ?_;refine zJ (fun K hK=>?_);simp (disch:=omega) only [push_cast,↓Int.cast_ofNat_Int,simprocAttr];refine hK _ ?_;clear hK K
 unfold pF
 cases e:pre s { data:=#[47] } with
|true =>
  rw [e] at c
  have e':stroke.data.toList.isPrefixOf s.data.toList=true:=e
  have hs:1≤s.size:=by
   obtain ⟨r,hr⟩:=List.isPrefixOf_iff_prefix.1 e'
   have:=congrArg List.length hr
   rw [Lib.size_eq,← this];simp [stroke]
  rw [if_pos e'];refine zE ?_;refine zE ?_;refine zJ (fun K hK=>?_);simp (disch:=omega) only [push_cast,↓Int.cast_ofNat_Int,simprocAttr]
  refine cP zLa c (.cons (.v _) (.cons (.v _) .nil)) ?_;with_reducible refine aC ?_;simp (disch:=omega) only [push_cast,↓Int.cast_ofNat_Int,simprocAttr]
  refine hK _ ?_;clear hK K;refine zA ?_;refine yD rfl ?_
  have h1:({ data:=#[47] }:ByteArray).size=1:=rfl
  refine zE ?_;refine zJ (fun K hK=>?_);simp (disch:=omega) only [push_cast,↓Int.cast_ofNat_Int,simprocAttr,h1]
  refine ⟨⟨by omega,by omega⟩,?_⟩
  refine hK _ ?_;clear hK K;refine zA ?_;refine zW ?_;refine zK ?_;simp only [yA,yM,yH,yE,aA,aD,yK,yJ,zS,zM,Nat.reduceEqDiff,reduceIte,reduceCtorEq];exact aM rfl
|false =>
  rw [e] at c;rw [if_neg (fun x=>by have e':stroke.data.toList.isPrefixOf s.data.toList=false:=e;rw [e'] at x;cases x)]
  refine zE ?_;refine zE ?_;refine zJ (fun K hK=>?_);simp (disch:=omega) only [push_cast,↓Int.cast_ofNat_Int,simprocAttr]
  refine cP zLa c (.cons (.v _) (.cons (.v _) .nil)) ?_;with_reducible refine aC ?_;simp (disch:=omega) only [push_cast,↓Int.cast_ofNat_Int,simprocAttr]
  refine hK _ ?_;clear hK K;refine zA ?_;refine yC rfl ?_;refine zC ?_;refine zE ?_;refine zJ (fun K hK=>?_);simp (disch:=omega) only [push_cast,↓Int.cast_ofNat_Int,simprocAttr];refine hK _ ?_;clear hK K
  refine zA ?_;refine zW ?_;simp only [yA,yM,yH,yE,aA,aD,yK,yJ,zS,zM,Nat.reduceEqDiff,reduceIte,reduceCtorEq];exact aM rfl
theorem zQu (s:ByteArray):HFun Tryz.prog 73 [.v (.string s),.v (.string { data:=#[47] })] (fun h st=>h=.v (.string (pF s))):=by
 refine fJ (N:=8) Tryz.func73 rfl Tryz.ntmps73 Tryz.results73 (by simp) ?_
 refine zE ?_;refine zJ (fun K hK=>?_);simp (disch:=omega) only [push_cast,↓Int.cast_ofNat_Int,simprocAttr];refine hK _ ?_;clear hK K
 refine zE ?_;refine zJ (fun K hK=>?_);simp (disch:=omega) only [push_cast,↓Int.cast_ofNat_Int,simprocAttr]
 refine cP zT7 (zL6 s) (.cons (.v _) (.cons (.v _) .nil)) ?_;with_reducible refine aC ?_;simp (disch:=omega) only [push_cast,↓Int.cast_ofNat_Int,simprocAttr]
 refine hK _ ?_;clear hK K;refine zA ?_;refine zW ?_;simp only [yA,yM,yH,yE,aA,aD,yK,yJ,zS,zM,Nat.reduceEqDiff,reduceIte,reduceCtorEq];exact aM rfl
set_option maxHeartbeats 1000000 in
theorem qQb (A H S:List Ent) (out:LN) (p:ByteArray) (n:Int) (hl:out.length≤1000000):HFunS Tryz.prog 107 [.ptr 0 4 0 0,.v (.string p),.v (.int .i64 n)] (wgS A H S out) (fun h st=>h=.tup []∧st=wgS A H S (out ++ [(p,n)])):=by
 refine qW2 (N:=18) Tryz.func107 rfl Tryz.ntmps107 Tryz.results107 (by simp) ?_
 refine zJ (fun K hK=>?_);simp (disch:=omega) only [push_cast,↓Int.cast_ofNat_Int,simprocAttr,zCd,zCc,zJm];(repeat refine ⟨by first|omega|decide|((repeat' apply And.intro) <;> first|omega|decide),?_⟩);refine hK _ ?_;clear hK K
 skip
 simp only [bT,dE,yH,yE,yK,yJ,fF,zS,zM,Nat.reduceEqDiff,reduceIte,reduceCtorEq];refine oL [0,1] (by decide) (by decide) (by simp only [push_cast,simprocAttr]) (by simp only [push_cast,simprocAttr]) (by simp only [push_cast,simprocAttr];rfl) (by simp only [push_cast,simprocAttr];rfl) ?_
 exact ⟨rfl,rfl⟩
end Go.Proofs.YtbdomkfdkfdfgaaGreatDoor
end
