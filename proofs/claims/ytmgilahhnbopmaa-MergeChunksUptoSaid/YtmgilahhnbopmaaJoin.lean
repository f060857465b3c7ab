/-
  strings.Join without a separator; wire.Join.
-/
import Derived.Test.YtmgilahhnbopmaaShpM
import Derived.Test.YtmgilahhnbopmaaGc
import Derived.Test.YtmgilahhnbopmaaTyM
set_option linter.unusedSimpArgs false
set_option linter.unusedVariables false
set_option maxRecDepth 20000
namespace Go.Proofs.Ytmgilahhnbopmaa
open Go Go.Eng Go.RowKit

def cat (l:List ByteArray):ByteArray:=⟨(l.map (·.data.toList)).flatten.toArray⟩
theorem qWt (a:ByteArray) (l:List ByteArray):cat (a :: l)=a ++ cat l:=by
 apply ByteArray.ext;apply Array.toList_inj.1;simp [cat]
theorem tS (a b:List ByteArray):cat (a ++ b)=cat a ++ cat b:=by
 apply ByteArray.ext;apply Array.toList_inj.1;simp [cat]
theorem qS3 (a:ByteArray):cat [a]=a:=by
 apply ByteArray.ext;apply Array.toList_inj.1;simp [cat]
theorem qUr (l:List (List UInt8)):Lib.join l []=l.flatten:=by
 cases l with
|nil=>exact Lib.join_nil []
|cons x r=>rw [Lib.join_cons];simp [Lib.joinTail]
set_option maxHeartbeats 1000000 in
theorem zGr (l:List ByteArray) (hl:l.length≤140737488355328) (hs:(cat l).size≤140737488355328):HFun Try.prog 33 [.lst false (aD l),.v (.string ⟨#[]⟩)] (fun h st=>h=.v (.string (cat l))∧st=[]):=by
 refine qD1 fun w vs R=>?_
 obtain ⟨r1,r2⟩:=R
 match vs,r1 with
|[a,b],_ =>
 have ha:=r2 0 (by simp) (by simp)
 have hb:=r2 1 (by simp) (by simp)
 simp only [List.getElem_cons_zero,List.getElem_cons_succ] at ha hb
 have:=cW hb
 subst this
 cases ha with
|lst hF =>
 cases hF with
|lst sz vals hn hc hm hnil hsz hadd h1 hr =>
 rename_i ad n cap _
 have hn':l.length=n:=by rw [← hn,aA]
 subst hn'
 by_cases h0:l.length=0
 ·have:l=[]:=List.eq_nil_of_length_eq_zero h0
  subst this;refine (Try.strings_Join_none ad cap ⟨#[]⟩ w).mono ?_;rintro e w' ⟨rfl,rfl⟩;exact qAa ⟨rfl,Below.refl _ _⟩
 ·obtain ⟨bk,off,rfl,-,hbk,-,hcell⟩:=hadd (by omega)
  have hszz:sz=1:=by
   have:=hsz ((aD l)[0]'(by rw [aA];omega)) (List.getElem_mem _)
   rw [← this];simp [aD,tW]
  subst hszz;refine (Try.strings_Join bk off cap l ⟨#[]⟩ w (fun j x hx=>?_) hbk hl hc ?_).mono ?_
  ·have hj:j < l.length:=(List.getElem?_eq_some_iff.1 hx).1
   have h3:=hcell j 0 hj (by omega)
   rw [show off + (j * 1 + 0)=off + j by omega] at h3
   rw [h3]
   have h4:=hr j 0 (by rw [aA];exact hj) (by simp [aD,tW])
   simp only [aD,tW,List.getElem_map,List.getElem_cons_zero] at h4;generalize vals j 0=u at h4
   cases h4
   have:=(List.getElem?_eq_some_iff.1 hx).2
   rw [this]
  ·show (Lib.join (l.map (·.data.toList)) []).length≤_
   rw [qUr]
   have:(l.map (·.data.toList)).flatten.length=(cat l).size:=by
    show _=Array.size _
    rw [List.size_toArray]
   omega
  ·rintro e w' ⟨rfl,B⟩;refine qAa ⟨?_,B⟩;show Value.string ⟨(Lib.join (l.map (·.data.toList)) []).toArray⟩=_
   rw [qUr];rfl
set_option maxHeartbeats 1000000 in
theorem qE0 (l:List ByteArray) (hl:l.length≤140737488355328) (hs:(cat l).size≤140737488355328):HFun Try.prog 26 [.lst false (aD l)] (fun h st=>h=.v (.string (cat l))):=by
 refine rT (N:=5) Try.func26 rfl Try.ntmps26 Try.results26 (by simp) ?_
 refine zE ?_;refine zJ (fun K hK=>?_);simp (disch:=omega) only [push_cast,↓iC9,simprocAttr];refine hK _ ?_;clear hK K
 refine zE ?_;refine zJ (fun K hK=>?_);simp (disch:=omega) only [push_cast,↓iC9,simprocAttr]
 refine tZ zLp ((zGr l hl hs).mono fun h st q=>q.1) (.cons (dF (aQ l)) (.cons (.v _) .nil)) ?_
 with_reducible refine aH ?_;simp (disch:=omega) only [push_cast,↓iC9,simprocAttr]
 refine hK _ ?_;clear hK K;refine zA ?_;refine zW ?_;simp only [yA,yM,yH,yE,aR,bT,yK,yJ,zS,zM,Nat.reduceEqDiff,reduceIte,reduceCtorEq];exact jK rfl
end Go.Proofs.Ytmgilahhnbopmaa
