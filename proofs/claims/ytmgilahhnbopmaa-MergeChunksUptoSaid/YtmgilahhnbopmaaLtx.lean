/-
  Lines: Text, Closed.
-/
import Derived.Test.YtmgilahhnbopmaaLsp
set_option linter.unusedSimpArgs false
set_option linter.unusedVariables false
set_option maxRecDepth 20000
namespace Go.Proofs.Ytmgilahhnbopmaa
open Go Go.Eng Go.RowKit

def txE (s:ByteArray) (i:Nat):HS:=⟨[(0,.v (.string s)),(6,.lst true (iH s)),(7,.v (.int .i64 s.size)),(8,.v (.int .i64 i))],[]⟩
set_option maxHeartbeats 4000000 in
theorem qEq (s:ByteArray) (hs:s.size≤4294967296):HFun Try.prog 9 [.v (.string s)] (fun h st=>h=.v (.int .i64 (cH s))):=by
 have hc:=zEh s hs
 have hle:=qTk s
 refine rT (N:=18) Try.func9 rfl Try.ntmps9 Try.results9 (by simp) ?_
 refine zE ?_;refine zJ (fun K hK=>?_);simp (disch:=omega) only [push_cast,↓iC9,simprocAttr];refine hK _ ?_;clear hK K
 refine zE ?_;refine zE ?_;refine zJ (fun K hK=>?_);simp (disch:=omega) only [push_cast,↓iC9,simprocAttr,qRf];(repeat refine ⟨by first|omega|decide|((repeat' apply And.intro) <;> first|omega|decide),?_⟩);refine hK _ ?_;clear hK K
 refine zA ?_;refine zD ?_;refine fS (txE s) (fun i=>i≤s.size∧∀ j,j < i→fY s j≠0) (fun i=>s.size - i) [0,6,7,8] [] 0 (by simp only [zZ,zR,zP,zQ,zN,zS,zM,zX,zU,Nat.reduceEqDiff,reduceIte,txE];rfl) ⟨Nat.zero_le _,fun j h=>absurd h (Nat.not_lt_zero _)⟩ ?_
 rintro i ⟨h1,h2⟩;simp only [txE]
 by_cases hlt:i < s.size
 ·refine zE ?_;refine zJ (fun K hK=>?_);simp (disch:=omega) only [push_cast,↓iC9,simprocAttr];refine hK _ ?_;clear hK K
  refine zE ?_;refine yD rfl ?_;refine zC ?_;refine zE ?_;refine zD ?_;refine zE ?_;refine zJ (fun K hK=>?_);simp (disch:=omega) only [push_cast,↓iC9,simprocAttr,qRf,zCq,zCr hlt];(repeat refine ⟨by first|omega|decide|((repeat' apply And.intro) <;> first|omega|decide),?_⟩);refine hK _ ?_;clear hK K
  by_cases hb:fY s i=0
  ·have e1:decide (fY s i=0)=true:=decide_eq_true hb
   refine zE ?_;refine zJ (fun K hK=>?_);simp (disch:=omega) only [push_cast,↓iC9,simprocAttr,e1];(repeat refine ⟨by first|omega|decide|((repeat' apply And.intro) <;> first|omega|decide),?_⟩);refine hK _ ?_;clear hK K
   refine yD rfl ?_;refine zE ?_;refine zJ (fun K hK=>?_);simp (disch:=omega) only [push_cast,↓iC9,simprocAttr];refine hK _ ?_;clear hK K
   refine zA ?_;refine zW ?_;refine zL ?_;refine zK ?_;refine zK ?_;refine zL ?_;refine zK ?_;simp only [yA,yM,yH,yE,aR,bT,yK,yJ,zS,zM,Nat.reduceEqDiff,reduceIte,reduceCtorEq]
   have e:cH s=21:=if_pos ⟨i,hlt,hb⟩
   rw [e];exact jK rfl
  ·have e1:decide (fY s i=0)=false:=decide_eq_false hb
   refine zE ?_;refine zJ (fun K hK=>?_);simp (disch:=omega) only [push_cast,↓iC9,simprocAttr,e1];(repeat refine ⟨by first|omega|decide|((repeat' apply And.intro) <;> first|omega|decide),?_⟩);refine hK _ ?_;clear hK K
   refine yC rfl ?_;refine zC ?_;refine zB ?_;refine zA ?_;refine zJ (fun K hK=>?_);simp (disch:=omega) only [push_cast,↓iC9,simprocAttr];refine hK _ ?_;clear hK K
   refine zA ?_;refine ⟨i + 1,by simp only [zZ,zR,zP,zQ,zN,zS,zM,zX,zU,Nat.reduceEqDiff,reduceIte,txE];try rfl,⟨hlt,fun j hj=>?_⟩,by omega⟩
   by_cases e:j=i
   ·subst e;exact hb
   ·exact h2 j (by omega)
 ·have hno:¬ ∃ i,i < s.size∧fY s i=0:=fun ⟨j,a,b⟩=>h2 j (by omega) b
  obtain ⟨n,hn⟩:∃ n,n=(dA s).length:=⟨_,rfl⟩
  have e:cH s=if 400 < n then 4 else 0:=by rw [hn];exact if_neg hno
  rw [← hn] at hc hle;refine zE ?_;refine zJ (fun K hK=>?_);simp (disch:=omega) only [push_cast,↓iC9,simprocAttr];refine hK _ ?_;clear hK K
  refine zE ?_;refine yC rfl ?_;refine zT ?_;refine zG ?_;refine zG ?_;refine zH ?_;refine zE ?_;refine zE ?_;refine zJ (fun K hK=>?_);simp (disch:=omega) only [push_cast,↓iC9,simprocAttr]
  refine tZ zLx hc (.cons (.v _) .nil) ?_
  by_cases h4:400 < n
  ·have e2:decide ((n:Int) > 400)=true:=decide_eq_true (by omega)
   with_reducible refine aH ?_;simp (disch:=omega) only [push_cast,↓iC9,simprocAttr]
   refine hK _ ?_;clear hK K;refine lM rfl (fun ht=>?_) (fun hf=>by first|(simp at hf;done)|(simp at hf;omega))
   refine zE ?_;refine zJ (fun K hK=>?_);simp (disch:=omega) only [push_cast,↓iC9,simprocAttr];refine hK _ ?_;clear hK K
   refine zA ?_;refine zW ?_;refine zK ?_;simp only [yA,yM,yH,yE,aR,bT,yK,yJ,zS,zM,Nat.reduceEqDiff,reduceIte,reduceCtorEq];rw [e,if_pos h4];exact jK rfl
  ·with_reducible refine aH ?_;simp (disch:=omega) only [push_cast,↓iC9,simprocAttr]
   refine hK _ ?_;clear hK K;refine lM rfl (fun ht=>by first|(simp at ht;done)|(simp at ht;omega)) (fun hf=>?_)
   refine zC ?_;refine zE ?_;refine zJ (fun K hK=>?_);simp (disch:=omega) only [push_cast,↓iC9,simprocAttr];refine hK _ ?_;clear hK K
   refine zA ?_;refine zW ?_;simp only [yA,yM,yH,yE,aR,bT,yK,yJ,zS,zM,Nat.reduceEqDiff,reduceIte,reduceCtorEq];rw [e,if_neg h4];exact jK rfl
theorem zC6 (l:List ByteArray) (i:Nat) (x:ByteArray):(aD l).set i [.v (.string x)]=aD (l.set i x):=by simp [aD,tW,List.map_set]
theorem qSy (l:List ByteArray) (h:0 < l.length):jA l=l.set (l.length - 1) (qMv l[l.length - 1]):=by
 unfold jA;rw [List.getLast?_eq_getElem?,List.getElem?_eq_getElem (by omega)]
set_option maxHeartbeats 4000000 in
theorem qWm (l:List ByteArray) (hl:l.length≤4294967296) (hs:∀ x ∈ l,x.size≤4294967296):HFun Try.prog 27 [.lst false (aD l)] (fun h st=>h=.own 0∧st=[(0,.sl true 9 1 (aD (jA l)))]):=by
 refine rT (N:=28) Try.func27 rfl Try.ntmps27 Try.results27 (by simp) ?_
 refine zE ?_;refine zJ (fun K hK=>?_);simp (disch:=omega) only [push_cast,↓iC9,simprocAttr];refine hK _ ?_;clear hK K
 refine zE ?_;refine zJ (fun K hK=>?_);simp (disch:=omega) only [push_cast,↓iC9,simprocAttr,aA,bE];(repeat refine ⟨by first|omega|decide|((repeat' apply And.intro) <;> first|omega|decide),?_⟩);refine hK _ ?_;clear hK K
 by_cases h0:l.length=0
 ·have:l=[]:=List.eq_nil_of_length_eq_zero h0
  subst this;refine zE ?_;refine zE ?_;refine zJ (fun K hK=>?_);simp (disch:=omega) only [push_cast,↓iC9,simprocAttr,aA];refine hK _ ?_;clear hK K
  refine zE ?_;refine zJ (fun K hK=>?_);simp (disch:=omega) only [push_cast,↓iC9,simprocAttr];refine hK _ ?_;clear hK K
  refine yC rfl ?_;refine zC ?_;refine zE ?_;refine zJ (fun K hK=>?_);simp (disch:=omega) only [push_cast,↓iC9,simprocAttr];refine hK _ ?_;clear hK K
  refine zA ?_;refine zW ?_;simp only [yA,yM,yH,yE,aR,bT,yK,yJ,zS,zM,Nat.reduceEqDiff,reduceIte,reduceCtorEq];exact xK rfl (jS _) ⟨rfl,rfl⟩
 ·have hx:=hs _ (List.getElem_mem (show l.length - 1 < l.length by omega))
  have hsf:=qTh l[l.length - 1] (by omega)
  have e1:((l.length:Int) - 1).toNat=l.length - 1:=by omega
  have hlast:=qSy l (by omega)
  have hz:l[l.length - 1].size + ({ data:=#[10] }:ByteArray).size≤9223372036854775807:=by show _ + 1≤_;omega
  rw [qMv] at hlast;refine zE ?_;refine zE ?_;refine zJ (fun K hK=>?_);simp (disch:=omega) only [push_cast,↓iC9,simprocAttr,aA];refine hK _ ?_;clear hK K
  refine zE ?_;refine zJ (fun K hK=>?_);simp (disch:=omega) only [push_cast,↓iC9,simprocAttr,aA,bE,e1,fT (show l.length - 1 < l.length by omega)]
  refine tZ zLo hsf (.cons (.v _) (.cons (.v _) .nil)) ?_
  cases hend:lH l[l.length - 1].data.toList with
 |true =>
   rw [hend,if_pos rfl,List.set_getElem_self] at hlast;with_reducible refine aH ?_;simp (disch:=omega) only [push_cast,↓iC9,simprocAttr]
   refine hK _ ?_;clear hK K;refine yC rfl ?_;refine zC ?_;refine zE ?_;refine zJ (fun K hK=>?_);simp (disch:=omega) only [push_cast,↓iC9,simprocAttr];refine hK _ ?_;clear hK K
   refine zA ?_;refine zW ?_;simp only [yA,yM,yH,yE,aR,bT,yK,yJ,zS,zM,Nat.reduceEqDiff,reduceIte,reduceCtorEq];rw [hlast];exact xK rfl (jS _) ⟨rfl,rfl⟩
 |false =>
   rw [hend,if_neg (by simp)] at hlast
   with_reducible refine aH ?_;simp (disch:=omega) only [push_cast,↓iC9,simprocAttr]
   refine hK _ ?_;clear hK K;refine yD rfl ?_;refine zJ (fun K hK=>?_);simp (disch:=omega) only [push_cast,↓iC9,simprocAttr,aA,bE,e1,fT (show l.length - 1 < l.length by omega),zC6,hz];(repeat refine ⟨by first|omega|decide|((repeat' apply And.intro) <;> first|omega|decide),?_⟩);refine hK _ ?_;clear hK K
   refine zE ?_;refine zJ (fun K hK=>?_);simp (disch:=omega) only [push_cast,↓iC9,simprocAttr];refine hK _ ?_;clear hK K
   refine zA ?_;refine zW ?_;simp only [yA,yM,yH,yE,aR,bT,yK,yJ,zS,zM,Nat.reduceEqDiff,reduceIte,reduceCtorEq];rw [hlast];exact xK rfl (jS _) ⟨rfl,rfl⟩
end Go.Proofs.Ytmgilahhnbopmaa
