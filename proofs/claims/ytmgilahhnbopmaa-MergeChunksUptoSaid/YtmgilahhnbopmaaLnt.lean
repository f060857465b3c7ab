/-
  Lines: Text, Closed, Join, and the law's awake.
-/
import Derived.Test.YtmgilahhnbopmaaLns
import Derived.Test.YtmgilahhnbopmaaLtx
set_option linter.unusedSimpArgs false
set_option linter.unusedVariables false
set_option maxRecDepth 20000
namespace Go.Proofs.Ytmgilahhnbopmaa
open Go Go.Eng Go.RowKit

def tyE (s:ByteArray) (i:Nat):HS:=⟨[(0,.v (.string s)),(3,.v (.int .i64 i))],[]⟩
set_option maxHeartbeats 4000000 in
theorem qN4 (s:ByteArray) (hs:s.size≤4294967296):HFun Try.prog 14 [.v (.string s)] (fun h st=>h=.v (.int .i64 (cH s))):=by
 have hc:=wW s hs
 have hle:=qTk s
 refine rT (N:=18) Try.func14 rfl Try.ntmps14 Try.results14 (by simp) ?_
 refine zE ?_;refine zJ (fun K hK=>?_);simp (disch:=omega) only [push_cast,↓iC9,simprocAttr];refine hK _ ?_;clear hK K
 refine zE ?_;refine zE ?_;refine zJ (fun K hK=>?_);simp (disch:=omega) only [push_cast,↓iC9,simprocAttr];refine hK _ ?_;clear hK K
 refine zA ?_;refine zD ?_;refine fS (tyE s) (fun i=>i≤s.size∧∀ j,j < i→fY s j≠0) (fun i=>s.size - i) [0,3] [] 0 (by simp only [zZ,zR,zP,zQ,zN,zS,zM,zX,zU,Nat.reduceEqDiff,reduceIte,tyE];rfl) ⟨Nat.zero_le _,fun j h=>absurd h (Nat.not_lt_zero _)⟩ ?_
 rintro i ⟨h1,h2⟩;simp only [tyE]
 by_cases hlt:i < s.size
 ·refine zE ?_;refine zE ?_;refine zJ (fun K hK=>?_);simp (disch:=omega) only [push_cast,↓iC9,simprocAttr];refine hK _ ?_;clear hK K
  refine yD rfl ?_;refine zC ?_;refine zE ?_
  by_cases hb:fY s i=0
  ·have e1:decide (fY s i=0)=true:=decide_eq_true hb
   refine zD ?_;refine zE ?_;refine zJ (fun K hK=>?_);simp (disch:=omega) only [push_cast,↓iC9,simprocAttr,e1];(repeat refine ⟨by first|omega|decide|((repeat' apply And.intro) <;> first|omega|decide),?_⟩);refine hK _ ?_;clear hK K
   refine yD rfl ?_;refine zE ?_;refine zJ (fun K hK=>?_);simp (disch:=omega) only [push_cast,↓iC9,simprocAttr];refine hK _ ?_;clear hK K
   refine zA ?_;refine zW ?_;refine zL ?_;refine zK ?_;refine zK ?_;refine zL ?_;refine zK ?_;simp only [yA,yM,yH,yE,aR,bT,yK,yJ,zS,zM,Nat.reduceEqDiff,reduceIte,reduceCtorEq]
   have e:cH s=21:=if_pos ⟨i,hlt,hb⟩
   rw [e];exact jK rfl
  ·have e1:decide (fY s i=0)=false:=decide_eq_false hb
   refine zD ?_;refine zE ?_;refine zJ (fun K hK=>?_);simp (disch:=omega) only [push_cast,↓iC9,simprocAttr,e1];(repeat refine ⟨by first|omega|decide|((repeat' apply And.intro) <;> first|omega|decide),?_⟩);refine hK _ ?_;clear hK K
   refine yC rfl ?_;refine zC ?_;refine zB ?_;refine zA ?_;refine zJ (fun K hK=>?_);simp (disch:=omega) only [push_cast,↓iC9,simprocAttr];refine hK _ ?_;clear hK K
   refine zA ?_;refine ⟨i + 1,by simp only [zZ,zR,zP,zQ,zN,zS,zM,zX,zU,Nat.reduceEqDiff,reduceIte,tyE];try rfl,⟨hlt,fun j hj=>?_⟩,by omega⟩
   by_cases e:j=i
   ·subst e;exact hb
   ·exact h2 j (by omega)
 ·have hno:¬ ∃ i,i < s.size∧fY s i=0:=fun ⟨j,a,b⟩=>h2 j (by omega) b
  have e:cH s=if 400 < (dA s).length then 4 else 0:=if_neg hno
  refine zE ?_;refine zE ?_;refine zJ (fun K hK=>?_);simp (disch:=omega) only [push_cast,↓iC9,simprocAttr];refine hK _ ?_;clear hK K
  refine yC rfl ?_;refine zT ?_;refine zG ?_;refine zG ?_;refine zH ?_;refine zE ?_;refine zE ?_;refine zJ (fun K hK=>?_);simp (disch:=omega) only [push_cast,↓iC9,simprocAttr]
  refine hat 120 zG7 hc (.cons (.v _) .nil) ?_;rintro _ _ ⟨rfl,rfl⟩;with_reducible refine aH ?_;simp (disch:=omega) only [push_cast,↓iC9,simprocAttr,aA]
  by_cases h4:400 < (dA s).length
  ·refine hK _ ?_;clear hK K;refine lM rfl (fun ht=>?_) (fun hf=>by first|(simp at hf;done)|(simp at hf;omega))
   refine zE ?_;refine zJ (fun K hK=>?_);simp (disch:=omega) only [push_cast,↓iC9,simprocAttr];refine hK _ ?_;clear hK K
   refine zA ?_;refine zW ?_;refine zK ?_;simp only [yA,yM,yH,yE,aR,bT,yK,yJ,zS,zM,Nat.reduceEqDiff,reduceIte,reduceCtorEq];rw [e,if_pos h4];exact jK rfl
  ·refine hK _ ?_;clear hK K;refine lM rfl (fun ht=>by first|(simp at ht;done)|(simp at ht;omega)) (fun hf=>?_)
   refine zC ?_;refine zE ?_;refine zJ (fun K hK=>?_);simp (disch:=omega) only [push_cast,↓iC9,simprocAttr];refine hK _ ?_;clear hK K
   refine zA ?_;refine zW ?_;simp only [yA,yM,yH,yE,aR,bT,yK,yJ,zS,zM,Nat.reduceEqDiff,reduceIte,reduceCtorEq];rw [e,if_neg h4];exact jK rfl
end Go.Proofs.Ytmgilahhnbopmaa
