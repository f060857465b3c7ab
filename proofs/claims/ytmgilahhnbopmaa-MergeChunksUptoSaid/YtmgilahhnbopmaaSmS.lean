/-
  Are two lists of texts alike? The reference's comparison, walked.
-/
import Derived.Test.YtmgilahhnbopmaaKept
set_option linter.unusedSimpArgs false
set_option linter.unusedVariables false
set_option maxRecDepth 20000
namespace Go.Proofs.Ytmgilahhnbopmaa
open Go Go.Eng Go.RowKit Go.DiffM

theorem zBf {α:Type} {a b:List α} {i:Nat} (h:a.take i=b.take i) (h1:a.length≤i) (h2:b.length≤i):a=b:=by
 rw [List.take_of_length_le h1,List.take_of_length_le h2] at h;exact h
theorem qXj {α:Type} {a b:List α} {i:Nat} (h:a.take i=b.take i) (h1:i < a.length) (h2:i < b.length) (he:a[i]=b[i]):a.take (i + 1)=b.take (i + 1):=by
 rw [List.take_succ_eq_append_getElem h1,List.take_succ_eq_append_getElem h2,h,he]
set_option maxHeartbeats 1000000 in
theorem qXw (a b:List ByteArray):HFun Try.prog 18 [.lst false (aD a),.lst false (aD b)] (fun h st=>h=.v (.bool (decide (a=b)))):=by
 refine rT (N:=26) Try.func18 rfl Try.ntmps18 Try.results18 (by simp) ?_
 refine zGc 0 rfl (fun hA=>?_)
 rw [aA] at hA;refine zE ?_;refine zJ (fun K hK=>?_);simp (disch:=omega) only [push_cast,↓iC9,simprocAttr];refine hK _ ?_;clear hK K
 by_cases hl:a.length=b.length
 ·refine zE ?_;refine zE ?_;refine zJ (fun K hK=>?_);simp (disch:=omega) only [push_cast,↓iC9,simprocAttr,aA];refine hK _ ?_;clear hK K
  refine zA ?_;refine yC rfl ?_;refine zC ?_;refine zE ?_;refine zE ?_;refine zJ (fun K hK=>?_);simp (disch:=omega) only [push_cast,↓iC9,simprocAttr];refine hK _ ?_;clear hK K
  refine zA ?_;refine zD ?_;refine fS (fun i:Nat=>⟨[(0,.lst false (aD a)),(1,.lst false (aD b)),(5,.v (.int .i64 i))],[]⟩) (fun i=>i≤a.length∧a.take i=b.take i) (fun i=>a.length - i) [0,1,5] [] 0 rfl ⟨Nat.zero_le _,rfl⟩ ?_
  rintro i ⟨hi,hp⟩;refine zE ?_;refine zE ?_;refine zJ (fun K hK=>?_);simp (disch:=omega) only [push_cast,↓iC9,simprocAttr,aA];refine hK _ ?_;clear hK K
  refine zA ?_;refine lM rfl (fun hlt=>?_) (fun hge=>?_)
  ·have hia:i < a.length:=by simpa using hlt
   have hib:i < b.length:=by omega
   by_cases he:a[i]=b[i]
   ·have he':decide (a[i]=b[i])=true:=decide_eq_true he
    refine zC ?_;refine zE ?_;refine zD ?_;refine zE ?_;refine HW_drw 9 mixed (by kernel_rfl) (fun K hK=>?_);simp (disch:=omega) only [push_cast,↓iC9,simprocAttr,aA,bE,fT,he']
    with_reducible refine aH ?_;simp (disch:=omega) only [push_cast,↓iC9,simprocAttr]
    refine hK _ ?_;clear hK K;refine zA ?_;refine yC rfl ?_;refine zC ?_;refine zB ?_;refine zA ?_;refine zJ (fun K hK=>?_);simp (disch:=omega) only [push_cast,↓iC9,simprocAttr];refine hK _ ?_;clear hK K
    exact zA ⟨i + 1,rfl,⟨hia,qXj hp hia hib he⟩,by omega⟩
   ·have he':decide (a[i]=b[i])=false:=decide_eq_false he
    refine zC ?_;refine zE ?_;refine zD ?_;refine zE ?_;refine HW_drw 9 mixed (by kernel_rfl) (fun K hK=>?_);simp (disch:=omega) only [push_cast,↓iC9,simprocAttr,aA,bE,fT,he']
    with_reducible refine aH ?_;simp (disch:=omega) only [push_cast,↓iC9,simprocAttr]
    refine hK _ ?_;clear hK K;refine zA ?_;refine yD rfl ?_;refine zE ?_;refine zJ (fun K hK=>?_);simp (disch:=omega) only [push_cast,↓iC9,simprocAttr];refine hK _ ?_;clear hK K
    refine zA ?_;refine zW ?_;refine zL ?_;refine zK ?_;refine zK ?_;refine zL ?_;refine zK ?_;simp only [yA,yM,yH,yE,aR,bT,yK,yJ,zS,zM,Nat.reduceEqDiff,reduceIte,reduceCtorEq];refine jK ?_;rw [decide_eq_false (fun e=>he (by subst e;rfl))]
  ·have hge':a.length≤i:=by simpa using hge
   refine zT ?_;refine zG ?_;refine zG ?_;refine zH ?_;refine zE ?_;refine zJ (fun K hK=>?_);simp (disch:=omega) only [push_cast,↓iC9,simprocAttr];refine hK _ ?_;clear hK K
   refine zA ?_;refine zW ?_;simp only [yA,yM,yH,yE,aR,bT,yK,yJ,zS,zM,Nat.reduceEqDiff,reduceIte,reduceCtorEq];refine jK ?_;rw [decide_eq_true (zBf hp hge' (by omega))]
 ·refine zE ?_;refine zE ?_;refine zJ (fun K hK=>?_);simp (disch:=omega) only [push_cast,↓iC9,simprocAttr,aA];refine hK _ ?_;clear hK K
  refine zA ?_;refine yD rfl ?_;refine zE ?_;refine zJ (fun K hK=>?_);simp (disch:=omega) only [push_cast,↓iC9,simprocAttr];refine hK _ ?_;clear hK K
  refine zA ?_;refine zW ?_;refine zK ?_;simp only [yA,yM,yH,yE,aR,bT,yK,yJ,zS,zM,Nat.reduceEqDiff,reduceIte,reduceCtorEq];refine jK ?_;rw [decide_eq_false (fun e=>hl (by rw [e]))]
end Go.Proofs.Ytmgilahhnbopmaa
