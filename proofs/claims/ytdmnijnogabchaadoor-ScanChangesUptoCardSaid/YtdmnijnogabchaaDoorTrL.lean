/-
  Which nodes may be; the document's Same, Get; sizes.
-/
import Derived.Test.YtdmnijnogabchaaDoorSyZ
set_option linter.unusedSimpArgs false
set_option linter.unusedVariables false
set_option maxRecDepth 20000
namespace Go.Tr
open Go
def uH (n:Int × ByteArray):Bool:=if n.1=2 then decide (n.2.size≤4096) else (decide (n.1=0) || decide (n.1=1)) && decide (n.2.size=0)
end Go.Tr
namespace Go.Proofs.YtdmnijnogabchaaDoor
open Go Go.Eng Go.RowKit Go.Tr
set_option maxHeartbeats 2000000 in
theorem zCc (n:Int × ByteArray):HFun Tryd.prog 15 [qMf n] (fun h st=>h=.v (.bool (uH n))):=by
 obtain ⟨k,d⟩:=n;refine kG (N:=24) Tryd.func15 rfl Tryd.ntmps15 Tryd.results15 (by simp) ?_
 unfold uH;dsimp only;refine zE ?_;refine zJ (fun K hK=>?_);simp (disch:=omega) only [push_cast,↓iC9,simprocAttr];refine hK _ ?_;clear hK K
 have e:decide ((d.size:Int)=0)=decide (d.size=0):=by rw [decide_eq_decide];omega
 by_cases h2:k=2
 ·subst h2;rw [if_pos rfl];refine zE ?_;refine zE ?_;refine zJ (fun K hK=>?_);simp (disch:=omega) only [push_cast,↓iC9,simprocAttr];refine hK _ ?_;clear hK K
  refine yD rfl ?_;refine zE ?_;refine zJ (fun K hK=>?_);simp (disch:=omega) only [push_cast,↓iC9,simprocAttr];refine hK _ ?_;clear hK K
  refine zA ?_;refine zW ?_;refine zK ?_;simp only [yA,yM,yH,yE,aH,aT,yK,yJ,zS,zM,Nat.reduceEqDiff,reduceIte,reduceCtorEq];exact bD (by first|(simp;done)|(simp;omega))
 rw [if_neg h2];refine zE ?_;refine zE ?_;refine zJ (fun K hK=>?_);simp (disch:=omega) only [push_cast,↓iC9,simprocAttr];refine hK _ ?_;clear hK K
 refine yC rfl ?_;refine zC ?_;refine zE ?_
 by_cases h0:k=0
 ·subst h0;refine zJ (fun K hK=>?_);simp (disch:=omega) only [push_cast,↓iC9,simprocAttr,e];refine hK _ ?_;clear hK K
  refine zA ?_;refine zW ?_;simp only [yA,yM,yH,yE,aH,aT,yK,yJ,zS,zM,Nat.reduceEqDiff,reduceIte,reduceCtorEq];exact bD (by first|(simp;done)|(simp;omega))
 by_cases h1:k=1
 ·subst h1;refine zJ (fun K hK=>?_);simp (disch:=omega) only [push_cast,↓iC9,simprocAttr,e];refine hK _ ?_;clear hK K
  refine zA ?_;refine zW ?_;simp only [yA,yM,yH,yE,aH,aT,yK,yJ,zS,zM,Nat.reduceEqDiff,reduceIte,reduceCtorEq];exact bD (by first|(simp;done)|(simp;omega))
 ·refine zJ (fun K hK=>?_);simp (disch:=omega) only [push_cast,↓iC9,simprocAttr];refine hK _ ?_;clear hK K
  refine zA ?_;refine zW ?_;simp only [yA,yM,yH,yE,aH,aT,yK,yJ,zS,zM,Nat.reduceEqDiff,reduceIte,reduceCtorEq];exact bD (by simp [h0,h1])
set_option maxHeartbeats 2000000 in
theorem qV7 (t:List Ent) (p:ByteArray) (hl:t.length≤140737488355328):HFun Tryd.prog 8 [.lst false (cX t),.v (.string p)] (fun h st=>h=qMf (eR t p)∧st=[]):=by
 refine kG (N:=25) Tryd.func8 rfl Tryd.ntmps8 Tryd.results8 (by simp) ?_
 refine zE ?_;refine zJ (fun K hK=>?_);simp (disch:=omega) only [push_cast,↓iC9,simprocAttr];refine hK _ ?_;clear hK K
 refine zE ?_;refine zE ?_;refine zJ (fun K hK=>?_);simp (disch:=omega) only [push_cast,↓iC9,simprocAttr];refine hK _ ?_;clear hK K
 refine zA ?_;refine zD ?_;refine gC (fun i:Nat=>⟨[(0,.lst false (cX t)),(1,.v (.string p)),(4,.ptr 32 2 0 0),(5,.v (.int .i64 i))],[(32,.bx true 29 [.v (.int .i64 0),.v (.string ByteArray.empty)])]⟩) (fun i=>i≤t.length∧eR t p=eR (t.drop i) p) (fun i=>t.length - i) [0,1,4,5] [32] 0 rfl ⟨Nat.zero_le _,rfl⟩ ?_
 rintro i ⟨hi,hg⟩
 by_cases hlt:i < t.length
 ·rw [List.drop_eq_getElem_cons hlt] at hg;refine zE ?_;refine zE ?_;refine zJ (fun K hK=>?_);simp (disch:=omega) only [push_cast,↓iC9,simprocAttr,yV];refine hK _ ?_;clear hK K
  refine zA ?_;refine yD rfl ?_;refine zC ?_;refine zE ?_
  by_cases he:t[i].1=p
  ·have hd:decide (t[i].1=p)=true:=decide_eq_true he
   have hg2:eR t p=t[i].2:=by rw [hg,eR,List.find?_cons,hd];rfl
   rw [hg2];refine zD ?_;refine zE ?_;refine zJ (fun K hK=>?_);simp (disch:=omega) only [push_cast,↓iC9,simprocAttr,yV,yU,yW hlt,hd];refine hK _ ?_;clear hK K
   refine yD rfl ?_;refine zE ?_;refine zJ (fun K hK=>?_);simp (disch:=omega) only [push_cast,↓iC9,simprocAttr,yV,yU,yW hlt];refine hK _ ?_;clear hK K
   refine zA ?_;refine zW ?_;refine zL ?_;refine zK ?_;refine zK ?_;refine zL ?_;refine zK ?_;simp (disch:=omega) only [yA,yM,yH,yE,aH,aT,yK,yJ,push_cast,↓iC9,Nat.reduceBEq,Nat.reduceAdd,Nat.reduceLT,Nat.reduceEqDiff,reduceIte,reduceCtorEq,Nat.reduceLeDiff,Nat.reduceSub,List.reduceReplicate,Nat.reduceMul,Int.reduceToNat,Int.toNat_natCast,Nat.reducePow,reduceIte];exact qM7 (n:=t[i].2) ⟨rfl,rfl⟩
  ·have hd:decide (t[i].1=p)=false:=decide_eq_false he
   have hg2:eR t p=eR (t.drop (i + 1)) p:=by rw [hg,eR,List.find?_cons,hd];rfl
   refine zD ?_;refine zE ?_;refine zJ (fun K hK=>?_);simp (disch:=omega) only [push_cast,↓iC9,simprocAttr,yV,yU,yW hlt,hd];refine hK _ ?_;clear hK K
   refine yC rfl ?_;refine zC ?_;refine zB ?_;refine zA ?_;refine zJ (fun K hK=>?_);simp (disch:=omega) only [push_cast,↓iC9,simprocAttr];refine hK _ ?_;clear hK K
   refine zA ?_;exact ⟨i + 1,rfl,⟨hlt,hg2⟩,by omega⟩
 ·rw [List.drop_of_length_le (by omega)] at hg
  have hg2:eR t p=xS:=hg
  rw [hg2];refine zE ?_;refine zE ?_;refine zJ (fun K hK=>?_);simp (disch:=omega) only [push_cast,↓iC9,simprocAttr,yV];refine hK _ ?_;clear hK K
  refine zA ?_;refine yC rfl ?_;refine zT ?_;refine zG ?_;refine zG ?_;refine zH ?_;refine zE ?_;refine zJ (fun K hK=>?_);simp (disch:=omega) only [push_cast,↓iC9,simprocAttr];refine hK _ ?_;clear hK K
  refine zA ?_;refine zW ?_;simp (disch:=omega) only [yA,yM,yH,yE,aH,aT,yK,yJ,push_cast,↓iC9,Nat.reduceBEq,Nat.reduceAdd,Nat.reduceLT,Nat.reduceEqDiff,reduceIte,reduceCtorEq,Nat.reduceLeDiff,Nat.reduceSub,List.reduceReplicate,Nat.reduceMul,Int.reduceToNat,Int.toNat_natCast,Nat.reducePow,reduceIte];exact qM7 (n:=xS) ⟨rfl,rfl⟩
theorem qLf {α:Type} {a b:List α} {i:Nat} (h:a.take i=b.take i) (h1:i < a.length) (h2:i < b.length) (he:a[i]=b[i]):a.take (i + 1)=b.take (i + 1):=by
 rw [List.take_succ_eq_append_getElem h1,List.take_succ_eq_append_getElem h2,h,he]
set_option maxHeartbeats 2000000 in
theorem zF5 (a b:List Ent) (ha:a.length≤140737488355328):HFun Tryd.prog 10 [.lst false (cX a),.lst false (cX b)] (fun h st=>h=.v (.bool (decide (a=b)))):=by
 refine kG (N:=26) Tryd.func10 rfl Tryd.ntmps10 Tryd.results10 (by simp) ?_
 refine zE ?_;refine zJ (fun K hK=>?_);simp (disch:=omega) only [push_cast,↓iC9,simprocAttr];refine hK _ ?_;clear hK K
 by_cases hl:a.length=b.length
 ·refine zE ?_;refine zE ?_;refine zJ (fun K hK=>?_);simp (disch:=omega) only [push_cast,↓iC9,simprocAttr,yV];refine hK _ ?_;clear hK K
  refine zA ?_;refine yC rfl ?_;refine zC ?_;refine zE ?_;refine zE ?_;refine zJ (fun K hK=>?_);simp (disch:=omega) only [push_cast,↓iC9,simprocAttr];refine hK _ ?_;clear hK K
  refine zA ?_;refine zD ?_;refine gC (fun i:Nat=>⟨[(0,.lst false (cX a)),(1,.lst false (cX b)),(5,.v (.int .i64 i))],[]⟩) (fun i=>i≤a.length∧a.take i=b.take i) (fun i=>a.length - i) [0,1,5] [] 0 rfl ⟨Nat.zero_le _,rfl⟩ ?_
  rintro i ⟨hi,hp⟩
  by_cases hia:i < a.length
  ·have hib:i < b.length:=by omega
   refine zE ?_;refine zE ?_;refine zJ (fun K hK=>?_);simp (disch:=omega) only [push_cast,↓iC9,simprocAttr,yV];refine hK _ ?_;clear hK K
   refine zA ?_;refine yD rfl ?_;refine zC ?_;refine zE ?_
   by_cases he:a[i]=b[i]
   ·have he':decide ((a[i].1,a[i].2.1,a[i].2.2)=(b[i].1,b[i].2.1,b[i].2.2))=true:=by rw [he];simp
    refine zD ?_;refine zE ?_;refine HW_drw 9 mixed (by kernel_rfl) (fun K hK=>?_);simp (disch:=omega) only [push_cast,↓iC9,simprocAttr,yV,yU,yW hia,yW hib,he']
    refine ⟨_,eqE _ _ _ _ _ _,?_⟩;with_reducible refine aP ?_;simp (disch:=omega) only [push_cast,↓iC9,simprocAttr,he']
    with_reducible refine aP ?_;simp (disch:=omega) only [push_cast,↓iC9,simprocAttr]
    refine hK _ ?_;clear hK K;refine yC rfl ?_;refine zC ?_;refine zB ?_;refine zA ?_;refine zJ (fun K hK=>?_);simp (disch:=omega) only [push_cast,↓iC9,simprocAttr];refine hK _ ?_;clear hK K
    refine zA ?_;exact ⟨i + 1,rfl,⟨hia,qLf hp hia hib he⟩,by omega⟩
   ·have he':decide ((a[i].1,a[i].2.1,a[i].2.2)=(b[i].1,b[i].2.1,b[i].2.2))=false:=decide_eq_false he
    refine zD ?_;refine zE ?_;refine HW_drw 9 mixed (by kernel_rfl) (fun K hK=>?_);simp (disch:=omega) only [push_cast,↓iC9,simprocAttr,yV,yU,yW hia,yW hib,he']
    refine ⟨_,eqE _ _ _ _ _ _,?_⟩;with_reducible refine aP ?_;simp (disch:=omega) only [push_cast,↓iC9,simprocAttr,he']
    with_reducible refine aP ?_;simp (disch:=omega) only [push_cast,↓iC9,simprocAttr]
    refine hK _ ?_;clear hK K;refine yD rfl ?_;refine zE ?_;refine zJ (fun K hK=>?_);simp (disch:=omega) only [push_cast,↓iC9,simprocAttr];refine hK _ ?_;clear hK K
    refine zA ?_;refine zW ?_;refine zL ?_;refine zK ?_;refine zK ?_;refine zL ?_;refine zK ?_;simp only [yA,yM,yH,yE,aH,aT,yK,yJ,zS,zM,Nat.reduceEqDiff,reduceIte,reduceCtorEq];refine bD ?_;rw [decide_eq_false (fun e=>he (by subst e;rfl))]
  ·refine zE ?_;refine zE ?_;refine zJ (fun K hK=>?_);simp (disch:=omega) only [push_cast,↓iC9,simprocAttr,yV];refine hK _ ?_;clear hK K
   refine zA ?_;refine yC rfl ?_;refine zT ?_;refine zG ?_;refine zG ?_;refine zH ?_;refine zE ?_;refine zJ (fun K hK=>?_);simp (disch:=omega) only [push_cast,↓iC9,simprocAttr];refine hK _ ?_;clear hK K
   refine zA ?_;refine zW ?_;simp only [yA,yM,yH,yE,aH,aT,yK,yJ,zS,zM,Nat.reduceEqDiff,reduceIte,reduceCtorEq];refine bD ?_;rw [List.take_of_length_le (by omega),List.take_of_length_le (by omega)] at hp
   rw [decide_eq_true hp]
 ·refine zE ?_;refine zE ?_;refine zJ (fun K hK=>?_);simp (disch:=omega) only [push_cast,↓iC9,simprocAttr,yV];refine hK _ ?_;clear hK K
  refine zA ?_;refine yD rfl ?_;refine zE ?_;refine zJ (fun K hK=>?_);simp (disch:=omega) only [push_cast,↓iC9,simprocAttr];refine hK _ ?_;clear hK K
  refine zA ?_;refine zW ?_;refine zK ?_;simp only [yA,yM,yH,yE,aH,aT,yK,yJ,zS,zM,Nat.reduceEqDiff,reduceIte,reduceCtorEq];refine bD ?_;rw [decide_eq_false (fun e=>hl (by rw [e]))]
end Go.Proofs.YtdmnijnogabchaaDoor
