/-
  tree.Diff, tree.Same, walked.
-/
import Derived.Test.YtdmnijnogabchaaDoorOne
import Derived.Test.YtdmnijnogabchaaDoorChn
set_option linter.unusedSimpArgs false
set_option linter.unusedVariables false
set_option maxRecDepth 20000
namespace Go.Tr
open Go Go.Eng
theorem cJ (x:Ent) (r:List Ent) {d:List FV}:(cX (x :: r)).getD 0 d=[.v (.string x.1),.v (.int .i64 x.2.1),.v (.string x.2.2)]:=rfl
theorem aZ (x:Ent) (r:List Ent):(cX (x :: r)).length=r.length + 1:=by simp [cX]
theorem lQ (x:Ent) (r:List Ent):((cX (x :: r)).take (r.length + 1)).drop 1=cX r:=by
 rw [List.take_of_length_le (by rw [aZ];omega)];rfl
end Go.Tr
namespace Go.Proofs.YtdmnijnogabchaaDoor
open Go Go.Eng Go.RowKit Go.Tr
set_option maxHeartbeats 8000000 in
theorem zJi (a b:List Ent) (hl:a.length + b.length≤2097152):HFun Tryd.prog 17 [.lst false (cX a),.lst false (cX b)] (fun h st=>h=.own 0∧st=[(0,.sl true 9 1 (bZ (cF a b)))]):=by
 refine kG (N:=89) Tryd.func17 rfl Tryd.ntmps17 Tryd.results17 (by simp) ?_
 refine zE ?_;refine zJ (fun K hK=>?_);simp (disch:=omega) only [push_cast,↓iC9,simprocAttr];refine hK _ ?_;clear hK K
 refine zE ?_;refine zJ (fun K hK=>?_);simp (disch:=omega) only [push_cast,↓iC9,simprocAttr];refine hK _ ?_;clear hK K
 refine zE ?_;refine zD ?_;refine gC (fun x:List Ent × List Ent × List ByteArray=>⟨[(0,.lst false (cX x.1)),(1,.lst false (cX x.2.1)),(5,.own 48)],[(48,.sl true 9 1 (bZ x.2.2))]⟩)
  (fun x=>x.2.2 ++ cF x.1 x.2.1=cF a b∧x.2.2.length + x.1.length + x.2.1.length≤a.length + b.length) (fun x=>x.1.length + x.2.1.length) [0,1,5] [48] (a,b,[]) (by simp only [zZ,zR,zP,zQ,zN,zS,zM,zX,zU,Nat.reduceEqDiff,reduceIte];rfl) ⟨rfl,by simp⟩ ?_
 rintro ⟨x,y,out⟩ ⟨hd,hs⟩;simp only at hd hs
 have en:(cX []).length=0:=rfl
 cases x with
|nil =>
  cases y with
 |nil =>
   rw [sJ,List.append_nil] at hd;rw [hd];refine zE ?_;refine zE ?_;refine zJ (fun K hK=>?_);simp (disch:=omega) only [push_cast,↓iC9,simprocAttr,en];refine hK _ ?_;clear hK K
   refine zA ?_;refine yC rfl ?_;refine zT ?_;refine zG ?_;refine zG ?_;refine zH ?_;refine zE ?_;refine zJ (fun K hK=>?_);simp (disch:=omega) only [push_cast,↓iC9,simprocAttr];refine hK _ ?_;clear hK K
   refine zA ?_;refine zW ?_;simp only [yA,yM,yH,yE,aH,aT,yK,yJ,zS,zM,Nat.reduceEqDiff,reduceIte,reduceCtorEq];exact qW0 rfl (lU _) ⟨rfl,rfl⟩
 |cons q y =>
   rw [pB] at hd;simp only [List.length_cons,List.length_nil] at hs;refine zE ?_;refine zE ?_;refine zJ (fun K hK=>?_);simp (disch:=omega) only [push_cast,↓iC9,simprocAttr,en,aZ];refine hK _ ?_;clear hK K
   refine zA ?_;refine yD rfl ?_;refine zC ?_;refine zA ?_;refine zD ?_;refine zD ?_;refine zE ?_;refine jV 20 mixed (by kernel_rfl) (fun K hK K1 hK1=>?_);simp (disch:=omega) only [push_cast,↓iC9,simprocAttr,en,aZ]
   refine hK1 _ ?_;(try clear hK1 K1);with_reducible refine aP ?_;simp (disch:=omega) only [push_cast,↓iC9,simprocAttr,en,aZ]
   refine hK _ ?_;clear hK K;refine yC rfl ?_;refine zE ?_;refine jV 15 mixed (by kernel_rfl) (fun K hK K1 hK1=>?_);simp (disch:=omega) only [push_cast,↓iC9,simprocAttr,en,aZ]
   refine hK1 _ ?_;(try clear hK1 K1);with_reducible refine aP ?_;simp (disch:=omega) only [push_cast,↓iC9,simprocAttr,en,aZ]
   refine hK _ ?_;clear hK K;refine yD rfl ?_;refine zE ?_;refine zJ (fun K hK=>?_);simp (disch:=omega) only [push_cast,↓iC9,simprocAttr,yU,cJ,aZ,iW,aM];(repeat refine ⟨by first|omega|decide|((repeat' apply And.intro) <;> first|omega|decide),?_⟩);refine hK _ ?_;clear hK K
   refine zA ?_;refine zJ (fun K hK=>?_);simp (disch:=omega) only [push_cast,↓iC9,simprocAttr,yU,aZ,lQ];(repeat refine ⟨by first|omega|decide|((repeat' apply And.intro) <;> first|omega|decide),?_⟩);refine hK _ ?_;clear hK K
   refine zB ?_;refine zB ?_;refine zA ?_;exact ⟨([],y,out ++ [q.1]),by simp only [zZ,zR,zP,zQ,zN,zS,zM,zX,zU,Nat.reduceEqDiff,reduceIte];try rfl,⟨by dsimp only;rw [← hd];simp,by dsimp only;simp;omega⟩,by dsimp only;simp⟩
|cons p x =>
  cases y with
 |nil =>
   rw [pF] at hd;simp only [List.length_cons,List.length_nil] at hs;refine zE ?_;refine zE ?_;refine zJ (fun K hK=>?_);simp (disch:=omega) only [push_cast,↓iC9,simprocAttr,en,aZ];refine hK _ ?_;clear hK K
   refine zA ?_;refine yD rfl ?_;refine zC ?_;refine zA ?_;refine zD ?_;refine zD ?_;refine zE ?_;refine jV 20 mixed (by kernel_rfl) (fun K hK K1 hK1=>?_);simp (disch:=omega) only [push_cast,↓iC9,simprocAttr,en,aZ]
   refine hK1 _ ?_;(try clear hK1 K1);with_reducible refine aP ?_;simp (disch:=omega) only [push_cast,↓iC9,simprocAttr,en,aZ]
   refine hK _ ?_;clear hK K;refine yD rfl ?_;refine zE ?_;refine zJ (fun K hK=>?_);simp (disch:=omega) only [push_cast,↓iC9,simprocAttr,yU,cJ,aZ,iW,aM];(repeat refine ⟨by first|omega|decide|((repeat' apply And.intro) <;> first|omega|decide),?_⟩);refine hK _ ?_;clear hK K
   refine zA ?_;refine zJ (fun K hK=>?_);simp (disch:=omega) only [push_cast,↓iC9,simprocAttr,yU,aZ,lQ];(repeat refine ⟨by first|omega|decide|((repeat' apply And.intro) <;> first|omega|decide),?_⟩);refine hK _ ?_;clear hK K
   refine zB ?_;refine zB ?_;refine zA ?_;exact ⟨(x,[],out ++ [p.1]),by simp only [zZ,zR,zP,zQ,zN,zS,zM,zX,zU,Nat.reduceEqDiff,reduceIte];try rfl,⟨by dsimp only;rw [← hd];simp,by dsimp only;simp;omega⟩,by dsimp only;simp⟩
 |cons q y =>
   simp only [List.length_cons] at hs;refine zE ?_;refine zE ?_;refine zJ (fun K hK=>?_);simp (disch:=omega) only [push_cast,↓iC9,simprocAttr,en,aZ];refine hK _ ?_;clear hK K
   refine zA ?_;refine yD rfl ?_;refine zC ?_;refine zA ?_
   rcases qAm p.1 q.1 with h|h|h
   ·have h1:Op.bytesLess p.1.toList q.1.toList=true:=h
    rw [pC h] at hd;refine zD ?_;refine zD ?_;refine zE ?_;refine jV 20 mixed (by kernel_rfl) (fun K hK K1 hK1=>?_);simp (disch:=omega) only [push_cast,↓iC9,simprocAttr,aZ,yU,cJ,h1]
    refine hK1 _ ?_;(try clear hK1 K1);with_reducible refine aP ?_;simp (disch:=omega) only [push_cast,↓iC9,simprocAttr,aZ,yU,cJ,h1]
    refine hK _ ?_;clear hK K;refine yD rfl ?_;refine zE ?_;refine zJ (fun K hK=>?_);simp (disch:=omega) only [push_cast,↓iC9,simprocAttr,yU,cJ,aZ,iW,aM];(repeat refine ⟨by first|omega|decide|((repeat' apply And.intro) <;> first|omega|decide),?_⟩);refine hK _ ?_;clear hK K
    refine zA ?_;refine zJ (fun K hK=>?_);simp (disch:=omega) only [push_cast,↓iC9,simprocAttr,yU,aZ,lQ];(repeat refine ⟨by first|omega|decide|((repeat' apply And.intro) <;> first|omega|decide),?_⟩);refine hK _ ?_;clear hK K
    refine zB ?_;refine zB ?_;refine zA ?_;exact ⟨(x,q :: y,out ++ [p.1]),by simp only [zZ,zR,zP,zQ,zN,zS,zM,zX,zU,Nat.reduceEqDiff,reduceIte];try rfl,⟨by dsimp only;rw [← hd];simp,by dsimp only;simp;omega⟩,by dsimp only;simp⟩
   ·have h1:Op.bytesLess p.1.toList q.1.toList=false:=by rw [h];exact jU _
    have h2:Op.bytesLess q.1.toList p.1.toList=false:=by rw [h];exact jU _
    rw [pE h] at hd;refine zD ?_;refine zD ?_;refine zE ?_;refine jV 20 mixed (by kernel_rfl) (fun K hK K1 hK1=>?_);simp (disch:=omega) only [push_cast,↓iC9,simprocAttr,aZ,yU,cJ,h1]
    refine hK1 _ ?_;(try clear hK1 K1);with_reducible refine aP ?_;simp (disch:=omega) only [push_cast,↓iC9,simprocAttr,aZ,yU,cJ,h1]
    refine hK _ ?_;clear hK K;refine yC rfl ?_;refine zE ?_;refine jV 15 mixed (by kernel_rfl) (fun K hK K1 hK1=>?_);simp (disch:=omega) only [push_cast,↓iC9,simprocAttr,aZ,yU,cJ,h2]
    refine hK1 _ ?_;(try clear hK1 K1);with_reducible refine aP ?_;simp (disch:=omega) only [push_cast,↓iC9,simprocAttr,aZ,yU,cJ,h2]
    refine hK _ ?_;clear hK K;refine yC rfl ?_
    by_cases he:p.2=q.2
    ·have he':decide (p.2.1=q.2.1∧p.2.2=q.2.2)=true:=by rw [he];simp
     rw [if_pos he] at hd;refine zE ?_;refine zE ?_;refine jV 9 mixed (by kernel_rfl) (fun K hK K1 hK1=>?_);simp (disch:=omega) only [push_cast,↓iC9,simprocAttr,aZ,yU,cJ]
     refine ⟨_,eqN _ _ _ _,?_⟩;with_reducible refine aP ?_;simp (disch:=omega) only [push_cast,↓iC9,simprocAttr,he']
     refine hK1 _ ?_;(try clear hK1 K1);with_reducible refine aP ?_;simp (disch:=omega) only [push_cast,↓iC9,simprocAttr,he']
     refine hK _ ?_;clear hK K;refine yC rfl ?_;refine zC ?_;refine zA ?_;refine qZ1 6 [] [[(48,.sl true 9 1 (bZ out))]] [(0,0,0),(1,0,0),(2,0,0),(3,0,0),(4,0,0),(5,0,0)] mixed (by kernel_rfl) (by kernel_rfl) rfl (fun K hK K1 hK1=>?_);simp (disch:=omega) only [push_cast,↓iC9,simprocAttr,qMg,qGc,qSb,qLu,qYj,zHl,qLi,qEo,tQ,wT,qCd,tR,tS,qYq,qMx,qNw,qT7,qT6,qH5,wU,qCl,qYv,qYu,qYt,qMy,qMz,qM2,qM1,qYw,qBs,qM0,qTc,List.tail_cons,List.take_nil,List.drop_nil,Nat.sub_self,Nat.le_refl,yU,aZ,lQ]
     refine hK1 _ ?_;(try clear hK1 K1);with_reducible refine aP ?_;simp (disch:=omega) only [push_cast,↓iC9,simprocAttr]
     refine hK _ ?_;clear hK K;refine zB ?_;refine zB ?_;refine zA ?_;exact ⟨(x,y,out),by simp only [zZ,zR,zP,zQ,zN,zS,zM,zX,zU,Nat.reduceEqDiff,reduceIte];try rfl,⟨hd,by dsimp only;omega⟩,by dsimp only;simp;omega⟩
    ·have he':decide (p.2.1=q.2.1∧p.2.2=q.2.2)=false:=decide_eq_false fun e=>he (Prod.ext e.1 e.2)
     rw [if_neg he] at hd;refine zE ?_;refine zE ?_;refine jV 9 mixed (by kernel_rfl) (fun K hK K1 hK1=>?_);simp (disch:=omega) only [push_cast,↓iC9,simprocAttr,aZ,yU,cJ]
     refine ⟨_,eqN _ _ _ _,?_⟩;with_reducible refine aP ?_;simp (disch:=omega) only [push_cast,↓iC9,simprocAttr,he']
     refine hK1 _ ?_;(try clear hK1 K1);with_reducible refine aP ?_;simp (disch:=omega) only [push_cast,↓iC9,simprocAttr,he']
     refine hK _ ?_;clear hK K;refine yD rfl ?_;refine zJ (fun K hK=>?_);simp (disch:=omega) only [push_cast,↓iC9,simprocAttr,yU,cJ,aZ,iW,aM];(repeat refine ⟨by first|omega|decide|((repeat' apply And.intro) <;> first|omega|decide),?_⟩);refine hK _ ?_;clear hK K
     refine zA ?_;refine yB [0,1,5] [48] (by simp only [zZ,zR,zP,zQ,zN,zS,zM,zX,zU,Nat.reduceEqDiff,reduceIte];exact rfl) ?_
     refine qZ1 6 [] [[(48,.sl true 9 1 (bZ (out ++ [p.1])))]] [(0,0,0),(1,0,0),(2,0,0),(3,0,0),(4,0,0),(5,0,0)] mixed (by kernel_rfl) (by kernel_rfl) rfl (fun K hK K1 hK1=>?_);simp (disch:=omega) only [push_cast,↓iC9,simprocAttr,qMg,qGc,qSb,qLu,qYj,zHl,qLi,qEo,tQ,wT,qCd,tR,tS,qYq,qMx,qNw,qT7,qT6,qH5,wU,qCl,qYv,qYu,qYt,qMy,qMz,qM2,qM1,qYw,qBs,qM0,qTc,List.tail_cons,List.take_nil,List.drop_nil,Nat.sub_self,Nat.le_refl,yU,aZ,lQ]
     refine hK1 _ ?_;(try clear hK1 K1);with_reducible refine aP ?_;simp (disch:=omega) only [push_cast,↓iC9,simprocAttr]
     refine hK _ ?_;clear hK K;refine zB ?_;refine zB ?_;refine zA ?_;exact ⟨(x,y,out ++ [p.1]),by simp only [zZ,zR,zP,zQ,zN,zS,zM,zX,zU,Nat.reduceEqDiff,reduceIte];try rfl,⟨by dsimp only;rw [← hd];simp,by dsimp only;simp;omega⟩,by dsimp only;simp;omega⟩
   ·have h1:Op.bytesLess p.1.toList q.1.toList=false:=jN h
    have h2:Op.bytesLess q.1.toList p.1.toList=true:=h
    rw [pD h] at hd;refine zD ?_;refine zD ?_;refine zE ?_;refine jV 20 mixed (by kernel_rfl) (fun K hK K1 hK1=>?_);simp (disch:=omega) only [push_cast,↓iC9,simprocAttr,aZ,yU,cJ,h1]
    refine hK1 _ ?_;(try clear hK1 K1);with_reducible refine aP ?_;simp (disch:=omega) only [push_cast,↓iC9,simprocAttr,aZ,yU,cJ,h1]
    refine hK _ ?_;clear hK K;refine yC rfl ?_;refine zE ?_;refine jV 15 mixed (by kernel_rfl) (fun K hK K1 hK1=>?_);simp (disch:=omega) only [push_cast,↓iC9,simprocAttr,aZ,yU,cJ,h2]
    refine hK1 _ ?_;(try clear hK1 K1);with_reducible refine aP ?_;simp (disch:=omega) only [push_cast,↓iC9,simprocAttr,aZ,yU,cJ,h2]
    refine hK _ ?_;clear hK K;refine yD rfl ?_;refine zE ?_;refine zJ (fun K hK=>?_);simp (disch:=omega) only [push_cast,↓iC9,simprocAttr,yU,cJ,aZ,iW,aM];(repeat refine ⟨by first|omega|decide|((repeat' apply And.intro) <;> first|omega|decide),?_⟩);refine hK _ ?_;clear hK K
    refine zA ?_;refine zJ (fun K hK=>?_);simp (disch:=omega) only [push_cast,↓iC9,simprocAttr,yU,aZ,lQ];(repeat refine ⟨by first|omega|decide|((repeat' apply And.intro) <;> first|omega|decide),?_⟩);refine hK _ ?_;clear hK K
    refine zB ?_;refine zB ?_;refine zA ?_;exact ⟨(p :: x,y,out ++ [q.1]),by simp only [zZ,zR,zP,zQ,zN,zS,zM,zX,zU,Nat.reduceEqDiff,reduceIte];try rfl,⟨by dsimp only;rw [← hd];simp,by dsimp only;simp;omega⟩,by dsimp only;simp⟩
end Go.Proofs.YtdmnijnogabchaaDoor
