/-
  tree.Diff, tree.Same, walked.
-/
import Derived.Test.YtbdomkfdkfdfgaaGreatDoorOne
import Derived.Test.YtbdomkfdkfdfgaaGreatDoorChn
set_option linter.unusedSimpArgs false
set_option linter.unusedVariables false
set_option maxRecDepth 20000
namespace Go.Tr
open Go Go.Eng
theorem dG (x:Ent) (r:List Ent) {d:List FV}:(aL (x :: r)).getD 0 d=[.v (.string x.1),.v (.int .i64 x.2.1),.v (.string x.2.2)]:=rfl
theorem aS (x:Ent) (r:List Ent):(aL (x :: r)).length=r.length + 1:=by simp [aL]
theorem nW (x:Ent) (r:List Ent):((aL (x :: r)).take (r.length + 1)).drop 1=aL r:=by
 rw [List.take_of_length_le (by rw [aS];omega)];rfl
end Go.Tr
namespace Go.Proofs.YtbdomkfdkfdfgaaGreatDoor
open Go Go.Eng Go.RowKit Go.Tr
set_option maxHeartbeats 8000000 in
theorem zRk (a b:List Ent) (hl:a.length + b.length≤2097152):HFun Tryz.prog 40 [.lst false (aL a),.lst false (aL b)] (fun h st=>h=.own 0∧st=[(0,.sl true 9 1 (cX (eN a b)))]):=by
 refine fJ (N:=89) Tryz.func40 rfl Tryz.ntmps40 Tryz.results40 (by simp) ?_
 refine zE ?_;refine zJ (fun K hK=>?_);simp (disch:=omega) only [push_cast,↓Int.cast_ofNat_Int,simprocAttr];refine hK _ ?_;clear hK K
 refine zE ?_;refine zJ (fun K hK=>?_);simp (disch:=omega) only [push_cast,↓Int.cast_ofNat_Int,simprocAttr];refine hK _ ?_;clear hK K
 refine zE ?_;refine zD ?_;refine cH (fun x:List Ent × List Ent × List ByteArray=>⟨[(0,.lst false (aL x.1)),(1,.lst false (aL x.2.1)),(5,.own 48)],[(48,.sl true 9 1 (cX x.2.2))]⟩)
  (fun x=>x.2.2 ++ eN x.1 x.2.1=eN a b∧x.2.2.length + x.1.length + x.2.1.length≤a.length + b.length) (fun x=>x.1.length + x.2.1.length) [0,1,5] [48] (a,b,[]) (by simp only [zZ,zR,zP,zQ,zN,zS,zM,zX,zU,Nat.reduceEqDiff,reduceIte];rfl) ⟨rfl,by simp⟩ ?_
 rintro ⟨x,y,out⟩ ⟨hd,hs⟩;simp only at hd hs
 have en:(aL []).length=0:=rfl
 cases x with
|nil =>
  cases y with
 |nil =>
   rw [qNv,List.append_nil] at hd;rw [hd];refine zE ?_;refine zE ?_;refine zJ (fun K hK=>?_);simp (disch:=omega) only [push_cast,↓Int.cast_ofNat_Int,simprocAttr,en];refine hK _ ?_;clear hK K
   refine zA ?_;refine yC rfl ?_;refine zT ?_;refine zG ?_;refine zG ?_;refine zH ?_;refine zE ?_;refine zJ (fun K hK=>?_);simp (disch:=omega) only [push_cast,↓Int.cast_ofNat_Int,simprocAttr];refine hK _ ?_;clear hK K
   refine zA ?_;refine zW ?_;simp only [yA,yM,yH,yE,aA,aD,yK,yJ,zS,zM,Nat.reduceEqDiff,reduceIte,reduceCtorEq];exact rC rfl (tG _) ⟨rfl,rfl⟩
 |cons q y =>
   rw [qDh] at hd;simp only [List.length_cons,List.length_nil] at hs;refine zE ?_;refine zE ?_;refine zJ (fun K hK=>?_);simp (disch:=omega) only [push_cast,↓Int.cast_ofNat_Int,simprocAttr,en,aS];refine hK _ ?_;clear hK K
   refine zA ?_;refine yD rfl ?_;refine zC ?_;refine zA ?_;refine zD ?_;refine zD ?_;refine zE ?_;refine dY 20 mixed (by kernel_rfl) (fun K hK K1 hK1=>?_);simp (disch:=omega) only [push_cast,↓Int.cast_ofNat_Int,simprocAttr,en,aS]
   refine hK1 _ ?_;(try clear hK1 K1);with_reducible refine aC ?_;simp (disch:=omega) only [push_cast,↓Int.cast_ofNat_Int,simprocAttr,en,aS]
   refine hK _ ?_;clear hK K;refine yC rfl ?_;refine zE ?_;refine dY 15 mixed (by kernel_rfl) (fun K hK K1 hK1=>?_);simp (disch:=omega) only [push_cast,↓Int.cast_ofNat_Int,simprocAttr,en,aS]
   refine hK1 _ ?_;(try clear hK1 K1);with_reducible refine aC ?_;simp (disch:=omega) only [push_cast,↓Int.cast_ofNat_Int,simprocAttr,en,aS]
   refine hK _ ?_;clear hK K;refine yD rfl ?_;refine zE ?_;refine zJ (fun K hK=>?_);simp (disch:=omega) only [push_cast,↓Int.cast_ofNat_Int,simprocAttr,yU,dG,aS,kR,cY];(repeat refine ⟨by first|omega|decide|((repeat' apply And.intro) <;> first|omega|decide),?_⟩);refine hK _ ?_;clear hK K
   refine zA ?_;refine zJ (fun K hK=>?_);simp (disch:=omega) only [push_cast,↓Int.cast_ofNat_Int,simprocAttr,yU,aS,nW];(repeat refine ⟨by first|omega|decide|((repeat' apply And.intro) <;> first|omega|decide),?_⟩);refine hK _ ?_;clear hK K
   refine zB ?_;refine zB ?_;refine zA ?_;exact ⟨([],y,out ++ [q.1]),by simp only [zZ,zR,zP,zQ,zN,zS,zM,zX,zU,Nat.reduceEqDiff,reduceIte];try rfl,⟨by dsimp only;rw [← hd];simp,by dsimp only;simp;omega⟩,by dsimp only;simp⟩
|cons p x =>
  cases y with
 |nil =>
   rw [qDl] at hd;simp only [List.length_cons,List.length_nil] at hs;refine zE ?_;refine zE ?_;refine zJ (fun K hK=>?_);simp (disch:=omega) only [push_cast,↓Int.cast_ofNat_Int,simprocAttr,en,aS];refine hK _ ?_;clear hK K
   refine zA ?_;refine yD rfl ?_;refine zC ?_;refine zA ?_;refine zD ?_;refine zD ?_;refine zE ?_;refine dY 20 mixed (by kernel_rfl) (fun K hK K1 hK1=>?_);simp (disch:=omega) only [push_cast,↓Int.cast_ofNat_Int,simprocAttr,en,aS]
   refine hK1 _ ?_;(try clear hK1 K1);with_reducible refine aC ?_;simp (disch:=omega) only [push_cast,↓Int.cast_ofNat_Int,simprocAttr,en,aS]
   refine hK _ ?_;clear hK K;refine yD rfl ?_;refine zE ?_;refine zJ (fun K hK=>?_);simp (disch:=omega) only [push_cast,↓Int.cast_ofNat_Int,simprocAttr,yU,dG,aS,kR,cY];(repeat refine ⟨by first|omega|decide|((repeat' apply And.intro) <;> first|omega|decide),?_⟩);refine hK _ ?_;clear hK K
   refine zA ?_;refine zJ (fun K hK=>?_);simp (disch:=omega) only [push_cast,↓Int.cast_ofNat_Int,simprocAttr,yU,aS,nW];(repeat refine ⟨by first|omega|decide|((repeat' apply And.intro) <;> first|omega|decide),?_⟩);refine hK _ ?_;clear hK K
   refine zB ?_;refine zB ?_;refine zA ?_;exact ⟨(x,[],out ++ [p.1]),by simp only [zZ,zR,zP,zQ,zN,zS,zM,zX,zU,Nat.reduceEqDiff,reduceIte];try rfl,⟨by dsimp only;rw [← hd];simp,by dsimp only;simp;omega⟩,by dsimp only;simp⟩
 |cons q y =>
   simp only [List.length_cons] at hs;refine zE ?_;refine zE ?_;refine zJ (fun K hK=>?_);simp (disch:=omega) only [push_cast,↓Int.cast_ofNat_Int,simprocAttr,en,aS];refine hK _ ?_;clear hK K
   refine zA ?_;refine yD rfl ?_;refine zC ?_;refine zA ?_
   rcases jJ p.1 q.1 with h|h|h
   ·have h1:Op.bytesLess p.1.toList q.1.toList=true:=h
    rw [qDi h] at hd;refine zD ?_;refine zD ?_;refine zE ?_;refine dY 20 mixed (by kernel_rfl) (fun K hK K1 hK1=>?_);simp (disch:=omega) only [push_cast,↓Int.cast_ofNat_Int,simprocAttr,aS,yU,dG,h1]
    refine hK1 _ ?_;(try clear hK1 K1);with_reducible refine aC ?_;simp (disch:=omega) only [push_cast,↓Int.cast_ofNat_Int,simprocAttr,aS,yU,dG,h1]
    refine hK _ ?_;clear hK K;refine yD rfl ?_;refine zE ?_;refine zJ (fun K hK=>?_);simp (disch:=omega) only [push_cast,↓Int.cast_ofNat_Int,simprocAttr,yU,dG,aS,kR,cY];(repeat refine ⟨by first|omega|decide|((repeat' apply And.intro) <;> first|omega|decide),?_⟩);refine hK _ ?_;clear hK K
    refine zA ?_;refine zJ (fun K hK=>?_);simp (disch:=omega) only [push_cast,↓Int.cast_ofNat_Int,simprocAttr,yU,aS,nW];(repeat refine ⟨by first|omega|decide|((repeat' apply And.intro) <;> first|omega|decide),?_⟩);refine hK _ ?_;clear hK K
    refine zB ?_;refine zB ?_;refine zA ?_;exact ⟨(x,q :: y,out ++ [p.1]),by simp only [zZ,zR,zP,zQ,zN,zS,zM,zX,zU,Nat.reduceEqDiff,reduceIte];try rfl,⟨by dsimp only;rw [← hd];simp,by dsimp only;simp;omega⟩,by dsimp only;simp⟩
   ·have h1:Op.bytesLess p.1.toList q.1.toList=false:=by rw [h];exact fP _
    have h2:Op.bytesLess q.1.toList p.1.toList=false:=by rw [h];exact fP _
    rw [qDk h] at hd;refine zD ?_;refine zD ?_;refine zE ?_;refine dY 20 mixed (by kernel_rfl) (fun K hK K1 hK1=>?_);simp (disch:=omega) only [push_cast,↓Int.cast_ofNat_Int,simprocAttr,aS,yU,dG,h1]
    refine hK1 _ ?_;(try clear hK1 K1);with_reducible refine aC ?_;simp (disch:=omega) only [push_cast,↓Int.cast_ofNat_Int,simprocAttr,aS,yU,dG,h1]
    refine hK _ ?_;clear hK K;refine yC rfl ?_;refine zE ?_;refine dY 15 mixed (by kernel_rfl) (fun K hK K1 hK1=>?_);simp (disch:=omega) only [push_cast,↓Int.cast_ofNat_Int,simprocAttr,aS,yU,dG,h2]
    refine hK1 _ ?_;(try clear hK1 K1);with_reducible refine aC ?_;simp (disch:=omega) only [push_cast,↓Int.cast_ofNat_Int,simprocAttr,aS,yU,dG,h2]
    refine hK _ ?_;clear hK K;refine yC rfl ?_
    by_cases he:p.2=q.2
    ·have he':decide (p.2.1=q.2.1∧p.2.2=q.2.2)=true:=by rw [he];simp
     rw [if_pos he] at hd;refine zE ?_;refine zE ?_;refine dY 9 mixed (by kernel_rfl) (fun K hK K1 hK1=>?_);simp (disch:=omega) only [push_cast,↓Int.cast_ofNat_Int,simprocAttr,aS,yU,dG]
     refine ⟨_,eqN _ _ _ _,?_⟩;with_reducible refine aC ?_;simp (disch:=omega) only [push_cast,↓Int.cast_ofNat_Int,simprocAttr,he']
     refine hK1 _ ?_;(try clear hK1 K1);with_reducible refine aC ?_;simp (disch:=omega) only [push_cast,↓Int.cast_ofNat_Int,simprocAttr,he']
     refine hK _ ?_;clear hK K;refine yC rfl ?_;refine zC ?_;refine zA ?_;refine nP 6 [] [[(48,.sl true 9 1 (cX out))]] [(0,0,0),(1,0,0),(2,0,0),(3,0,0),(4,0,0),(5,0,0)] mixed (by kernel_rfl) (by kernel_rfl) rfl (fun K hK K1 hK1=>?_);simp (disch:=omega) only [push_cast,↓Int.cast_ofNat_Int,simprocAttr,bZ,bP,cT,bY,dR,iS,bX,bN,aN,aU,bC,aP,aQ,dT,cA,cG,cW,cV,bQ,aV,bD,dW,dV,dU,cB,cC,cF,cE,dX,bV,cD,cU,List.tail_cons,List.take_nil,List.drop_nil,Nat.sub_self,Nat.le_refl,yU,aS,nW]
     refine hK1 _ ?_;(try clear hK1 K1);with_reducible refine aC ?_;simp (disch:=omega) only [push_cast,↓Int.cast_ofNat_Int,simprocAttr]
     refine hK _ ?_;clear hK K;refine zB ?_;refine zB ?_;refine zA ?_;exact ⟨(x,y,out),by simp only [zZ,zR,zP,zQ,zN,zS,zM,zX,zU,Nat.reduceEqDiff,reduceIte];try rfl,⟨hd,by dsimp only;omega⟩,by dsimp only;simp;omega⟩
    ·have he':decide (p.2.1=q.2.1∧p.2.2=q.2.2)=false:=decide_eq_false fun e=>he (Prod.ext e.1 e.2)
     rw [if_neg he] at hd;refine zE ?_;refine zE ?_;refine dY 9 mixed (by kernel_rfl) (fun K hK K1 hK1=>?_);simp (disch:=omega) only [push_cast,↓Int.cast_ofNat_Int,simprocAttr,aS,yU,dG]
     refine ⟨_,eqN _ _ _ _,?_⟩;with_reducible refine aC ?_;simp (disch:=omega) only [push_cast,↓Int.cast_ofNat_Int,simprocAttr,he']
     refine hK1 _ ?_;(try clear hK1 K1);with_reducible refine aC ?_;simp (disch:=omega) only [push_cast,↓Int.cast_ofNat_Int,simprocAttr,he']
     refine hK _ ?_;clear hK K;refine yD rfl ?_;refine zJ (fun K hK=>?_);simp (disch:=omega) only [push_cast,↓Int.cast_ofNat_Int,simprocAttr,yU,dG,aS,kR,cY];(repeat refine ⟨by first|omega|decide|((repeat' apply And.intro) <;> first|omega|decide),?_⟩);refine hK _ ?_;clear hK K
     refine zA ?_;refine yB [0,1,5] [48] (by simp only [zZ,zR,zP,zQ,zN,zS,zM,zX,zU,Nat.reduceEqDiff,reduceIte];exact rfl) ?_
     refine nP 6 [] [[(48,.sl true 9 1 (cX (out ++ [p.1])))]] [(0,0,0),(1,0,0),(2,0,0),(3,0,0),(4,0,0),(5,0,0)] mixed (by kernel_rfl) (by kernel_rfl) rfl (fun K hK K1 hK1=>?_);simp (disch:=omega) only [push_cast,↓Int.cast_ofNat_Int,simprocAttr,bZ,bP,cT,bY,dR,iS,bX,bN,aN,aU,bC,aP,aQ,dT,cA,cG,cW,cV,bQ,aV,bD,dW,dV,dU,cB,cC,cF,cE,dX,bV,cD,cU,List.tail_cons,List.take_nil,List.drop_nil,Nat.sub_self,Nat.le_refl,yU,aS,nW]
     refine hK1 _ ?_;(try clear hK1 K1);with_reducible refine aC ?_;simp (disch:=omega) only [push_cast,↓Int.cast_ofNat_Int,simprocAttr]
     refine hK _ ?_;clear hK K;refine zB ?_;refine zB ?_;refine zA ?_;exact ⟨(x,y,out ++ [p.1]),by simp only [zZ,zR,zP,zQ,zN,zS,zM,zX,zU,Nat.reduceEqDiff,reduceIte];try rfl,⟨by dsimp only;rw [← hd];simp,by dsimp only;simp;omega⟩,by dsimp only;simp;omega⟩
   ·have h1:Op.bytesLess p.1.toList q.1.toList=false:=iQ h
    have h2:Op.bytesLess q.1.toList p.1.toList=true:=h
    rw [qDj h] at hd;refine zD ?_;refine zD ?_;refine zE ?_;refine dY 20 mixed (by kernel_rfl) (fun K hK K1 hK1=>?_);simp (disch:=omega) only [push_cast,↓Int.cast_ofNat_Int,simprocAttr,aS,yU,dG,h1]
    refine hK1 _ ?_;(try clear hK1 K1);with_reducible refine aC ?_;simp (disch:=omega) only [push_cast,↓Int.cast_ofNat_Int,simprocAttr,aS,yU,dG,h1]
    refine hK _ ?_;clear hK K;refine yC rfl ?_;refine zE ?_;refine dY 15 mixed (by kernel_rfl) (fun K hK K1 hK1=>?_);simp (disch:=omega) only [push_cast,↓Int.cast_ofNat_Int,simprocAttr,aS,yU,dG,h2]
    refine hK1 _ ?_;(try clear hK1 K1);with_reducible refine aC ?_;simp (disch:=omega) only [push_cast,↓Int.cast_ofNat_Int,simprocAttr,aS,yU,dG,h2]
    refine hK _ ?_;clear hK K;refine yD rfl ?_;refine zE ?_;refine zJ (fun K hK=>?_);simp (disch:=omega) only [push_cast,↓Int.cast_ofNat_Int,simprocAttr,yU,dG,aS,kR,cY];(repeat refine ⟨by first|omega|decide|((repeat' apply And.intro) <;> first|omega|decide),?_⟩);refine hK _ ?_;clear hK K
    refine zA ?_;refine zJ (fun K hK=>?_);simp (disch:=omega) only [push_cast,↓Int.cast_ofNat_Int,simprocAttr,yU,aS,nW];(repeat refine ⟨by first|omega|decide|((repeat' apply And.intro) <;> first|omega|decide),?_⟩);refine hK _ ?_;clear hK K
    refine zB ?_;refine zB ?_;refine zA ?_;exact ⟨(p :: x,y,out ++ [q.1]),by simp only [zZ,zR,zP,zQ,zN,zS,zM,zX,zU,Nat.reduceEqDiff,reduceIte];try rfl,⟨by dsimp only;rw [← hd];simp,by dsimp only;simp;omega⟩,by dsimp only;simp⟩
set_option maxHeartbeats 4000000 in
theorem zM8 (a b:List Ent) (ha:a.length≤140737488355328):HFun Tryz.prog 79 [.lst false (aL a),.lst false (aL b)] (fun h st=>h=.v (.bool (decide (a=b)))):=by
 refine fJ (N:=26) Tryz.func79 rfl Tryz.ntmps79 Tryz.results79 (by simp) ?_
 refine zE ?_;refine zJ (fun K hK=>?_);simp (disch:=omega) only [push_cast,↓Int.cast_ofNat_Int,simprocAttr];refine hK _ ?_;clear hK K
 by_cases hl:a.length=b.length
 ·refine zE ?_;refine zE ?_;refine zJ (fun K hK=>?_);simp (disch:=omega) only [push_cast,↓Int.cast_ofNat_Int,simprocAttr,yV];refine hK _ ?_;clear hK K
  refine zA ?_;refine yC rfl ?_;refine zC ?_;refine zE ?_;refine zE ?_;refine zJ (fun K hK=>?_);simp (disch:=omega) only [push_cast,↓Int.cast_ofNat_Int,simprocAttr,yV];refine hK _ ?_;clear hK K
  refine zA ?_;refine zD ?_;refine cH (fun i:Nat=>⟨[(0,.lst false (aL a)),(1,.lst false (aL b)),(12,.v (.int .i64 a.length)),(13,.v (.int .i64 i))],[]⟩) (fun i=>i≤a.length∧a.take i=b.take i) (fun i=>a.length - i) [0,1,12,13] [] 0 rfl ⟨Nat.zero_le _,rfl⟩ ?_
  rintro i ⟨hi,hp⟩
  by_cases hia:i < a.length
  ·have hib:i < b.length:=by omega
   refine zE ?_;refine zJ (fun K hK=>?_);simp (disch:=omega) only [push_cast,↓Int.cast_ofNat_Int,simprocAttr];refine hK _ ?_;clear hK K
   refine zE ?_;refine yD rfl ?_;refine zC ?_;refine zE ?_;refine zD ?_;refine zE ?_;refine zJ (fun K hK=>?_);simp (disch:=omega) only [push_cast,↓Int.cast_ofNat_Int,simprocAttr];refine hK _ ?_;clear hK K
   by_cases he:a[i]=b[i]
   ·have he':decide ((a[i].1,a[i].2.1,a[i].2.2)=(b[i].1,b[i].2.1,b[i].2.2))=true:=by rw [he];simp
    refine zE ?_;refine dY 9 mixed (by kernel_rfl) (fun K hK K1 hK1=>?_);simp (disch:=omega) only [push_cast,↓Int.cast_ofNat_Int,simprocAttr,yV,yU,yW hia,yW hib,he']
    refine ⟨_,eqE _ _ _ _ _ _,?_⟩;with_reducible refine aC ?_;simp (disch:=omega) only [push_cast,↓Int.cast_ofNat_Int,simprocAttr,he']
    refine hK1 _ ?_;(try clear hK1 K1);with_reducible refine aC ?_;simp (disch:=omega) only [push_cast,↓Int.cast_ofNat_Int,simprocAttr,he']
    refine hK _ ?_;clear hK K;refine yC rfl ?_;refine zC ?_;refine zB ?_;refine zA ?_;refine zJ (fun K hK=>?_);simp (disch:=omega) only [push_cast,↓Int.cast_ofNat_Int,simprocAttr];refine hK _ ?_;clear hK K
    refine zA ?_;exact ⟨i + 1,rfl,⟨hia,qPx hp hia hib he⟩,by omega⟩
   ·have he':decide ((a[i].1,a[i].2.1,a[i].2.2)=(b[i].1,b[i].2.1,b[i].2.2))=false:=decide_eq_false he
    refine zE ?_;refine dY 9 mixed (by kernel_rfl) (fun K hK K1 hK1=>?_);simp (disch:=omega) only [push_cast,↓Int.cast_ofNat_Int,simprocAttr,yV,yU,yW hia,yW hib,he']
    refine ⟨_,eqE _ _ _ _ _ _,?_⟩;with_reducible refine aC ?_;simp (disch:=omega) only [push_cast,↓Int.cast_ofNat_Int,simprocAttr,he']
    refine hK1 _ ?_;(try clear hK1 K1);with_reducible refine aC ?_;simp (disch:=omega) only [push_cast,↓Int.cast_ofNat_Int,simprocAttr,he']
    refine hK _ ?_;clear hK K;refine yD rfl ?_;refine zE ?_;refine zJ (fun K hK=>?_);simp (disch:=omega) only [push_cast,↓Int.cast_ofNat_Int,simprocAttr];refine hK _ ?_;clear hK K
    refine zA ?_;refine zW ?_;refine zL ?_;refine zK ?_;refine zK ?_;refine zL ?_;refine zK ?_;simp only [yA,yM,yH,yE,aA,aD,yK,yJ,zS,zM,Nat.reduceEqDiff,reduceIte,reduceCtorEq];refine aM ?_;rw [decide_eq_false (fun e=>he (by subst e;rfl))]
  ·refine zE ?_;refine zJ (fun K hK=>?_);simp (disch:=omega) only [push_cast,↓Int.cast_ofNat_Int,simprocAttr];refine hK _ ?_;clear hK K
   refine zE ?_;refine yC rfl ?_;refine zT ?_;refine zG ?_;refine zG ?_;refine zH ?_;refine zE ?_;refine zJ (fun K hK=>?_);simp (disch:=omega) only [push_cast,↓Int.cast_ofNat_Int,simprocAttr];refine hK _ ?_;clear hK K
   refine zA ?_;refine zW ?_;simp only [yA,yM,yH,yE,aA,aD,yK,yJ,zS,zM,Nat.reduceEqDiff,reduceIte,reduceCtorEq];refine aM ?_;rw [List.take_of_length_le (by omega),List.take_of_length_le (by omega)] at hp
   rw [decide_eq_true hp]
 ·refine zE ?_;refine zE ?_;refine zJ (fun K hK=>?_);simp (disch:=omega) only [push_cast,↓Int.cast_ofNat_Int,simprocAttr,yV];refine hK _ ?_;clear hK K
  refine zA ?_;refine yD rfl ?_;refine zE ?_;refine zJ (fun K hK=>?_);simp (disch:=omega) only [push_cast,↓Int.cast_ofNat_Int,simprocAttr];refine hK _ ?_;clear hK K
  refine zA ?_;refine zW ?_;refine zK ?_;simp only [yA,yM,yH,yE,aA,aD,yK,yJ,zS,zM,Nat.reduceEqDiff,reduceIte,reduceCtorEq];refine aM ?_;rw [decide_eq_false (fun e=>hl (by rw [e]))]
set_option maxHeartbeats 1000000 in
theorem qHj (a b:List Ent) (ha:a.length≤140737488355328):HFun Tryz.prog 52 [.lst false (aL a),.lst false (aL b)] (fun h st=>h=.v (.bool (decide (a=b)))):=by
 refine fJ (N:=8) Tryz.func52 rfl Tryz.ntmps52 Tryz.results52 (by simp) ?_
 refine zE ?_;refine zJ (fun K hK=>?_);simp (disch:=omega) only [push_cast,↓Int.cast_ofNat_Int,simprocAttr];refine hK _ ?_;clear hK K
 refine zE ?_;refine zJ (fun K hK=>?_);simp (disch:=omega) only [push_cast,↓Int.cast_ofNat_Int,simprocAttr]
 refine cP zU5 (zM8 a b ha) (.cons (aT (yT _)) (.cons (aT (yT _)) .nil)) ?_;with_reducible refine aC ?_;simp (disch:=omega) only [push_cast,↓Int.cast_ofNat_Int,simprocAttr]
 refine hK _ ?_;clear hK K;refine zA ?_;refine zW ?_;simp only [yA,yM,yH,yE,aA,aD,yK,yJ,zS,zM,Nat.reduceEqDiff,reduceIte,reduceCtorEq];exact aM rfl
end Go.Proofs.YtbdomkfdkfdfgaaGreatDoor
