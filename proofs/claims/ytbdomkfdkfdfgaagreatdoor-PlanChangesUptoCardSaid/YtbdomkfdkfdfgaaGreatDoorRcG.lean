/-
  Recon: what is said of one path, walked.
-/
import Derived.Test.YtbdomkfdkfdfgaaGreatDoorRcF
import Derived.Test.YtbdomkfdkfdfgaaGreatDoorOne
import Derived.Test.YtbdomkfdkfdfgaaGreatDoorBir
set_option linter.unusedSimpArgs false
set_option linter.unusedVariables false
set_option maxRecDepth 20000
namespace Go.Proofs.YtbdomkfdkfdfgaaGreatDoor
open Go Go.Eng Go.RowKit Go.Tr Go.Dk Go.Rc
abbrev zLt (mg:(Int × ByteArray)→(Int × ByteArray)→(Int × ByteArray)→Bool):Prop:=∀ a h s:Int × ByteArray,a.2.size≤4096→h.2.size≤4096→s.2.size≤4096 →
 ∃ n,HFun Tryz.prog 54 [mA a,mA h,mA s] (fun r st=>r=.tup [mA n,.v (.bool (mg a h s))]∧st=[])
theorem qM9 {t:List Ent} (h:TB t) (p:ByteArray):(aF t p).2.size≤4096:=by
 unfold aF
 cases hf:t.find? (fun e=>decide (e.1=p)) with
|none=>exact Nat.zero_le _
|some e=>exact h.dat e (List.mem_of_find?_eq_some hf)
set_option maxHeartbeats 4000000 in
theorem qY1 {mg:(Int × ByteArray)→(Int × ByteArray)→(Int × ByteArray)→Bool} {A H S:List Ent} (hA:TB A) (hH:TB H) (hS:TB S) (hm:(H=S∨H=A∨S=A)∨zLt mg) (k:Nat) (p:ByteArray) (hp:p.size≤1048576)
  (IH:∀ out:LN,out.length + (dQ mg A H S k p).length≤1000000→HFunS Tryz.prog 50 [.ptr 0 4 0 0,.v (.string p)] (wgS A H S out) (fun h st=>h=.tup []∧st=wgS A H S (out ++ dQ mg A H S k p)))
  (out:LN) (hout:out.length + (oA mg (dQ mg A H S k) A H S p).length≤1000000) :
  HFunS Tryz.prog 78 [.ptr 0 4 0 0,.v (.string p)] (wgS A H S out) (fun h st=>h=.tup []∧st=wgS A H S (out ++ oA mg (dQ mg A H S k) A H S p)):=by
 refine qW2 (N:=105) Tryz.func78 rfl Tryz.ntmps78 Tryz.results78 (by simp) ?_
 have sA:=qUy A p (by have:=hA.len;omega) hA.sz hp
 have sH:=qUy H p (by have:=hH.len;omega) hH.sz hp
 have sS:=qUy S p (by have:=hS.len;omega) hS.sz hp
 have gA:=oQ A p hA.rise (by have:=hA.len;omega)
 have gH:=oQ H p hH.rise (by have:=hH.len;omega)
 have gS:=oQ S p hS.rise (by have:=hS.len;omega)
 refine zE ?_;refine nP 18 [] [wgS A H S out] [(0,0,0),(1,0,0),(2,0,0),(3,0,0),(4,0,0),(5,0,0),(6,0,0),(7,0,0),(8,0,0),(9,0,0),(10,0,0),(11,0,0),(12,0,0),(13,0,0),(14,0,0),(15,0,0),(16,0,0),(17,0,0)] mixed (by kernel_rfl) (by kernel_rfl) rfl (fun K hK K1 hK1=>?_);simp (disch:=omega) only [push_cast,↓Int.cast_ofNat_Int,simprocAttr,bZ,bP,cT,bY,dR,iS,bX,bN,aN,aU,bC,aP,aQ,dT,cA,cG,cW,cV,bQ,aV,bD,dW,dV,dU,cB,cC,cF,cE,dX,bV,cD,cU,List.tail_cons,List.take_nil,List.drop_nil,Nat.sub_self,Nat.le_refl]
 refine zCz zK5 sA (.cons (aT (yT _)) (.cons (.v _) .nil)) ?_;with_reducible refine aC ?_;simp (disch:=omega) only [push_cast,↓Int.cast_ofNat_Int,simprocAttr,bZ,bP,cT,bY,dR,iS,bX,bN,aN,aU,bC,aP,aQ,dT,cA,cG,cW,cV,bQ,aV,bD,dW,dV,dU,cB,cC,cF,cE,dX,bV,cD,cU,List.tail_cons,List.take_nil,List.drop_nil]
 refine zCz zK5 sH (.cons (aT (yT _)) (.cons (.v _) .nil)) ?_;with_reducible refine aC ?_;simp (disch:=omega) only [push_cast,↓Int.cast_ofNat_Int,simprocAttr,bZ,bP,cT,bY,dR,iS,bX,bN,aN,aU,bC,aP,aQ,dT,cA,cG,cW,cV,bQ,aV,bD,dW,dV,dU,cB,cC,cF,cE,dX,bV,cD,cU,List.tail_cons,List.take_nil,List.drop_nil]
 refine zCz zK5 sS (.cons (aT (yT _)) (.cons (.v _) .nil)) ?_;with_reducible refine aC ?_;simp (disch:=omega) only [push_cast,↓Int.cast_ofNat_Int,simprocAttr,bZ,bP,cT,bY,dR,iS,bX,bN,aN,aU,bC,aP,aQ,dT,cA,cG,cW,cV,bQ,aV,bD,dW,dV,dU,cB,cC,cF,cE,dX,bV,cD,cU,List.tail_cons,List.take_nil,List.drop_nil]
 refine hK1 _ ?_;(try clear hK1 K1);with_reducible refine aC ?_;simp (disch:=omega) only [push_cast,↓Int.cast_ofNat_Int,simprocAttr]
 refine hK _ ?_;clear hK K;refine yB [0,1,4,5,6] [0,1] (by simp only [zZ,zR,zP,zQ,zN,zS,zM,zX,zU,Nat.reduceEqDiff,reduceIte];exact rfl) ?_
 obtain ⟨tA,hsA⟩:∃ t,qD1 A p=t:=⟨_,rfl⟩;obtain ⟨tH,hsH⟩:∃ t,qD1 H p=t:=⟨_,rfl⟩;obtain ⟨tS,hsS⟩:∃ t,qD1 S p=t:=⟨_,rfl⟩
 have lA:tA.length≤140737488355328:=by
  have:=hA.len
  have e:tA.length≤A.length:=by rw [← hsA];exact List.length_filter_le ..
  omega
 have lH:tH.length≤140737488355328:=by
  have:=hH.len
  have e:tH.length≤H.length:=by rw [← hsH];exact List.length_filter_le ..
  omega
 have lS:tS.length≤140737488355328:=by
  have:=hS.len
  have e:tS.length≤S.length:=by rw [← hsS];exact List.length_filter_le ..
  omega
 rw [show (A.filter fun e=>eK e.1 p)=tA from hsA,show (H.filter fun e=>eK e.1 p)=tH from hsH,show (S.filter fun e=>eK e.1 p)=tS from hsS]
 obtain ⟨nA,hnA⟩:∃ n,aF A p=n:=⟨_,rfl⟩;obtain ⟨nH,hnH⟩:∃ n,aF H p=n:=⟨_,rfl⟩;obtain ⟨nS,hnS⟩:∃ n,aF S p=n:=⟨_,rfl⟩;rw [hnA] at gA;rw [hnH] at gH;rw [hnS] at gS
 have hwg:oA mg (dQ mg A H S k) A H S p=if tH=tS then (if tA=tH then [] else [(p,1)])
   else if nH.1=1∧nS.1=1 then (if nA.1=1 then [] else [(p,1)]) ++ dQ mg A H S k p
   else if tH=tA then [(p,3)] else if tS=tA then [(p,2)] else [(p,if mg nA nH nS=true then 4 else 5)]:=by
  rw [oA,hsA,hsH,hsS,hnA,hnH,hnS]
 have hdef:(tH=tS∨tH=tA∨tS=tA)∨zLt mg:=by
  rw [← hsA,← hsH,← hsS]
  rcases hm with (rfl|rfl|rfl)|hm
  ·exact .inl (.inl rfl)
  ·exact .inl (.inr (.inl rfl))
  ·exact .inl (.inr (.inr rfl))
  ·exact .inr hm
 have zA:=qM9 hA p
 have zH:=qM9 hH p
 have zS:=qM9 hS p
 rw [hnA] at zA;rw [hnH] at zH;rw [hnS] at zS;rw [hwg] at hout ⊢;obtain ⟨B,hB⟩:∃ B,dQ mg A H S k p=B:=⟨_,rfl⟩;rw [hB] at IH hout ⊢;clear hwg;obtain ⟨kA,dA⟩:=nA;obtain ⟨kH,dH⟩:=nH;obtain ⟨kS,dS⟩:=nS;dsimp only at gA gH gS hout ⊢;refine zE ?_;refine zNl 21 [] [[(0,wgR A H S),(1,.sl true 71 2 (itl out))]] [(0,0,0),(1,0,0),(2,0,0),(3,0,0),(4,0,0),(5,0,0),(6,0,0),(7,0,0),(8,0,0),(9,0,0),(10,0,0),(11,0,0),(12,0,0),(13,0,0),(14,0,0),(15,0,0),(16,0,0),(17,0,0)] [(18,7,56,47,[.int .i64 0,.string ByteArray.empty]),(19,8,64,47,[.int .i64 0,.string ByteArray.empty]),(20,9,72,47,[.int .i64 0,.string ByteArray.empty])] mixed (by kernel_rfl) (by kernel_rfl) (by kernel_rfl) (by repeat' first|exact trivial|refine ⟨⟨rfl,rfl,rfl⟩,by kernel_rfl,rfl,?_⟩) rfl (fun K hK K1 hK1=>?_);simp (disch:=omega) only [push_cast,↓Int.cast_ofNat_Int,simprocAttr,bZ,bP,cT,bY,dR,iS,bX,bN,aN,aU,bC,aP,aQ,dT,cA,cG,cW,cV,bQ,aV,bD,dW,dV,dU,cB,cC,cF,cE,dX,bV,cD,cU,List.tail_cons,List.take_nil,List.drop_nil,qHp,qCy,xH,uF,qDf,qHv,qDt,qHw,qDu,xP,uK,Bool.false_or,Bool.true_or]
 refine sN uW gA (.cons (aT (yT _)) (.cons (.v _) .nil)) ?_
 (try with_reducible refine aC ?_);simp (disch:=omega) only [push_cast,↓Int.cast_ofNat_Int,simprocAttr,qC,bZ,bP,cT,bY,dR,iS,bX,bN,aN,aU,bC,aP,aQ,dT,cA,cG,cW,cV,bQ,aV,bD,dW,dV,dU,cB,cC,cF,cE,dX,bV,cD,cU,List.tail_cons,List.take_nil,List.drop_nil,qHp,qCy,xH,uF,qDf,qHv,qDt,qHw,qDu,xP,uK,Bool.false_or,Bool.true_or,fE,eE,eW,dZ,fX,fZ,fY,iM,fC,fB,fA,gC,fD,eZ,eD,iL]
 refine sN uW gH (.cons (aT (yT _)) (.cons (.v _) .nil)) ?_
 (try with_reducible refine aC ?_);simp (disch:=omega) only [push_cast,↓Int.cast_ofNat_Int,simprocAttr,qC,bZ,bP,cT,bY,dR,iS,bX,bN,aN,aU,bC,aP,aQ,dT,cA,cG,cW,cV,bQ,aV,bD,dW,dV,dU,cB,cC,cF,cE,dX,bV,cD,cU,List.tail_cons,List.take_nil,List.drop_nil,qHp,qCy,xH,uF,qDf,qHv,qDt,qHw,qDu,xP,uK,Bool.false_or,Bool.true_or,fE,eE,eW,dZ,fX,fZ,fY,iM,fC,fB,fA,gC,fD,eZ,eD,iL]
 refine sN uW gS (.cons (aT (yT _)) (.cons (.v _) .nil)) ?_
 (try with_reducible refine aC ?_);simp (disch:=omega) only [push_cast,↓Int.cast_ofNat_Int,simprocAttr,qC,bZ,bP,cT,bY,dR,iS,bX,bN,aN,aU,bC,aP,aQ,dT,cA,cG,cW,cV,bQ,aV,bD,dW,dV,dU,cB,cC,cF,cE,dX,bV,cD,cU,List.tail_cons,List.take_nil,List.drop_nil,qHp,qCy,xH,uF,qDf,qHv,qDt,qHw,qDu,xP,uK,Bool.false_or,Bool.true_or,fE,eE,eW,dZ,fX,fZ,fY,iM,fC,fB,fA,gC,fD,eZ,eD,iL]
 refine hK1 _ ?_;(try clear hK1 K1);with_reducible refine aC ?_;simp (disch:=omega) only [push_cast,↓Int.cast_ofNat_Int,simprocAttr]
 refine hK _ ?_;clear hK K;refine yB [0,1,4,5,6,7,8,9] [0,1,56,64,72] (by simp only [zZ,zR,zP,zQ,zN,zS,zM,zX,zU,Nat.reduceEqDiff,reduceIte];exact rfl) ?_
 have cHS:=qHj tH tS lH
 have cAH:=qHj tA tH lA
 have cHA:=qHj tH tA lH
 have cSA:=qHj tS tA lS
 refine zD ?_;refine zE ?_
 by_cases c1:tH=tS
 ·rw [decide_eq_true c1] at cHS;rw [if_pos c1] at hout ⊢;refine zJ (fun K hK=>?_);simp (disch:=omega) only [push_cast,↓Int.cast_ofNat_Int,simprocAttr]
  refine cP qUo cHS (.cons (aT (yT _)) (.cons (aT (yT _)) .nil)) ?_;with_reducible refine aC ?_;simp (disch:=omega) only [push_cast,↓Int.cast_ofNat_Int,simprocAttr]
  refine hK _ ?_;clear hK K
  skip
  refine yD rfl ?_
  by_cases c2:tA=tH
  ·rw [decide_eq_true c2] at cAH;rw [if_pos c2] at hout ⊢;refine zE ?_;refine zJ (fun K hK=>?_);simp (disch:=omega) only [push_cast,↓Int.cast_ofNat_Int,simprocAttr]
   refine cP qUo cAH (.cons (aT (yT _)) (.cons (aT (yT _)) .nil)) ?_;with_reducible refine aC ?_;simp (disch:=omega) only [push_cast,↓Int.cast_ofNat_Int,simprocAttr]
   refine hK _ ?_;clear hK K
   skip
   refine yC rfl ?_;refine zC ?_;refine zB ?_;simp only [bT,dE,yH,yE,yK,yJ,fF,zS,zM,Nat.reduceEqDiff,reduceIte,reduceCtorEq];refine oL [0,1] (by decide) (by decide) (by simp only [push_cast,simprocAttr]) (by simp only [push_cast,simprocAttr]) (by simp only [push_cast,simprocAttr];rfl) (by simp only [push_cast,simprocAttr];rfl) ?_
   exact ⟨rfl,by rw [List.append_nil]⟩
  ·rw [decide_eq_false c2] at cAH;rw [if_neg c2] at hout ⊢;rw [List.length_singleton] at hout;refine zE ?_;refine zJ (fun K hK=>?_);simp (disch:=omega) only [push_cast,↓Int.cast_ofNat_Int,simprocAttr]
   refine cP qUo cAH (.cons (aT (yT _)) (.cons (aT (yT _)) .nil)) ?_;with_reducible refine aC ?_;simp (disch:=omega) only [push_cast,↓Int.cast_ofNat_Int,simprocAttr]
   refine hK _ ?_;clear hK K
   skip
   refine yD rfl ?_;refine zJ (fun K hK=>?_);simp (disch:=omega) only [push_cast,↓Int.cast_ofNat_Int,simprocAttr]
   refine qHf 576 [0,1] qS0 (qQb A H S out p 1 (by omega)) rfl (by decide) (by decide) (by simp only [push_cast,simprocAttr];try rfl) (by simp only [push_cast,simprocAttr];try rfl) ?_
   rintro _ _ ⟨rfl,rfl⟩;refine aC ?_;simp (disch:=omega) only [push_cast,↓Int.cast_ofNat_Int,simprocAttr];refine hK _ ?_;clear hK K;refine zB ?_;simp only [bT,dE,yH,yE,yK,yJ,fF,zS,zM,Nat.reduceEqDiff,reduceIte,reduceCtorEq];refine oL [0,1] (by decide) (by decide) (by simp only [push_cast,simprocAttr]) (by simp only [push_cast,simprocAttr]) (by simp only [push_cast,simprocAttr];rfl) (by simp only [push_cast,simprocAttr];rfl) ?_
   exact ⟨rfl,rfl⟩
 rw [decide_eq_false c1] at cHS;rw [if_neg c1] at hout ⊢;refine zJ (fun K hK=>?_);simp (disch:=omega) only [push_cast,↓Int.cast_ofNat_Int,simprocAttr]
 refine cP qUo cHS (.cons (aT (yT _)) (.cons (aT (yT _)) .nil)) ?_;with_reducible refine aC ?_;simp (disch:=omega) only [push_cast,↓Int.cast_ofNat_Int,simprocAttr]
 refine hK _ ?_;clear hK K
 skip
 refine yC rfl ?_;refine yB [0,1,4,5,6,7,8,9] [0,1,56,64,72] (by simp only [zZ,zR,zP,zQ,zN,zS,zM,zX,zU,Nat.reduceEqDiff,reduceIte];exact rfl) ?_
 refine zE ?_
 by_cases c3:kH=1∧kS=1
 ·rw [if_pos c3,List.length_append] at hout;rw [if_pos c3];obtain ⟨rfl,rfl⟩:=c3;refine zJ (fun K hK=>?_);simp (disch:=omega) only [push_cast,↓Int.cast_ofNat_Int,simprocAttr];(repeat refine ⟨by first|omega|decide|((repeat' apply And.intro) <;> first|omega|decide),?_⟩);refine hK _ ?_;clear hK K
  skip
  refine yD rfl ?_;refine yB [0,1,7] [0,1,56] (by simp only [zZ,zR,zP,zQ,zN,zS,zM,zX,zU,Nat.reduceEqDiff,reduceIte];exact rfl) ?_
  refine zE ?_;refine zE ?_
  by_cases c4:kA=1
  ·subst c4;rw [if_pos rfl] at hout ⊢;rw [List.length_nil] at hout
   have ib:=IH out (by omega)
   refine zJ (fun K hK=>?_);simp (disch:=omega) only [push_cast,↓Int.cast_ofNat_Int,simprocAttr];(repeat refine ⟨by first|omega|decide|((repeat' apply And.intro) <;> first|omega|decide),?_⟩);refine hK _ ?_;clear hK K
   skip
   refine yC rfl ?_;refine zC ?_;refine zJ (fun K hK=>?_);simp (disch:=omega) only [push_cast,↓Int.cast_ofNat_Int,simprocAttr]
   refine qHf 720 [0,1] zRo (ib) rfl (by decide) (by decide) (by simp only [push_cast,simprocAttr];try rfl) (by simp only [push_cast,simprocAttr];try rfl) ?_
   rintro _ _ ⟨rfl,rfl⟩;refine aC ?_;simp (disch:=omega) only [push_cast,↓Int.cast_ofNat_Int,simprocAttr];refine hK _ ?_;clear hK K;refine zB ?_;simp only [bT,dE,yH,yE,yK,yJ,fF,zS,zM,Nat.reduceEqDiff,reduceIte,reduceCtorEq];refine oL [0,1] (by decide) (by decide) (by simp only [push_cast,simprocAttr]) (by simp only [push_cast,simprocAttr]) (by simp only [push_cast,simprocAttr];rfl) (by simp only [push_cast,simprocAttr];rfl) ?_
   exact ⟨rfl,by rw [List.nil_append]⟩
  ·have d4:decide (kA=1)=false:=decide_eq_false c4
   rw [if_neg c4] at hout ⊢;rw [List.length_singleton] at hout
   have ib:=IH (out ++ [(p,1)]) (by rw [List.length_append,List.length_singleton];omega)
   refine zJ (fun K hK=>?_);simp (disch:=omega) only [push_cast,↓Int.cast_ofNat_Int,simprocAttr,d4];(repeat refine ⟨by first|omega|decide|((repeat' apply And.intro) <;> first|omega|decide),?_⟩);refine hK _ ?_;clear hK K
   skip
   refine yD rfl ?_;refine zJ (fun K hK=>?_);simp (disch:=omega) only [push_cast,↓Int.cast_ofNat_Int,simprocAttr]
   refine qHf 696 [0,1] qS0 (qQb A H S out p 1 (by omega)) rfl (by decide) (by decide) (by simp only [push_cast,simprocAttr];try rfl) (by simp only [push_cast,simprocAttr];try rfl) ?_
   rintro _ _ ⟨rfl,rfl⟩;refine aC ?_;simp (disch:=omega) only [push_cast,↓Int.cast_ofNat_Int,simprocAttr];refine hK _ ?_;clear hK K
   skip
   refine zJ (fun K hK=>?_);simp (disch:=omega) only [push_cast,↓Int.cast_ofNat_Int,simprocAttr]
   refine qHf 720 [0,1] zRo (ib) rfl (by decide) (by decide) (by simp only [push_cast,simprocAttr];try rfl) (by simp only [push_cast,simprocAttr];try rfl) ?_
   rintro _ _ ⟨rfl,rfl⟩;refine aC ?_;simp (disch:=omega) only [push_cast,↓Int.cast_ofNat_Int,simprocAttr];refine hK _ ?_;clear hK K;refine zB ?_;simp only [bT,dE,yH,yE,yK,yJ,fF,zS,zM,Nat.reduceEqDiff,reduceIte,reduceCtorEq];refine oL [0,1] (by decide) (by decide) (by simp only [push_cast,simprocAttr]) (by simp only [push_cast,simprocAttr]) (by simp only [push_cast,simprocAttr];rfl) (by simp only [push_cast,simprocAttr];rfl) ?_
   exact ⟨rfl,by rw [List.append_assoc]⟩
 rw [if_neg c3] at hout ⊢;refine qHy (fun _:Unit=>⟨[(0,.ptr 0 4 0 0),(1,.v (.string p)),(4,.lst true (aL tA)),(5,.lst true (aL tH)),(6,.lst true (aL tS)),(7,.ptr 56 2 0 0),(8,.ptr 64 2 0 0),(9,.ptr 72 2 0 0),(73,.v (.bool false))],[(0,wgR A H S),(1,.sl true 71 2 (itl out)),(56,.bx true 47 [.v (.int .i64 kA),.v (.string dA)]),(64,.bx true 47 [.v (.int .i64 kH),.v (.string dH)]),(72,.bx true 47 [.v (.int .i64 kS),.v (.string dS)])]⟩) (fun _=>True) [0,1,4,5,6,7,8,9,73] [0,1,56,64,72] ?_ ?_
 ·by_cases c4:kH=1
  ·subst c4
   have d5:decide (kS=1)=false:=decide_eq_false fun h=>c3 ⟨rfl,h⟩
   refine zJ (fun K hK=>?_);simp (disch:=omega) only [push_cast,↓Int.cast_ofNat_Int,simprocAttr,d5];(repeat refine ⟨by first|omega|decide|((repeat' apply And.intro) <;> first|omega|decide),?_⟩);refine hK _ ?_;clear hK K
   exact ⟨(),by simp only [zZ,zR,zP,zQ,zN,zS,zM,zX,zU,Nat.reduceEqDiff,reduceIte];try rfl,trivial⟩
  ·have d4:decide (kH=1)=false:=decide_eq_false c4
   refine zJ (fun K hK=>?_);simp (disch:=omega) only [push_cast,↓Int.cast_ofNat_Int,simprocAttr,d4];(repeat refine ⟨by first|omega|decide|((repeat' apply And.intro) <;> first|omega|decide),?_⟩);refine hK _ ?_;clear hK K
   exact ⟨(),by simp only [zZ,zR,zP,zQ,zN,zS,zM,zX,zU,Nat.reduceEqDiff,reduceIte];try rfl,trivial⟩
 intro S' _ hE _
 skip
 refine yB [0,1,4,5,6,7,8,9,73] [0,1,56,64,72] hE ?_;clear hE;refine yC rfl ?_
 by_cases c5:tH=tA
 ·rw [decide_eq_true c5] at cHA;rw [if_pos c5] at hout ⊢;rw [List.length_singleton] at hout;refine zE ?_;refine zJ (fun K hK=>?_);simp (disch:=omega) only [push_cast,↓Int.cast_ofNat_Int,simprocAttr]
  refine cP qUo cHA (.cons (aT (yT _)) (.cons (aT (yT _)) .nil)) ?_;with_reducible refine aC ?_;simp (disch:=omega) only [push_cast,↓Int.cast_ofNat_Int,simprocAttr]
  refine hK _ ?_;clear hK K
  skip
  refine yD rfl ?_;refine zJ (fun K hK=>?_);simp (disch:=omega) only [push_cast,↓Int.cast_ofNat_Int,simprocAttr]
  refine qHf 776 [0,1] qS0 (qQb A H S out p 3 (by omega)) rfl (by decide) (by decide) (by simp only [push_cast,simprocAttr];try rfl) (by simp only [push_cast,simprocAttr];try rfl) ?_
  rintro _ _ ⟨rfl,rfl⟩;refine aC ?_;simp (disch:=omega) only [push_cast,↓Int.cast_ofNat_Int,simprocAttr];refine hK _ ?_;clear hK K;refine zB ?_;simp only [bT,dE,yH,yE,yK,yJ,fF,zS,zM,Nat.reduceEqDiff,reduceIte,reduceCtorEq];refine oL [0,1] (by decide) (by decide) (by simp only [push_cast,simprocAttr]) (by simp only [push_cast,simprocAttr]) (by simp only [push_cast,simprocAttr];rfl) (by simp only [push_cast,simprocAttr];rfl) ?_
  exact ⟨rfl,rfl⟩
 rw [decide_eq_false c5] at cHA;rw [if_neg c5] at hout ⊢
 by_cases c6:tS=tA
 ·rw [decide_eq_true c6] at cSA;rw [if_pos c6] at hout ⊢;rw [List.length_singleton] at hout;refine zE ?_;refine zJ (fun K hK=>?_);simp (disch:=omega) only [push_cast,↓Int.cast_ofNat_Int,simprocAttr]
  refine cP qUo cHA (.cons (aT (yT _)) (.cons (aT (yT _)) .nil)) ?_;with_reducible refine aC ?_;simp (disch:=omega) only [push_cast,↓Int.cast_ofNat_Int,simprocAttr]
  refine hK _ ?_;clear hK K
  skip
  refine yC rfl ?_;refine zE ?_;refine zJ (fun K hK=>?_);simp (disch:=omega) only [push_cast,↓Int.cast_ofNat_Int,simprocAttr]
  refine cP qUo cSA (.cons (aT (yT _)) (.cons (aT (yT _)) .nil)) ?_;with_reducible refine aC ?_;simp (disch:=omega) only [push_cast,↓Int.cast_ofNat_Int,simprocAttr]
  refine hK _ ?_;clear hK K
  skip
  refine yD rfl ?_;refine zJ (fun K hK=>?_);simp (disch:=omega) only [push_cast,↓Int.cast_ofNat_Int,simprocAttr]
  refine qHf 832 [0,1] qS0 (qQb A H S out p 2 (by omega)) rfl (by decide) (by decide) (by simp only [push_cast,simprocAttr];try rfl) (by simp only [push_cast,simprocAttr];try rfl) ?_
  rintro _ _ ⟨rfl,rfl⟩;refine aC ?_;simp (disch:=omega) only [push_cast,↓Int.cast_ofNat_Int,simprocAttr];refine hK _ ?_;clear hK K;refine zB ?_;simp only [bT,dE,yH,yE,yK,yJ,fF,zS,zM,Nat.reduceEqDiff,reduceIte,reduceCtorEq];refine oL [0,1] (by decide) (by decide) (by simp only [push_cast,simprocAttr]) (by simp only [push_cast,simprocAttr]) (by simp only [push_cast,simprocAttr];rfl) (by simp only [push_cast,simprocAttr];rfl) ?_
  exact ⟨rfl,rfl⟩
 rw [decide_eq_false c6] at cSA;rw [if_neg c6] at hout ⊢;rw [List.length_singleton] at hout
 have hmg:zLt mg:=hdef.resolve_left fun h=>h.elim c1 fun h=>h.elim c5 c6
 obtain ⟨n,cm⟩:=hmg (kA,dA) (kH,dH) (kS,dS) zA zH zS;obtain ⟨b,hb⟩:∃ b,mg (kA,dA) (kH,dH) (kS,dS)=b:=⟨_,rfl⟩;rw [hb] at cm ⊢;clear hb hmg hdef;refine zE ?_;refine zJ (fun K hK=>?_);simp (disch:=omega) only [push_cast,↓Int.cast_ofNat_Int,simprocAttr]
 refine cP qUo cHA (.cons (aT (yT _)) (.cons (aT (yT _)) .nil)) ?_;with_reducible refine aC ?_;simp (disch:=omega) only [push_cast,↓Int.cast_ofNat_Int,simprocAttr]
 refine hK _ ?_;clear hK K
 skip
 refine yC rfl ?_;refine zE ?_;refine zJ (fun K hK=>?_);simp (disch:=omega) only [push_cast,↓Int.cast_ofNat_Int,simprocAttr]
 refine cP qUo cSA (.cons (aT (yT _)) (.cons (aT (yT _)) .nil)) ?_;with_reducible refine aC ?_;simp (disch:=omega) only [push_cast,↓Int.cast_ofNat_Int,simprocAttr]
 refine hK _ ?_;clear hK K
 skip
 refine yC rfl ?_;refine zE ?_;refine zJ (fun K hK=>?_);simp (disch:=omega) only [push_cast,↓Int.cast_ofNat_Int,simprocAttr]
 refine hat 416 zVg cm (.cons (eY (kA,dA)) (.cons (eY (kH,dH)) (.cons (eY (kS,dS)) .nil))) ?_;rintro _ _ ⟨rfl,rfl⟩;with_reducible refine aC ?_;simp (disch:=omega) only [push_cast,↓Int.cast_ofNat_Int,simprocAttr]
 refine hK _ ?_;clear hK K;refine yB [0,1,11] [0,1] (by simp only [zZ,zR,zP,zQ,zN,zS,zM,zX,zU,Nat.reduceEqDiff,reduceIte];exact rfl) ?_
 refine zE ?_;refine zJ (fun K hK=>?_);simp (disch:=omega) only [push_cast,↓Int.cast_ofNat_Int,simprocAttr];refine hK _ ?_;clear hK K
 skip
 cases b with
|true =>
  refine yD rfl ?_;refine zJ (fun K hK=>?_);simp (disch:=omega) only [push_cast,↓Int.cast_ofNat_Int,simprocAttr]
  refine qHf 464 [0,1] qS0 (qQb A H S out p 4 (by omega)) rfl (by decide) (by decide) (by simp only [push_cast,simprocAttr];try rfl) (by simp only [push_cast,simprocAttr];try rfl) ?_
  rintro _ _ ⟨rfl,rfl⟩;refine aC ?_;simp (disch:=omega) only [push_cast,↓Int.cast_ofNat_Int,simprocAttr];refine hK _ ?_;clear hK K;refine zB ?_;simp only [bT,dE,yH,yE,yK,yJ,fF,zS,zM,Nat.reduceEqDiff,reduceIte,reduceCtorEq];refine oL [0,1] (by decide) (by decide) (by simp only [push_cast,simprocAttr]) (by simp only [push_cast,simprocAttr]) (by simp only [push_cast,simprocAttr];rfl) (by simp only [push_cast,simprocAttr];rfl) ?_
  exact ⟨rfl,rfl⟩
|false =>
  refine yC rfl ?_;refine zJ (fun K hK=>?_);simp (disch:=omega) only [push_cast,↓Int.cast_ofNat_Int,simprocAttr]
  refine qHf 488 [0,1] qS0 (qQb A H S out p 5 (by omega)) rfl (by decide) (by decide) (by simp only [push_cast,simprocAttr];try rfl) (by simp only [push_cast,simprocAttr];try rfl) ?_
  rintro _ _ ⟨rfl,rfl⟩;refine aC ?_;simp (disch:=omega) only [push_cast,↓Int.cast_ofNat_Int,simprocAttr];refine hK _ ?_;clear hK K;refine zB ?_;simp only [bT,dE,yH,yE,yK,yJ,fF,zS,zM,Nat.reduceEqDiff,reduceIte,reduceCtorEq];refine oL [0,1] (by decide) (by decide) (by simp only [push_cast,simprocAttr]) (by simp only [push_cast,simprocAttr]) (by simp only [push_cast,simprocAttr];rfl) (by simp only [push_cast,simprocAttr];rfl) ?_
  exact ⟨rfl,rfl⟩
end Go.Proofs.YtbdomkfdkfdfgaaGreatDoor
