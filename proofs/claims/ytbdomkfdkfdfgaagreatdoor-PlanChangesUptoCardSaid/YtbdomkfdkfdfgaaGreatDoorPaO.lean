/-
  plan.Changes: all paths at which anything has changed.
-/
import Derived.Test.YtbdomkfdkfdfgaaGreatDoorCmq
import Derived.Test.YtbdomkfdkfdfgaaGreatDoorTrV
import Derived.Test.YtbdomkfdkfdfgaaGreatDoorOne
import Derived.Test.YtbdomkfdkfdfgaaGreatDoorTrX
set_option linter.unusedSimpArgs false
set_option linter.unusedVariables false
set_option maxRecDepth 20000
namespace Go.Proofs.YtbdomkfdkfdfgaaGreatDoor
open Go Go.Eng Go.RowKit Go.Tr
theorem qDg {A B:Tri} (ha:∀ i,i < 3→(tr A i).length≤200) (hb:∀ i,i < 3→(tr B i).length≤200):∀ k,k≤3→(mL A B k).length≤k * 400
|0,_=>Nat.le_refl _
|k + 1,h=>by
  have:=qDg ha hb k (by omega)
  have:=ha k (by omega)
  have:=hb k (by omega)
  have:=qSu (tr A k) (tr B k)
  rw [mL,List.length_append];omega
theorem zF6 {l:List ByteArray} {i:Nat} {d:List FV} (h:i < (dD l).length):(cX (oW l)).getD i d=[FV.v (.string (dD l)[i])]:=by
 have h2:i < (oW l).length:=by have:=sV l;rw [xM];omega
 rw [qCa h2]
 congr 3
 simp only [oW];rw [List.getElem_append_left h]
set_option maxHeartbeats 16000000 in
theorem qZm (sp:Int) (A B:Tri) (ha:∀ i,i < 3→(tr A i).length≤200) (hb:∀ i,i < 3→(tr B i).length≤200) (ra:∀ i,i < 3→rise (tr A i)) (rb:∀ i,i < 3→rise (tr B i)) :
  HFun Tryz.prog 18 [.v (.int .i64 sp),qB9 A,qB9 B] (fun h st=>h=.own 0∧st=[(0,iX (((dD (pJ (mL A B 3))).filter (qDm A B)).map (oX sp A B)))]):=by
 refine fJ (N:=72) Tryz.func18 rfl Tryz.ntmps18 Tryz.results18 (by simp) ?_
 refine zE ?_;refine zJ (fun K hK=>?_);simp (disch:=omega) only [push_cast,↓Int.cast_ofNat_Int,simprocAttr];refine hK _ ?_;clear hK K
 refine zE ?_;refine zJ (fun K hK=>?_);simp (disch:=omega) only [push_cast,↓Int.cast_ofNat_Int,simprocAttr];refine hK _ ?_;clear hK K
 refine zE ?_;refine zE ?_;refine zJ (fun K hK=>?_);simp (disch:=omega) only [push_cast,↓Int.cast_ofNat_Int,simprocAttr];refine hK _ ?_;clear hK K
 refine zA ?_;refine zD ?_;refine cH (fun k:Nat=>⟨[(0,.v (.int .i64 sp)),(4,.ptr 32 3 0 0),(5,.ptr 40 3 0 0),(7,.own 112),(15,.v (.int .i64 k))],[(32,.bx true 41 (jK A)),(40,.bx true 41 (jK B)),(112,.sl true 9 1 (cX (mL A B k)))]⟩) (fun k=>k≤3) (fun k=>3 - k) [0,4,5,7,15] [32,40,112] 0 (by simp only [zZ,zR,zP,zQ,zN,zS,zM,zX,zU,Nat.reduceEqDiff,reduceIte];rfl) (Nat.zero_le _) ?_
 intro k hk
 by_cases hlt:k < 3
 ·have la:=ha k hlt
  have lb:=hb k hlt
  have lc:=qDg ha hb k hk
  have ld:=qSu (tr A k) (tr B k)
  have ta:=rL A hlt
  have tb:=rL B hlt
  have cd:=zRk (tr A k) (tr B k) (by omega)
  have hcat:mL A B (k + 1)=mL A B k ++ eN (tr A k) (tr B k):=rfl
  refine zE ?_;refine zJ (fun K hK=>?_);simp (disch:=omega) only [push_cast,↓Int.cast_ofNat_Int,simprocAttr];refine hK _ ?_;clear hK K
  refine zE ?_;refine yD rfl ?_;refine zC ?_;refine zE ?_;refine zD ?_;refine zE ?_;refine zJ (fun K hK=>?_);simp (disch:=omega) only [push_cast,↓Int.cast_ofNat_Int,simprocAttr];refine hK _ ?_;clear hK K
  refine zA ?_;refine pB 8 mixed (by kernel_rfl) (fun K hK K1 hK1=>?_);simp (disch:=omega) only [push_cast,↓Int.cast_ofNat_Int,simprocAttr,ta,tb]
  refine zCz zVm cd (.cons (aT (yT _)) (.cons (aT (yT _)) .nil)) ?_;with_reducible refine aC ?_;simp (disch:=omega) only [push_cast,↓Int.cast_ofNat_Int,simprocAttr,ta,tb]
  refine hK1 _ ?_;(try clear hK1 K1);with_reducible refine aC ?_;simp (disch:=omega) only [push_cast,↓Int.cast_ofNat_Int,simprocAttr,cY,rM,zGr]
  (repeat refine ⟨by first|omega|decide|((repeat' apply And.intro) <;> first|omega|decide),?_⟩)
  refine hK _ ?_;clear hK K;refine zB ?_;refine zA ?_;refine zJ (fun K hK=>?_);simp (disch:=omega) only [push_cast,↓Int.cast_ofNat_Int,simprocAttr];refine hK _ ?_;clear hK K
  refine zA ?_;exact ⟨k + 1,by simp only [zZ,zR,zP,zQ,zN,zS,zM,zX,zU,Nat.reduceEqDiff,reduceIte,hcat];try rfl,hlt,by omega⟩
 ·have hk3:k=3:=by omega
  subst hk3
  have lc:=qDg ha hb 3 (Nat.le_refl _)
  refine zE ?_;refine zJ (fun K hK=>?_);simp (disch:=omega) only [push_cast,↓Int.cast_ofNat_Int,simprocAttr];refine hK _ ?_;clear hK K
  refine zE ?_;refine yC rfl ?_;refine zT ?_;refine zG ?_;refine zG ?_;refine zH ?_;refine zE ?_;refine yB [0,4,5,7] [32,40,112] (by simp only [zZ,zR,zP,zQ,zN,zS,zM,zX,zU,Nat.reduceEqDiff,reduceIte];exact rfl) ?_
  refine zJ (fun K hK=>?_);simp (disch:=omega) only [push_cast,↓Int.cast_ofNat_Int,simprocAttr]
  refine zGt (by omega) rfl ?_
  with_reducible refine aC ?_;simp (disch:=omega) only [push_cast,↓Int.cast_ofNat_Int,simprocAttr]
  refine hK _ ?_;clear hK K
  have lS:=qD3 (mL A B 3)
  generalize pJ (mL A B 3)=S at *
  have lC:=sV S
  refine zE ?_;refine zJ (fun K hK=>?_);simp (disch:=omega) only [push_cast,↓Int.cast_ofNat_Int,simprocAttr];refine hK _ ?_;clear hK K
  refine zE ?_;refine zE ?_;refine zJ (fun K hK=>?_);simp (disch:=omega) only [push_cast,↓Int.cast_ofNat_Int,simprocAttr]
  refine zAn (by omega) rfl ?_
  with_reducible refine aC ?_;simp (disch:=omega) only [push_cast,↓Int.cast_ofNat_Int,simprocAttr]
  refine hK _ ?_;clear hK K;refine yB [0,4,5,9,32,33,34] [32,40,112,240] (by simp only [zZ,zR,zP,zQ,zN,zS,zM,zX,zU,Nat.reduceEqDiff,reduceIte];exact rfl) ?_
  generalize hF:qDm A B=f
  have hgC:∀ i (h:i < (dD S).length),(cX (oW S)).getD i []=[FV.v (.string (dD S)[i])]:=fun i h=>zF6 h
  have lZ:=xM S
  generalize oW S=Z at *
  generalize dD S=C at *
  refine zD ?_;refine cH (fun x:Nat=>⟨[(0,.v (.int .i64 sp)),(4,.ptr 32 3 0 0),(5,.ptr 40 3 0 0),(9,.own 240),(32,.vw 112 1 0 C.length),(33,.v (.int .i64 C.length)),(34,.v (.int .i64 x))],[(32,.bx true 41 (jK A)),(40,.bx true 41 (jK B)),(112,.sl true 9 1 (cX Z)),(240,iX (((C.take x).filter f).map (oX sp A B)))]⟩) (fun x=>x≤C.length) (fun x=>C.length - x) [0,4,5,9,32,33,34] [32,40,112,240] 0 (by simp only [zZ,zR,zP,zQ,zN,zS,zM,zX,zU,Nat.reduceEqDiff,reduceIte];rfl) (Nat.zero_le _) ?_
  clear hlt hk;intro i hi
  have hol:(((C.take i).filter f).map (oX sp A B)).length≤i:=by
   rw [List.length_map];refine Nat.le_trans (List.length_filter_le ..) ?_;rw [List.length_take];omega
  by_cases hlt:i < C.length
  ·have hg:=hgC i hlt
   have hnx:((C.take (i + 1)).filter f).map (oX sp A B)=((C.take i).filter f).map (oX sp A B) ++ if f C[i]=true then [oX sp A B C[i]] else []:=by
    rw [List.take_succ_eq_append_getElem hlt,List.filter_append,List.map_append]
    cases h:f C[i] <;> simp [h]
   generalize C[i]=p at *
   generalize ((C.take i).filter f).map (oX sp A B)=out at *
   refine zE ?_;refine zJ (fun K hK=>?_);simp (disch:=omega) only [push_cast,↓Int.cast_ofNat_Int,simprocAttr];refine hK _ ?_;clear hK K
   refine zE ?_;refine yD rfl ?_;refine zC ?_;refine zE ?_;refine zD ?_;refine zE ?_;refine zJ (fun K hK=>?_);simp (disch:=omega) only [push_cast,↓Int.cast_ofNat_Int,simprocAttr,cY,rM,hg];refine hK _ ?_;clear hK K
   refine zE ?_;refine zJ (fun K hK=>?_);simp (disch:=omega) only [push_cast,↓Int.cast_ofNat_Int,simprocAttr];refine hK _ ?_;clear hK K
   refine zE ?_;refine zE ?_;refine zJ (fun K hK=>?_);simp (disch:=omega) only [push_cast,↓Int.cast_ofNat_Int,simprocAttr];refine hK _ ?_;clear hK K
   refine zA ?_;refine zD ?_;refine cH (fun k:Nat=>⟨[(0,.v (.int .i64 sp)),(4,.ptr 32 3 0 0),(5,.ptr 40 3 0 0),(9,.own 240),(11,.v (.string p)),(12,.ptr 96 14 0 0),(32,.vw 112 1 0 C.length),(33,.v (.int .i64 C.length)),(34,.v (.int .i64 i)),(41,.v (.int .i64 k))],[(96,.bx true 50 (qFi sp A B p k)),(32,.bx true 41 (jK A)),(40,.bx true 41 (jK B)),(112,.sl true 9 1 (cX Z)),(240,iX out)]⟩) (fun k=>k≤3) (fun k=>3 - k) [0,4,5,9,11,12,32,33,34,41] [96,32,40,112,240] 0 (by simp only [zZ,zR,zP,zQ,zN,zS,zM,zX,zU,Nat.reduceEqDiff,reduceIte];try rfl) (Nat.zero_le _) ?_
   intro k hk
   by_cases hk3:k < 3
   ·rcases xX hk3 with rfl|rfl|rfl
    ·rw [qYi]
     have gA:=oQ A.1 p (ra 0 (by decide)) (by have:=ha 0 (by decide);simp only [tr] at this;omega)
     have gB:=oQ B.1 p (rb 0 (by decide)) (by have:=hb 0 (by decide);simp only [tr] at this;omega)
     refine zE ?_;refine zJ (fun K hK=>?_);simp (disch:=omega) only [push_cast,↓Int.cast_ofNat_Int,simprocAttr];refine hK _ ?_;clear hK K
     refine zE ?_;refine yD rfl ?_;refine zC ?_;refine zE ?_;refine zD ?_;refine zE ?_;refine zJ (fun K hK=>?_);simp (disch:=omega) only [push_cast,↓Int.cast_ofNat_Int,simprocAttr];refine hK _ ?_;clear hK K
     refine zA ?_;refine nP 16 [(14,none)] [[(96,.bx true 50 [.v (.string p),.v (.int .i64 sp),.v (.int .i64 0),.v (.string ByteArray.empty),.v (.int .i64 0),.v (.string ByteArray.empty),.v (.int .i64 0),.v (.string ByteArray.empty),.v (.int .i64 0),.v (.string ByteArray.empty),.v (.int .i64 0),.v (.string ByteArray.empty),.v (.int .i64 0),.v (.string ByteArray.empty)]),(32,.bx true 41 (jK A)),(40,.bx true 41 (jK B)),(112,.sl true 9 1 (cX Z)),(240,iX out)],[(96,.bx true 50 [.v (.string p),.v (.int .i64 sp),.v (.int .i64 (aF A.1 p).1),.v (.string (aF A.1 p).2),.v (.int .i64 0),.v (.string ByteArray.empty),.v (.int .i64 0),.v (.string ByteArray.empty),.v (.int .i64 0),.v (.string ByteArray.empty),.v (.int .i64 0),.v (.string ByteArray.empty),.v (.int .i64 0),.v (.string ByteArray.empty)]),(32,.bx true 41 (jK A)),(40,.bx true 41 (jK B)),(112,.sl true 9 1 (cX Z)),(240,iX out)]] [(4,0,1),(9,0,1)] mixed (by kernel_rfl) (by kernel_rfl) rfl (fun K hK K1 hK1=>?_);simp (disch:=omega) only [push_cast,↓Int.cast_ofNat_Int,simprocAttr,bZ,bP,cT,bY,dR,iS,bX,bN,aN,aU,bC,aP,aQ,dT,cA,cG,cW,cV,bQ,aV,bD,dW,dV,dU,cB,cC,cF,cE,dX,bV,cD,cU,List.tail_cons,List.take_nil,List.drop_nil]
     refine sN uW gA (.cons (aT (yT _)) (.cons (.v _) .nil)) ?_;with_reducible refine aC ?_;simp (disch:=omega) only [push_cast,↓Int.cast_ofNat_Int,simprocAttr,bZ,bP,cT,bY,dR,iS,bX,bN,aN,aU,bC,aP,aQ,dT,cA,cG,cW,cV,bQ,aV,bD,dW,dV,dU,cB,cC,cF,cE,dX,bV,cD,cU,List.tail_cons,List.take_nil,List.drop_nil]
     refine sN uW gB (.cons (aT (yT _)) (.cons (.v _) .nil)) ?_;with_reducible refine aC ?_;simp (disch:=omega) only [push_cast,↓Int.cast_ofNat_Int,simprocAttr,bZ,bP,cT,bY,dR,iS,bX,bN,aN,aU,bC,aP,aQ,dT,cA,cG,cW,cV,bQ,aV,bD,dW,dV,dU,cB,cC,cF,cE,dX,bV,cD,cU,List.tail_cons,List.take_nil,List.drop_nil]
     refine hK1 _ ?_;(try clear hK1 K1);with_reducible refine aC ?_;simp (disch:=omega) only [push_cast,↓Int.cast_ofNat_Int,simprocAttr]
     refine hK _ ?_;clear hK K;refine zB ?_;refine zA ?_;refine zJ (fun K hK=>?_);simp (disch:=omega) only [push_cast,↓Int.cast_ofNat_Int,simprocAttr];refine hK _ ?_;clear hK K
     refine zA ?_;exact ⟨1,by simp only [zZ,zR,zP,zQ,zN,zS,zM,zX,zU,Nat.reduceEqDiff,reduceIte,qDq];try rfl,by decide,by decide⟩
    ·rw [qDq]
     have gA:=oQ A.2.1 p (ra 1 (by decide)) (by have:=ha 1 (by decide);simp only [tr] at this;omega)
     have gB:=oQ B.2.1 p (rb 1 (by decide)) (by have:=hb 1 (by decide);simp only [tr] at this;omega)
     refine zE ?_;refine zJ (fun K hK=>?_);simp (disch:=omega) only [push_cast,↓Int.cast_ofNat_Int,simprocAttr];refine hK _ ?_;clear hK K
     refine zE ?_;refine yD rfl ?_;refine zC ?_;refine zE ?_;refine zD ?_;refine zE ?_;refine zJ (fun K hK=>?_);simp (disch:=omega) only [push_cast,↓Int.cast_ofNat_Int,simprocAttr];refine hK _ ?_;clear hK K
     refine zA ?_;refine nP 16 [(14,none)] [[(96,.bx true 50 [.v (.string p),.v (.int .i64 sp),.v (.int .i64 (aF A.1 p).1),.v (.string (aF A.1 p).2),.v (.int .i64 0),.v (.string ByteArray.empty),.v (.int .i64 0),.v (.string ByteArray.empty),.v (.int .i64 (aF B.1 p).1),.v (.string (aF B.1 p).2),.v (.int .i64 0),.v (.string ByteArray.empty),.v (.int .i64 0),.v (.string ByteArray.empty)]),(32,.bx true 41 (jK A)),(40,.bx true 41 (jK B)),(112,.sl true 9 1 (cX Z)),(240,iX out)],[(96,.bx true 50 [.v (.string p),.v (.int .i64 sp),.v (.int .i64 (aF A.1 p).1),.v (.string (aF A.1 p).2),.v (.int .i64 (aF A.2.1 p).1),.v (.string (aF A.2.1 p).2),.v (.int .i64 0),.v (.string ByteArray.empty),.v (.int .i64 (aF B.1 p).1),.v (.string (aF B.1 p).2),.v (.int .i64 0),.v (.string ByteArray.empty),.v (.int .i64 0),.v (.string ByteArray.empty)]),(32,.bx true 41 (jK A)),(40,.bx true 41 (jK B)),(112,.sl true 9 1 (cX Z)),(240,iX out)]] [(4,0,1),(9,0,1)] mixed (by kernel_rfl) (by kernel_rfl) rfl (fun K hK K1 hK1=>?_);simp (disch:=omega) only [push_cast,↓Int.cast_ofNat_Int,simprocAttr,bZ,bP,cT,bY,dR,iS,bX,bN,aN,aU,bC,aP,aQ,dT,cA,cG,cW,cV,bQ,aV,bD,dW,dV,dU,cB,cC,cF,cE,dX,bV,cD,cU,List.tail_cons,List.take_nil,List.drop_nil]
     refine sN uW gA (.cons (aT (yT _)) (.cons (.v _) .nil)) ?_;with_reducible refine aC ?_;simp (disch:=omega) only [push_cast,↓Int.cast_ofNat_Int,simprocAttr,bZ,bP,cT,bY,dR,iS,bX,bN,aN,aU,bC,aP,aQ,dT,cA,cG,cW,cV,bQ,aV,bD,dW,dV,dU,cB,cC,cF,cE,dX,bV,cD,cU,List.tail_cons,List.take_nil,List.drop_nil]
     refine sN uW gB (.cons (aT (yT _)) (.cons (.v _) .nil)) ?_;with_reducible refine aC ?_;simp (disch:=omega) only [push_cast,↓Int.cast_ofNat_Int,simprocAttr,bZ,bP,cT,bY,dR,iS,bX,bN,aN,aU,bC,aP,aQ,dT,cA,cG,cW,cV,bQ,aV,bD,dW,dV,dU,cB,cC,cF,cE,dX,bV,cD,cU,List.tail_cons,List.take_nil,List.drop_nil]
     refine hK1 _ ?_;(try clear hK1 K1);with_reducible refine aC ?_;simp (disch:=omega) only [push_cast,↓Int.cast_ofNat_Int,simprocAttr]
     refine hK _ ?_;clear hK K;refine zB ?_;refine zA ?_;refine zJ (fun K hK=>?_);simp (disch:=omega) only [push_cast,↓Int.cast_ofNat_Int,simprocAttr];refine hK _ ?_;clear hK K
     refine zA ?_;exact ⟨2,by simp only [zZ,zR,zP,zQ,zN,zS,zM,zX,zU,Nat.reduceEqDiff,reduceIte,qDp];try rfl,by decide,by decide⟩
    ·rw [qDp]
     have gA:=oQ A.2.2 p (ra 2 (by decide)) (by have:=ha 2 (by decide);simp only [tr] at this;omega)
     have gB:=oQ B.2.2 p (rb 2 (by decide)) (by have:=hb 2 (by decide);simp only [tr] at this;omega)
     refine zE ?_;refine zJ (fun K hK=>?_);simp (disch:=omega) only [push_cast,↓Int.cast_ofNat_Int,simprocAttr];refine hK _ ?_;clear hK K
     refine zE ?_;refine yD rfl ?_;refine zC ?_;refine zE ?_;refine zD ?_;refine zE ?_;refine zJ (fun K hK=>?_);simp (disch:=omega) only [push_cast,↓Int.cast_ofNat_Int,simprocAttr];refine hK _ ?_;clear hK K
     refine zA ?_;refine nP 16 [(14,none)] [[(96,.bx true 50 [.v (.string p),.v (.int .i64 sp),.v (.int .i64 (aF A.1 p).1),.v (.string (aF A.1 p).2),.v (.int .i64 (aF A.2.1 p).1),.v (.string (aF A.2.1 p).2),.v (.int .i64 0),.v (.string ByteArray.empty),.v (.int .i64 (aF B.1 p).1),.v (.string (aF B.1 p).2),.v (.int .i64 (aF B.2.1 p).1),.v (.string (aF B.2.1 p).2),.v (.int .i64 0),.v (.string ByteArray.empty)]),(32,.bx true 41 (jK A)),(40,.bx true 41 (jK B)),(112,.sl true 9 1 (cX Z)),(240,iX out)],[(96,.bx true 50 [.v (.string p),.v (.int .i64 sp),.v (.int .i64 (aF A.1 p).1),.v (.string (aF A.1 p).2),.v (.int .i64 (aF A.2.1 p).1),.v (.string (aF A.2.1 p).2),.v (.int .i64 (aF A.2.2 p).1),.v (.string (aF A.2.2 p).2),.v (.int .i64 (aF B.1 p).1),.v (.string (aF B.1 p).2),.v (.int .i64 (aF B.2.1 p).1),.v (.string (aF B.2.1 p).2),.v (.int .i64 0),.v (.string ByteArray.empty)]),(32,.bx true 41 (jK A)),(40,.bx true 41 (jK B)),(112,.sl true 9 1 (cX Z)),(240,iX out)]] [(4,0,1),(9,0,1)] mixed (by kernel_rfl) (by kernel_rfl) rfl (fun K hK K1 hK1=>?_);simp (disch:=omega) only [push_cast,↓Int.cast_ofNat_Int,simprocAttr,bZ,bP,cT,bY,dR,iS,bX,bN,aN,aU,bC,aP,aQ,dT,cA,cG,cW,cV,bQ,aV,bD,dW,dV,dU,cB,cC,cF,cE,dX,bV,cD,cU,List.tail_cons,List.take_nil,List.drop_nil]
     refine sN uW gA (.cons (aT (yT _)) (.cons (.v _) .nil)) ?_;with_reducible refine aC ?_;simp (disch:=omega) only [push_cast,↓Int.cast_ofNat_Int,simprocAttr,bZ,bP,cT,bY,dR,iS,bX,bN,aN,aU,bC,aP,aQ,dT,cA,cG,cW,cV,bQ,aV,bD,dW,dV,dU,cB,cC,cF,cE,dX,bV,cD,cU,List.tail_cons,List.take_nil,List.drop_nil]
     refine sN uW gB (.cons (aT (yT _)) (.cons (.v _) .nil)) ?_;with_reducible refine aC ?_;simp (disch:=omega) only [push_cast,↓Int.cast_ofNat_Int,simprocAttr,bZ,bP,cT,bY,dR,iS,bX,bN,aN,aU,bC,aP,aQ,dT,cA,cG,cW,cV,bQ,aV,bD,dW,dV,dU,cB,cC,cF,cE,dX,bV,cD,cU,List.tail_cons,List.take_nil,List.drop_nil]
     refine hK1 _ ?_;(try clear hK1 K1);with_reducible refine aC ?_;simp (disch:=omega) only [push_cast,↓Int.cast_ofNat_Int,simprocAttr]
     refine hK _ ?_;clear hK K;refine zB ?_;refine zA ?_;refine zJ (fun K hK=>?_);simp (disch:=omega) only [push_cast,↓Int.cast_ofNat_Int,simprocAttr];refine hK _ ?_;clear hK K
     refine zA ?_;exact ⟨3,by simp only [zZ,zR,zP,zQ,zN,zS,zM,zX,zU,Nat.reduceEqDiff,reduceIte,qDo];try rfl,by decide,by decide⟩
   ·have hk3':k=3:=by omega
    subst hk3';rw [qDo]
    have hfp:f p=!decide (((aF A.1 p).1,(aF A.1 p).2)=((aF B.1 p).1,(aF B.1 p).2)∧((aF A.2.1 p).1,(aF A.2.1 p).2)=((aF B.2.1 p).1,(aF B.2.1 p).2)∧((aF A.2.2 p).1,(aF A.2.2 p).2)=((aF B.2.2 p).1,(aF B.2.2 p).2)):=by rw [← hF];rfl
    refine zE ?_;refine zJ (fun K hK=>?_);simp (disch:=omega) only [push_cast,↓Int.cast_ofNat_Int,simprocAttr];refine hK _ ?_;clear hK K
    refine zE ?_;refine yC rfl ?_;refine zT ?_;refine zG ?_;refine zG ?_;refine zH ?_;refine zE ?_
    cases hfv:f p with
   |true =>
     rw [hfv] at hfp hnx;refine zJ (fun K hK=>?_);simp (disch:=omega) only [push_cast,↓Int.cast_ofNat_Int,simprocAttr]
     refine ⟨_,zM9 _ _ _ _ _ _ _ _ _ _ _ _,?_⟩;with_reducible refine aC ?_;simp (disch:=omega) only [push_cast,↓Int.cast_ofNat_Int,simprocAttr,hfp.symm]
     refine hK _ ?_;clear hK K;refine yD rfl ?_;refine zJ (fun K hK=>?_);simp (disch:=omega) only [push_cast,↓Int.cast_ofNat_Int,simprocAttr,kL,qS1];(repeat refine ⟨by first|omega|decide|((repeat' apply And.intro) <;> first|omega|decide),?_⟩);refine hK _ ?_;clear hK K
     refine zB ?_;refine zA ?_;refine zJ (fun K hK=>?_);simp (disch:=omega) only [push_cast,↓Int.cast_ofNat_Int,simprocAttr];refine hK _ ?_;clear hK K
     refine zA ?_;exact ⟨i + 1,by simp only [zZ,zR,zP,zQ,zN,zS,zM,zX,zU,Nat.reduceEqDiff,reduceIte];rw [hnx];rfl,hlt,by omega⟩
   |false =>
     rw [hfv] at hfp hnx;refine zJ (fun K hK=>?_);simp (disch:=omega) only [push_cast,↓Int.cast_ofNat_Int,simprocAttr]
     refine ⟨_,zM9 _ _ _ _ _ _ _ _ _ _ _ _,?_⟩;with_reducible refine aC ?_;simp (disch:=omega) only [push_cast,↓Int.cast_ofNat_Int,simprocAttr,hfp.symm]
     refine hK _ ?_;clear hK K;refine yC rfl ?_;refine zC ?_;refine zB ?_;refine zA ?_;refine zJ (fun K hK=>?_);simp (disch:=omega) only [push_cast,↓Int.cast_ofNat_Int,simprocAttr];refine hK _ ?_;clear hK K
     refine zA ?_;exact ⟨i + 1,by simp only [zZ,zR,zP,zQ,zN,zS,zM,zX,zU,Nat.reduceEqDiff,reduceIte];rw [hnx];simp,hlt,by omega⟩
  ·have hie:i=C.length:=by omega
   subst hie;rw [List.take_length];refine zE ?_;refine zJ (fun K hK=>?_);simp (disch:=omega) only [push_cast,↓Int.cast_ofNat_Int,simprocAttr];refine hK _ ?_;clear hK K
   refine zE ?_;refine yC rfl ?_;refine zT ?_;refine zG ?_;refine zG ?_;refine zH ?_;refine zE ?_;refine zJ (fun K hK=>?_);simp (disch:=omega) only [push_cast,↓Int.cast_ofNat_Int,simprocAttr];refine hK _ ?_;clear hK K
   refine zA ?_;refine zW ?_;simp only [yA,yM,yH,yE,aA,aD,yK,yJ,zS,zM,Nat.reduceEqDiff,reduceIte,reduceCtorEq];exact rC rfl (qS2 _) ⟨rfl,rfl⟩
end Go.Proofs.YtbdomkfdkfdfgaaGreatDoor
