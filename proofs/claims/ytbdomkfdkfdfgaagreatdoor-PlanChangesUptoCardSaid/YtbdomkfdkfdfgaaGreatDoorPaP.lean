/-
  The law PlanChanges.
-/
import Derived.Test.YtbdomkfdkfdfgaaGreatDoorSrs
import Derived.Test.YtbdomkfdkfdfgaaGreatDoorUnB
import Derived.Test.YtbdomkfdkfdfgaaGreatDoorPaO
import Derived.Test.YtbdomkfdkfdfgaaGreatDoorPaE
set_option linter.unusedVariables false
set_option linter.unusedSimpArgs false
section
namespace Go.Proofs.YtbdomkfdkfdfgaaGreatDoor
open Go Go.Eng Go.RowKit Go.ChangeShapes Go.WideShapes Go.ChangeAt Go.Tr
def fwT (T:Tri):Nat:=fw (.lst false (aL T.1)) + (fw (.lst false (aL T.2.1)) + (fw (.lst false (aL T.2.2)) + 0))
theorem qVt {H:Type} {enc:TypeId × Value→H} {P:Program} {w W:World} {n0 n base b:Nat} {R:Reach} {BK:DataW H→Nat} (hB:Bulk BK) {t:TypeId} {k:Nat} {e:TypeId} {v:Value} {d:DataW H} {p:List MemPlace}
  (hs:qJp P n t=some [.sl b [.str,.int .i64,.str],.sl b [.str,.int .i64,.str],.sl b [.str,.int .i64,.str]]) (hu:P.underlying t=some (.array k e)) (hv:Value.okWide P W R base t v) (h:DataW.Trod enc P w 0 (fun _=>true) true t v d p) (hw:∀ m ∈ d.weights P t,m≤reachBytes) :
  ∃ T:Tri,RepH w (fun _=>False) n0 (fun _=>undef) v (qB9 T)∧fwT T≤BK d:=by
 unfold Value.okWide at hv;rw [hu] at hv;obtain ⟨cs,rfl,-,-⟩:=hv;obtain ⟨fuel,hf⟩:=h;obtain ⟨gs,h3,h4⟩:=rK (n0:=n0) hB n t _ fuel _ _ hs hf hw
 have e:(Value.agg cs).cells.toList=cs.toList:=rfl
 rw [e] at h3;obtain ⟨l⟩:=cs;dsimp only at h3
 cases h3 with
|cons a0 o0 c0 r =>
 cases r with
|cons a1 o1 c1 r =>
 cases r with
|cons a2 o2 c2 r =>
 cases r
 obtain ⟨t0,rfl,-⟩:=qNe c0;obtain ⟨t1,rfl,-⟩:=qNe c1;obtain ⟨t2,rfl,-⟩:=qNe c2;refine ⟨(t0,t1,t2),RepH.agg (hs:=jK (t0,t1,t2)) rfl (fun j hj=>?_) (fun j h1 h2=>?_),?_⟩
 ·match j,hj with
 |0,_=>exact o0
 |1,_=>exact o1
 |2,_=>exact o2
 ·match j,h1 with
 |0,_=>exact RepF.toH a0
 |1,_=>exact RepF.toH a1
 |2,_=>exact RepF.toH a2
 ·simpa [fws,fwT] using h4
end Go.Proofs.YtbdomkfdkfdfgaaGreatDoor
end
section
set_option maxRecDepth 20000
namespace Go.Proofs.YtbdomkfdkfdfgaaGreatDoor
open Go Go.Eng Go.RowKit Go.Tr Go.Rc
set_option maxHeartbeats 16000000 in
theorem qPk (sp:Int) (A B:Tri) (ha:∀ i,i < 3→(tr A i).length≤1048576) (hb:∀ i,i < 3→(tr B i).length≤1048576) (sa:∀ i,i < 3→∀ e ∈ tr A i,e.1.size≤1048576) (sb:∀ i,i < 3→∀ e ∈ tr B i,e.1.size≤1048576) :
  HFun Tryz.prog 4 [.v (.int .i64 sp),qB9 A,qB9 B] (fun h st=>h=.v (.bool true)):=by
 refine fJ (N:=62) Tryz.func4 rfl Tryz.ntmps4 Tryz.results4 (by simp) ?_
 refine zE ?_;refine zJ (fun K hK=>?_);simp (disch:=omega) only [push_cast,↓Int.cast_ofNat_Int,simprocAttr];refine hK _ ?_;clear hK K
 refine zE ?_;refine zE ?_;refine zJ (fun K hK=>?_);simp (disch:=omega) only [push_cast,↓Int.cast_ofNat_Int,simprocAttr];refine hK _ ?_;clear hK K
 refine zA ?_;refine zD ?_;refine cH (fun k:Nat=>⟨[(0,.v (.int .i64 sp)),(4,.ptr 32 3 0 0),(5,.ptr 40 3 0 0),(7,.v (.int .i64 k))],[(32,.bx true 41 (jK A)),(40,.bx true 41 (jK B))]⟩) (fun k=>k≤3∧∀ j,j < k→cQ (tr A j)=0∧cQ (tr B j)=0) (fun k=>3 - k) [0,4,5,7] [32,40] 0 (by simp only [zZ,zR,zP,zQ,zN,zS,zM,zX,zU,Nat.reduceEqDiff,reduceIte];rfl) ⟨Nat.zero_le _,fun j hj=>absurd hj (Nat.not_lt_zero _)⟩ ?_
 rintro k ⟨hk,hck⟩
 by_cases hlt:k < 3
 ·have ta:=rL A hlt
  have tb:=rL B hlt
  have ca:=qVh (tr A k) (by have:=ha k hlt;omega) (sa k hlt)
  have cb:=qVh (tr B k) (by have:=hb k hlt;omega) (sb k hlt)
  refine zE ?_;refine zE ?_;refine zJ (fun K hK=>?_);simp (disch:=omega) only [push_cast,↓Int.cast_ofNat_Int,simprocAttr];refine hK _ ?_;clear hK K
  refine zA ?_;refine yD rfl ?_;refine zC ?_;refine zE ?_
  by_cases h1:cQ (tr A k)=0
  ·have d1:decide (cQ (tr A k)=0)=true:=decide_eq_true h1
   by_cases h2:cQ (tr B k)=0
   ·have d2:decide (cQ (tr B k)=0)=true:=decide_eq_true h2
    rw [h1] at ca;rw [h2] at cb;refine zD ?_;refine zE ?_;refine zJ (fun K hK=>?_);simp (disch:=omega) only [push_cast,↓Int.cast_ofNat_Int,simprocAttr,ta,tb]
    refine cP zK8 ca (.cons (aT (yT _)) .nil) ?_;with_reducible refine aC ?_;simp (disch:=omega) only [push_cast,↓Int.cast_ofNat_Int,simprocAttr,ta,tb]
    refine cP zK8 cb (.cons (aT (yT _)) .nil) ?_;with_reducible refine aC ?_;simp (disch:=omega) only [push_cast,↓Int.cast_ofNat_Int,simprocAttr,ta,tb]
    (repeat refine ⟨by first|omega|decide|((repeat' apply And.intro) <;> first|omega|decide),?_⟩)
    refine hK _ ?_;clear hK K;refine yC rfl ?_;refine zC ?_;refine zB ?_;refine zA ?_;refine zJ (fun K hK=>?_);simp (disch:=omega) only [push_cast,↓Int.cast_ofNat_Int,simprocAttr];refine hK _ ?_;clear hK K
    refine zA ?_;exact ⟨k + 1,by simp only [zZ,zR,zP,zQ,zN,zS,zM,zX,zU,Nat.reduceEqDiff,reduceIte];rfl,⟨hlt,fun j hj=>by
     by_cases e:j=k
     ·subst e;exact ⟨h1,h2⟩
     ·exact hck j (by omega)⟩,by omega⟩
   ·have d2:decide (cQ (tr B k)=0)=false:=decide_eq_false h2
    rw [h1] at ca;generalize cQ (tr B k)=eb at *
    refine zD ?_;refine zE ?_;refine zJ (fun K hK=>?_);simp (disch:=omega) only [push_cast,↓Int.cast_ofNat_Int,simprocAttr,ta,tb]
    refine cP zK8 ca (.cons (aT (yT _)) .nil) ?_;with_reducible refine aC ?_;simp (disch:=omega) only [push_cast,↓Int.cast_ofNat_Int,simprocAttr,ta,tb]
    refine cP zK8 cb (.cons (aT (yT _)) .nil) ?_;with_reducible refine aC ?_;simp (disch:=omega) only [push_cast,↓Int.cast_ofNat_Int,simprocAttr,ta,tb,d2]
    (repeat refine ⟨by first|omega|decide|((repeat' apply And.intro) <;> first|omega|decide),?_⟩)
    refine hK _ ?_;clear hK K;refine yD rfl ?_;refine zE ?_;refine zJ (fun K hK=>?_);simp (disch:=omega) only [push_cast,↓Int.cast_ofNat_Int,simprocAttr]
    refine cP cl8 qKg .nil ?_;with_reducible refine aC ?_;simp (disch:=omega) only [push_cast,↓Int.cast_ofNat_Int,simprocAttr]
    refine hK _ ?_;clear hK K;refine zA ?_;refine zW ?_;refine zL ?_;refine zK ?_;refine zK ?_;refine zL ?_;refine zK ?_;simp only [yA,yM,yH,yE,aA,aD,yK,yJ,zS,zM,Nat.reduceEqDiff,reduceIte,reduceCtorEq];exact aM rfl
  ·have d1:decide (cQ (tr A k)=0)=false:=decide_eq_false h1
   generalize cQ (tr A k)=ea at *
   refine zD ?_;refine zE ?_;refine zJ (fun K hK=>?_);simp (disch:=omega) only [push_cast,↓Int.cast_ofNat_Int,simprocAttr,ta,tb]
   refine cP zK8 ca (.cons (aT (yT _)) .nil) ?_;with_reducible refine aC ?_;simp (disch:=omega) only [push_cast,↓Int.cast_ofNat_Int,simprocAttr,ta,tb,d1]
   (repeat refine ⟨by first|omega|decide|((repeat' apply And.intro) <;> first|omega|decide),?_⟩)
   refine hK _ ?_;clear hK K;refine yD rfl ?_;refine zE ?_;refine zJ (fun K hK=>?_);simp (disch:=omega) only [push_cast,↓Int.cast_ofNat_Int,simprocAttr]
   refine cP cl8 qKg .nil ?_;with_reducible refine aC ?_;simp (disch:=omega) only [push_cast,↓Int.cast_ofNat_Int,simprocAttr]
   refine hK _ ?_;clear hK K;refine zA ?_;refine zW ?_;refine zL ?_;refine zK ?_;refine zK ?_;refine zL ?_;refine zK ?_;simp only [yA,yM,yH,yE,aA,aD,yK,yJ,zS,zM,Nat.reduceEqDiff,reduceIte,reduceCtorEq];exact aM rfl
 ·have hk3:k=3:=by omega
  subst hk3
  have tA:∀ i,i < 3→Tree (tr A i):=fun i hi=>(qH3 _).1 (hck i hi).1
  have tB:∀ i,i < 3→Tree (tr B i):=fun i hi=>(qH3 _).1 (hck i hi).2
  have cp:=qZm sp A B (fun i hi=>(tA i hi).len) (fun i hi=>(tB i hi).len) (fun i hi=>(tA i hi).ri) (fun i hi=>(tB i hi).ri)
  have cr:=zF8 sp A B (fun i hi=>(tA i hi).len) (fun i hi=>(tB i hi).len)
  rw [qCs (fun i hi=>(tA i hi).okT) (fun i hi=>(tB i hi).okT) sp] at cp
  have hl:(sX sp A B).length≤1048576:=by
   rw [← qCs (fun i hi=>(tA i hi).okT) (fun i hi=>(tB i hi).okT) sp,List.length_map]
   have h1:=List.length_filter_le (qDm A B) (dD (pJ (mL A B 3)))
   have h2:=sV (pJ (mL A B 3))
   have h3:=qD3 (mL A B 3)
   have h4:=qDg (fun i hi=>(tA i hi).len) (fun i hi=>(tB i hi).len) 3 (Nat.le_refl _)
   omega
  generalize sX sp A B=L at *
  have cs:=zMe L L (by omega) (by omega)
  rw [decide_eq_true rfl] at cs
  have lA:∀ st:aB,Lend st (qB9 A) (qB9 A):=fun st=>qV3 (aT (yT _)) (aT (yT _)) (aT (yT _))
  have lB:∀ st:aB,Lend st (qB9 B) (qB9 B):=fun st=>qV3 (aT (yT _)) (aT (yT _)) (aT (yT _))
  refine zE ?_;refine zE ?_;refine zJ (fun K hK=>?_);simp (disch:=omega) only [push_cast,↓Int.cast_ofNat_Int,simprocAttr];refine hK _ ?_;clear hK K
  refine zA ?_;refine yC rfl ?_;refine zT ?_;refine zG ?_;refine zG ?_;refine zH ?_;refine zE ?_;refine zJ (fun K hK=>?_);simp (disch:=omega) only [push_cast,↓Int.cast_ofNat_Int,simprocAttr]
  refine hat 256 zTx cp (.cons (.v _) (.cons (lA _) (.cons (lB _) .nil))) ?_;rintro _ _ ⟨rfl,rfl⟩;with_reducible refine aC ?_;simp (disch:=omega) only [push_cast,↓Int.cast_ofNat_Int,simprocAttr]
  refine hK _ ?_;clear hK K;refine yB [0,4,5,8] [32,40,256] (by simp only [zZ,zR,zP,zQ,zN,zS,zM,zX,zU,Nat.reduceEqDiff,reduceIte];exact rfl) ?_
  refine zE ?_;refine zJ (fun K hK=>?_);simp (disch:=omega) only [push_cast,↓Int.cast_ofNat_Int,simprocAttr]
  refine hat 288 zTx cp (.cons (.v _) (.cons (lA _) (.cons (lB _) .nil))) ?_;rintro _ _ ⟨rfl,rfl⟩;with_reducible refine aC ?_;simp (disch:=omega) only [push_cast,↓Int.cast_ofNat_Int,simprocAttr]
  refine hK _ ?_;clear hK K;refine yB [0,4,5,8,9] [32,40,256,288] (by simp only [zZ,zR,zP,zQ,zN,zS,zM,zX,zU,Nat.reduceEqDiff,reduceIte];exact rfl) ?_
  refine zE ?_;refine zJ (fun K hK=>?_);simp (disch:=omega) only [push_cast,↓Int.cast_ofNat_Int,simprocAttr]
  refine hat 320 zVq cr (.cons (.v _) (.cons (lA _) (.cons (lB _) .nil))) ?_;rintro _ _ ⟨rfl,rfl⟩;with_reducible refine aC ?_;simp (disch:=omega) only [push_cast,↓Int.cast_ofNat_Int,simprocAttr]
  refine hK _ ?_;clear hK K;refine yB [8,9,10] [256,288,320] (by simp only [zZ,zR,zP,zQ,zN,zS,zM,zX,zU,Nat.reduceEqDiff,reduceIte];exact rfl) ?_
  refine zE ?_;refine zE ?_;refine zJ (fun K hK=>?_);simp (disch:=omega) only [push_cast,↓Int.cast_ofNat_Int,simprocAttr]
  refine cP cl8 qKg .nil ?_;with_reducible refine aC ?_;simp (disch:=omega) only [push_cast,↓Int.cast_ofNat_Int,simprocAttr]
  refine cP zTw cs (.cons (pX (qHt _) rfl) (.cons (pX (qHt _) rfl) .nil)) ?_;with_reducible refine aC ?_;simp (disch:=omega) only [push_cast,↓Int.cast_ofNat_Int,simprocAttr]
  refine hK _ ?_;clear hK K;refine yC rfl ?_;refine zC ?_;refine zE ?_;refine zE ?_;refine zJ (fun K hK=>?_);simp (disch:=omega) only [push_cast,↓Int.cast_ofNat_Int,simprocAttr];refine hK _ ?_;clear hK K
  refine zA ?_;refine zD ?_;refine cH (fun q:Nat × List Chg=>⟨[(8,.own 256),(9,.own 288),(10,.own 320),(11,.v (.int .i64 q.1))],[(256,iX q.2),(288,iX L),(320,iX L)]⟩) (fun q=>q.1≤L.length∧q.2.length=L.length) (fun q=>L.length - q.1) [8,9,10,11] [256,288,320] (0,L) (by simp only [zZ,zR,zP,zQ,zN,zS,zM,zX,zU,Nat.reduceEqDiff,reduceIte];rfl) ⟨Nat.zero_le _,rfl⟩ ?_
  clear hk hlt hck;rintro ⟨i,X⟩ ⟨hi,hX⟩;dsimp only at hi hX ⊢
  by_cases hlt:i < L.length
  ·have hlx:i < X.length:=by omega
   have hg:=@qDn X i [] hlx
   refine zE ?_;refine zE ?_;refine zJ (fun K hK=>?_);simp (disch:=omega) only [push_cast,↓Int.cast_ofNat_Int,simprocAttr,kL];refine hK _ ?_;clear hK K
   refine zA ?_;refine yD rfl ?_;refine zC ?_;refine zE ?_
   have e3:(chs X).set i [FV.v (.string { data:=#[120] }),.v (.int .i64 0),.v (.int .i64 0),.v (.string ByteArray.empty),.v (.int .i64 0),.v (.string ByteArray.empty),.v (.int .i64 0),.v (.string ByteArray.empty),.v (.int .i64 0),.v (.string ByteArray.empty),.v (.int .i64 0),.v (.string ByteArray.empty),.v (.int .i64 0),.v (.string ByteArray.empty)]=chs (X.set i ⟨{ data:=#[120] },0,(0,ByteArray.empty),(0,ByteArray.empty),(0,ByteArray.empty),(0,ByteArray.empty),(0,ByteArray.empty),(0,ByteArray.empty)⟩):=by simp [chs,zLd,List.map_set]
   refine zD ?_;refine zJ (fun K hK=>?_);simp (disch:=omega) only [push_cast,↓Int.cast_ofNat_Int,simprocAttr,kL,qUp,hg,List.drop_nil,e3];(repeat refine ⟨by first|omega|decide|((repeat' apply And.intro) <;> first|omega|decide),?_⟩);refine hK _ ?_;clear hK K
   refine zB ?_;refine zA ?_;refine zJ (fun K hK=>?_);simp (disch:=omega) only [push_cast,↓Int.cast_ofNat_Int,simprocAttr];refine hK _ ?_;clear hK K
   refine zA ?_;exact ⟨(i + 1,X.set i ⟨{ data:=#[120] },0,(0,ByteArray.empty),(0,ByteArray.empty),(0,ByteArray.empty),(0,ByteArray.empty),(0,ByteArray.empty),(0,ByteArray.empty)⟩),by simp only [zZ,zR,zP,zQ,zN,zS,zM,zX,zU,Nat.reduceEqDiff,reduceIte];rfl,⟨hlt,by rw [List.length_set];exact hX⟩,by dsimp only;omega⟩
  ·have hne2:i=L.length:=by omega
   subst hne2;refine zE ?_;refine zE ?_;refine zJ (fun K hK=>?_);simp (disch:=omega) only [push_cast,↓Int.cast_ofNat_Int,simprocAttr,kL];refine hK _ ?_;clear hK K
   refine zA ?_;refine yC rfl ?_;refine zT ?_;refine zG ?_;refine zG ?_;refine zH ?_;refine zE ?_;refine zJ (fun K hK=>?_);simp (disch:=omega) only [push_cast,↓Int.cast_ofNat_Int,simprocAttr]
   refine cP zTw cs (.cons (pX (qHt _) rfl) (.cons (pX (qHt _) rfl) .nil)) ?_;with_reducible refine aC ?_;simp (disch:=omega) only [push_cast,↓Int.cast_ofNat_Int,simprocAttr]
   refine hK _ ?_;clear hK K;refine zA ?_;refine zW ?_;simp only [yA,yM,yH,yE,aA,aD,yK,yJ,zS,zM,Nat.reduceEqDiff,reduceIte,reduceCtorEq];exact aM rfl
theorem qPj (sp:Int) (A B:Tri) (hu:fw (.v (.int .i64 sp)) + (fwT A + (fwT B + 0))≤1048576):HFun Tryz.prog 4 [.v (.int .i64 sp),qB9 A,qB9 B] (fun h st=>h=.v (.bool true)):=by
 have len:∀ T:Tri,fwT T≤1048576→(∀ i,i < 3→(tr T i).length≤1048576)∧∀ i,i < 3→∀ e ∈ tr T i,e.1.size≤1048576:=fun T h=>by
  unfold fwT at h;obtain ⟨a1,a2⟩:=qUc T.1;obtain ⟨b1,b2⟩:=qUc T.2.1;obtain ⟨c1,c2⟩:=qUc T.2.2;refine ⟨fun i hi=>?_,fun i hi e he=>?_⟩
  ·rcases xX hi with rfl|rfl|rfl <;> simp only [tr] <;> omega
  ·rcases xX hi with rfl|rfl|rfl
   ·have:=(a2 e he).1;omega
   ·have:=(b2 e he).1;omega
   ·have:=(c2 e he).1;omega
 have hA:=len A (by omega)
 have hB:=len B (by omega)
 exact qPk sp A B hA.1 hB.1 hA.2 hB.2
end Go.Proofs.YtbdomkfdkfdfgaaGreatDoor
end
