/-
  The law PlanSteps.
-/
import Derived.Test.YtbdomkfdkfdfgaaGreatDoorTsC
import Derived.Test.YtbdomkfdkfdfgaaGreatDoorPaL
import Derived.Test.YtbdomkfdkfdfgaaGreatDoorPaI
import Derived.Test.YtbdomkfdkfdfgaaGreatDoorApm
import Derived.Test.YtbdomkfdkfdfgaaGreatDoorHau
set_option linter.unusedSimpArgs false
set_option linter.unusedVariables false
set_option maxRecDepth 20000
namespace Go.Proofs.YtbdomkfdkfdfgaaGreatDoor
open Go Go.Eng Go.RowKit Go.Tr Go.Rc Go.Dk
theorem tV (a:List Ent):(aG (a ++ [spare])).take a.length=aG a:=by rw [qP,List.take_left' rfl]
set_option maxHeartbeats 16000000 in
theorem qXi (old now:List Ent) (root fA:Int) (hlo:old.length≤1048576) (hso:∀ e ∈ old,e.1.size≤1048576) (hln:now.length≤1048576) (hsn:∀ e ∈ now,e.1.size≤1048576) :
  HFun Tryz.prog 7 [.lst false (aG old),.lst false (aG now),.v (.int .i64 root),.v (.int .i64 fA)] (fun h st=>h=.v (.bool true)):=by
 refine eX (N:=111) Tryz.func7 rfl Tryz.ntmps7 Tryz.results7 (by simp) ?_
 have c9:=qL6 old now [] hlo hln (by simp) hso hsn (by simp)
 have z:decide (dD ([]:List Ent)=0)=true:=by decide +kernel
 rw [z,Bool.and_true] at c9;refine zE ?_;refine zJ (fun K hK=>?_);simp (disch:=omega) only [push_cast,↓Int.cast_ofNat_Int,simprocAttr];refine hK _ ?_;clear hK K
 cases hc:decide (dD old=0) && decide (dD now=0) with
|false =>
  rw [hc] at c9;refine zE ?_;refine zE ?_;refine zJ (fun K hK=>?_);simp (disch:=omega) only [push_cast,↓Int.cast_ofNat_Int,simprocAttr]
  refine bE cl8 nE .nil ?_;with_reducible refine aB ?_;simp (disch:=omega) only [push_cast,↓Int.cast_ofNat_Int,simprocAttr]
  refine bE cl9 c9 (.cons (aL (yT _)) (.cons (aL (yT _)) (.cons .nil .nil))) ?_;with_reducible refine aB ?_;simp (disch:=omega) only [push_cast,↓Int.cast_ofNat_Int,simprocAttr]
  refine hK _ ?_;clear hK K;refine yD rfl ?_;refine zE ?_;refine zJ (fun K hK=>?_);simp (disch:=omega) only [push_cast,↓Int.cast_ofNat_Int,simprocAttr]
  refine bE cl8 nE .nil ?_;with_reducible refine aB ?_;simp (disch:=omega) only [push_cast,↓Int.cast_ofNat_Int,simprocAttr]
  refine hK _ ?_;clear hK K;refine zA ?_;refine zW ?_;refine zK ?_;simp only [yA,yM,yH,yE,aA,aC,yK,yJ,zS,zM,Nat.reduceEqDiff,reduceIte,reduceCtorEq];exact aJ rfl
|true =>
  rw [hc] at c9;simp only [Bool.and_eq_true,decide_eq_true_eq] at hc
  have hO:=(qS old).1 hc.1
  have hN:=(qS now).1 hc.2
  obtain ⟨la,pa⟩:=qVi root old now
  have ca:=qHr root old now hO.ri hN.ri hlo hln
  have cr:=zBm root old now hlo hln
  have hall:=zAs hO hN root
  obtain ⟨L,hL⟩:∃ L,qB4 root old now=L:=⟨_,rfl⟩;rw [hL] at la pa ca cr hall
  have hLl:L.length≤1048576:=by have:=hO.len;have:=hN.len;omega
  have hLs:∀ x ∈ L,x.2.1.size≤1048576:=fun x hx=>by
   obtain ⟨e,he,hxe⟩:=pa x hx;rw [hxe]
   rcases he with he|he
   ·exact hso e he
   ·exact hsn e he
  have cs:=zBj L (by omega)
  have cf:=zTm old L fA hO hall hso hLl hLs
  have cg:=zPo old L fA hO hall hso hLl hLs
  have cd:=zTr old L hO hso hLl hLs
  rw [hall.last] at cd;generalize pV fA L old=fb at cf cg
  have hox:pK (((aG (old ++ [spare])).drop 0).take old.length)=aG old:=by rw [List.drop_zero,tV,yT]
  have hoy:pK (((aG (now ++ [spare])).drop 0).take now.length)=aG now:=by rw [List.drop_zero,tV,yT]
  refine zE ?_;refine zE ?_;refine zJ (fun K hK=>?_);simp (disch:=omega) only [push_cast,↓Int.cast_ofNat_Int,simprocAttr]
  refine bE cl8 nE .nil ?_;with_reducible refine aB ?_;simp (disch:=omega) only [push_cast,↓Int.cast_ofNat_Int,simprocAttr]
  refine bE cl9 c9 (.cons (aL (yT _)) (.cons (aL (yT _)) (.cons .nil .nil))) ?_;with_reducible refine aB ?_;simp (disch:=omega) only [push_cast,↓Int.cast_ofNat_Int,simprocAttr]
  refine hK _ ?_;clear hK K;refine yC rfl ?_;refine zC ?_;refine zE ?_;refine zJ (fun K hK=>?_);simp (disch:=omega) only [push_cast,↓Int.cast_ofNat_Int,simprocAttr]
  refine hat 208 zWe (zDf old hlo) (.cons (aL (yT _)) .nil) ?_;rintro _ _ ⟨rfl,rfl⟩;with_reducible refine aB ?_;simp (disch:=omega) only [push_cast,↓Int.cast_ofNat_Int,simprocAttr]
  refine hat 224 zWe (zDf now hln) (.cons (aL (yT _)) .nil) ?_;rintro _ _ ⟨rfl,rfl⟩;with_reducible refine aB ?_;simp (disch:=omega) only [push_cast,↓Int.cast_ofNat_Int,simprocAttr]
  refine hK _ ?_;clear hK K;refine yB [0,1,2,3,9,10] [208,224] (by simp only [zZ,zR,zP,zQ,zN,zS,zM,zX,zU,Nat.reduceEqDiff,reduceIte];exact rfl) ?_
  refine zE ?_;refine zJ (fun K hK=>?_);simp (disch:=omega) only [push_cast,↓Int.cast_ofNat_Int,simprocAttr]
  refine hat 256 zQi ca (.cons (.v _) (.cons (qJo hox rfl) (.cons (qJo hoy rfl) .nil))) ?_;rintro _ _ ⟨rfl,rfl⟩;with_reducible refine aB ?_;simp (disch:=omega) only [push_cast,↓Int.cast_ofNat_Int,simprocAttr]
  refine hK _ ?_;clear hK K;refine yB [0,1,2,3,9,10,11] [208,224,256] (by simp only [zZ,zR,zP,zQ,zN,zS,zM,zX,zU,Nat.reduceEqDiff,reduceIte];exact rfl) ?_
  refine zE ?_;refine zJ (fun K hK=>?_);simp (disch:=omega) only [push_cast,↓Int.cast_ofNat_Int,simprocAttr]
  refine hat 288 zQi ca (.cons (.v _) (.cons (qJo hox rfl) (.cons (qJo hoy rfl) .nil))) ?_;rintro _ _ ⟨rfl,rfl⟩;with_reducible refine aB ?_;simp (disch:=omega) only [push_cast,↓Int.cast_ofNat_Int,simprocAttr]
  refine hK _ ?_;clear hK K;refine yB [0,1,2,3,9,10,11,12] [208,224,256,288] (by simp only [zZ,zR,zP,zQ,zN,zS,zM,zX,zU,Nat.reduceEqDiff,reduceIte];exact rfl) ?_
  have hne:(fb != fb)=false:=by cases fb <;> rfl
  refine zE ?_;refine zE ?_;refine zJ (fun K hK=>?_);simp (disch:=omega) only [push_cast,↓Int.cast_ofNat_Int,simprocAttr]
  refine hat 328 zV2 cr (.cons (.v _) (.cons (aL (yT _)) (.cons (aL (yT _)) .nil))) ?_;rintro _ _ ⟨rfl,rfl⟩;with_reducible refine aB ?_;simp (disch:=omega) only [push_cast,↓Int.cast_ofNat_Int,simprocAttr]
  refine bE zTy cs (.cons (gD (hZ _) rfl) (.cons (gD (hZ _) rfl) .nil)) ?_;with_reducible refine aB ?_;simp (disch:=omega) only [push_cast,↓Int.cast_ofNat_Int,simprocAttr]
  refine bE zTy cs (.cons (gD (hZ _) rfl) (.cons (gD (hZ _) rfl) .nil)) ?_;with_reducible refine aB ?_;simp (disch:=omega) only [push_cast,↓Int.cast_ofNat_Int,simprocAttr]
  refine bE zXq cf (.cons (qJo hox rfl) (.cons (gD (hZ _) rfl) (.cons (.v _) .nil))) ?_;with_reducible refine aB ?_;simp (disch:=omega) only [push_cast,↓Int.cast_ofNat_Int,simprocAttr]
  refine bE zXp cg (.cons (aL (yT _)) (.cons (gD (hZ _) rfl) (.cons (.v _) .nil))) ?_;with_reducible refine aB ?_;simp (disch:=omega) only [push_cast,↓Int.cast_ofNat_Int,simprocAttr,hne]
  refine hK _ ?_;clear hK K;refine yC rfl ?_;refine zC ?_;refine zE ?_;refine yB [0,1,2,9,10,11,12] [208,224,256,288] (by simp only [zZ,zR,zP,zQ,zN,zS,zM,zX,zU,Nat.reduceEqDiff,reduceIte];exact rfl) ?_
  have cS:=qEz now now (by omega)
  rw [decide_eq_true rfl] at cS;dsimp only at cd;refine zJ (fun K hK=>?_);simp (disch:=omega) only [push_cast,↓Int.cast_ofNat_Int,simprocAttr]
  refine hat 512 zQj cd (.cons (qJo hox rfl) (.cons (gD (hZ _) rfl) .nil)) ?_;rintro _ _ ⟨rfl,rfl⟩;with_reducible refine aB ?_;simp (disch:=omega) only [push_cast,↓Int.cast_ofNat_Int,simprocAttr]
  refine hK _ ?_;clear hK K;refine yB [0,1,2,9,10,11,12,13,14] [208,224,256,288,512] (by simp only [zZ,zR,zP,zQ,zN,zS,zM,zX,zU,Nat.reduceEqDiff,reduceIte];exact rfl) ?_
  refine qAc 208 1000000 (by decide) rfl rfl (by simp only [xV,qMp,sX,oG,rC,nW,vB,lJ,lG,nJ,mB,lK,lF,kG,oL,oN,oM,Nat.reduceMul,Nat.reduceAdd,Nat.reduceEqDiff,reduceIte,List.map_cons,List.map_nil];exact rfl) ?_
  refine qAc 224 1000001 (by decide) rfl rfl (by simp only [xV,qMp,sX,oG,rC,nW,vB,lJ,lG,nJ,mB,lK,lF,kG,oL,oN,oM,Nat.reduceMul,Nat.reduceAdd,Nat.reduceEqDiff,reduceIte,List.map_cons,List.map_nil];exact rfl) ?_
  refine qAc 512 1000002 (by decide) rfl rfl (by simp only [xV,qMp,sX,oG,rC,nW,vB,lJ,lG,nJ,mB,lK,lF,kG,oL,oN,oM,Nat.reduceMul,Nat.reduceAdd,Nat.reduceEqDiff,reduceIte,List.map_cons,List.map_nil];exact rfl) ?_
  have hlo1:old.length < (aG (old ++ [spare])).length:=by rw [yV,List.length_append];simp
  have hln1:now.length < (aG (now ++ [spare])).length:=by rw [yV,List.length_append];simp
  refine zE ?_;refine zE ?_;refine zQr (fun K hK=>?_)
  refine zN3 24 [0,1,2,11,12,87,88,89,90,91,92,93] [256,288,1000000,1000001,1000002] ?_;simp (disch:=omega) only [push_cast,↓Int.cast_ofNat_Int,simprocAttr];refine bE zJi cS (.cons (gD (yT _) rfl) (.cons (aL (yT _)) .nil)) ?_;with_reducible refine aB ?_;simp (disch:=omega) only [push_cast,↓Int.cast_ofNat_Int,simprocAttr]
  refine zFc hlo rfl (aL (yT _)) ?_;with_reducible refine aB ?_;simp (disch:=omega) only [push_cast,↓Int.cast_ofNat_Int,simprocAttr]
  refine zFc hln rfl (aL (yT _)) ?_;with_reducible refine aB ?_;simp (disch:=omega) only [push_cast,↓Int.cast_ofNat_Int,simprocAttr]
  refine aB ?_;simp only [zZ,zR,zP,zQ,zN,zS,zM,zX,zU,Nat.reduceEqDiff,reduceIte,List.drop_succ_cons,List.drop_zero];refine qVj 1000000 (old.length) rfl (by exact hlo1) (by simp only [zC6,qU0,qQi,qRx,qLa,zEz,qTh,qTg,qTf,qYo,qTi,qTe,qM9,qW8,qXa,qW9,Nat.sub_zero,true_and,eq_self,and_self,Nat.reduceMul,Nat.reduceAdd,Nat.reduceEqDiff,reduceIte,List.map_cons,List.map_nil,tV];exact rfl) ?_
  refine qVj 1000001 (now.length) rfl (by exact hln1) (by simp only [zC6,qU0,qQi,qRx,qLa,zEz,qTh,qTg,qTf,qYo,qTi,qTe,qM9,qW8,qXa,qW9,Nat.sub_zero,true_and,eq_self,and_self,Nat.reduceMul,Nat.reduceAdd,Nat.reduceEqDiff,reduceIte,List.map_cons,List.map_nil,tV];exact rfl) ?_
  refine zN2 ?_;simp (disch:=omega) only [push_cast,↓Int.cast_ofNat_Int,simprocAttr];refine qD7 736 [728,1000002,1000000,1000001] zXr (zJo now old now true true true true (by omega) (by omega) (by omega)) rfl (by decide) (by decide) (by simp only [push_cast,simprocAttr];try rfl) (by simp only [push_cast,simprocAttr];try rfl) ?_
  rintro _ _ ⟨rfl,rfl⟩;refine aB ?_;simp (disch:=omega) only [push_cast,↓Int.cast_ofNat_Int,simprocAttr];refine hK _ ?_;clear hK K;refine yC rfl ?_;refine zC ?_;refine zE ?_;refine zE ?_;refine yB [0,1,2,11,12] [256,288] (by simp only [zZ,zR,zP,zQ,zN,zS,zM,zX,zU,Nat.reduceEqDiff,reduceIte];exact rfl) ?_
  refine zJ (fun K hK=>?_);simp (disch:=omega) only [push_cast,↓Int.cast_ofNat_Int,simprocAttr];refine hK _ ?_;clear hK K
  refine zA ?_;refine zD ?_;refine cP (fun q:Nat × List Tr.Act=>⟨[(0,.lst false (aG old)),(1,.lst false (aG now)),(2,.v (.int .i64 root)),(11,.own 256),(12,.own 288),(15,.v (.int .i64 q.1))],[(256,qE3 q.2),(288,qE3 L)]⟩) (fun q=>q.1≤L.length∧q.2.length=L.length) (fun q=>L.length - q.1) [0,1,2,11,12,15] [256,288] (0,L) (by simp only [zZ,zR,zP,zQ,zN,zS,zM,zX,zU,Nat.reduceEqDiff,reduceIte];rfl) ⟨Nat.zero_le _,rfl⟩ ?_
  rintro ⟨i,X⟩ ⟨hi,hX⟩;dsimp only at hi hX ⊢
  by_cases hlt:i < L.length
  ·refine zE ?_;refine zE ?_;refine zJ (fun K hK=>?_);simp (disch:=omega) only [push_cast,↓Int.cast_ofNat_Int,simprocAttr,cW];refine hK _ ?_;clear hK K
   refine zA ?_;refine yD rfl ?_;refine zC ?_;refine zE ?_
   have hlx:i < X.length:=by omega
   have hg:=@xJ X i [] hlx
   have e3:(eP X).set i [FV.v (.int .i64 (-7)),.v (.string ByteArray.empty),.v (.int .i64 0),.v (.string ByteArray.empty)]=eP (X.set i (-7,ByteArray.empty,0,ByteArray.empty)):=by simp [eP,qWl,List.map_set]
   refine zD ?_;refine zJ (fun K hK=>?_);simp (disch:=omega) only [push_cast,↓Int.cast_ofNat_Int,simprocAttr,cW,gF,hg,List.drop_nil,e3];(repeat refine ⟨by first|omega|decide|((repeat' apply And.intro) <;> first|omega|decide),?_⟩);refine hK _ ?_;clear hK K
   refine zB ?_;refine zA ?_;refine zJ (fun K hK=>?_);simp (disch:=omega) only [push_cast,↓Int.cast_ofNat_Int,simprocAttr];refine hK _ ?_;clear hK K
   refine zA ?_;exact ⟨(i + 1,X.set i (-7,ByteArray.empty,0,ByteArray.empty)),by simp only [zZ,zR,zP,zQ,zN,zS,zM,zX,zU,Nat.reduceEqDiff,reduceIte];rfl,⟨hlt,by rw [List.length_set];exact hX⟩,by dsimp only;omega⟩
  ·have hne2:i=L.length:=by omega
   subst hne2;refine zE ?_;refine zE ?_;refine zJ (fun K hK=>?_);simp (disch:=omega) only [push_cast,↓Int.cast_ofNat_Int,simprocAttr,cW];refine hK _ ?_;clear hK K
   refine zA ?_;refine yC rfl ?_;refine zT ?_;refine zG ?_;refine zG ?_;refine zH ?_;refine zE ?_;refine zJ (fun K hK=>?_);simp (disch:=omega) only [push_cast,↓Int.cast_ofNat_Int,simprocAttr]
   refine hat 872 zV2 cr (.cons (.v _) (.cons (aL (yT _)) (.cons (aL (yT _)) .nil))) ?_;rintro _ _ ⟨rfl,rfl⟩;with_reducible refine aB ?_;simp (disch:=omega) only [push_cast,↓Int.cast_ofNat_Int,simprocAttr]
   refine bE zTy cs (.cons (gD (hZ _) rfl) (.cons (gD (hZ _) rfl) .nil)) ?_;with_reducible refine aB ?_;simp (disch:=omega) only [push_cast,↓Int.cast_ofNat_Int,simprocAttr]
   refine hK _ ?_;clear hK K;refine zA ?_;refine zW ?_;simp only [yA,yM,yH,yE,aA,aC,yK,yJ,zS,zM,Nat.reduceEqDiff,reduceIte,reduceCtorEq];exact aJ rfl
theorem qXh (old now:List Ent) (root fA:Int) (hu:fw (.lst false (aG old)) + (fw (.lst false (aG now)) + (fw (.v (.int .i64 root)) + (fw (.v (.int .i64 fA)) + 0)))≤1048576):HFun Tryz.prog 7 [.lst false (aG old),.lst false (aG now),.v (.int .i64 root),.v (.int .i64 fA)] (fun h st=>h=.v (.bool true)):=by
 obtain ⟨h1,h2⟩:=qF7 old;obtain ⟨h3,h4⟩:=qF7 now;exact qXi old now root fA (by omega) (fun e he=>by have:=(h2 e he).1;omega) (by omega) (fun e he=>by have:=(h4 e he).1;omega)
end Go.Proofs.YtbdomkfdkfdfgaaGreatDoor
