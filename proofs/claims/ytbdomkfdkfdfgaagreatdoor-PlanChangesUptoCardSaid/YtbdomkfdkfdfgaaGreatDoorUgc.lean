/-
  ref18.Changes.
-/
import Derived.Test.YtbdomkfdkfdfgaaGreatDoorUch
import Derived.Test.YtbdomkfdkfdfgaaGreatDoorTpB
import Derived.Test.YtbdomkfdkfdfgaaGreatDoorUnB
set_option linter.unusedSimpArgs false
set_option linter.unusedVariables false
set_option maxRecDepth 20000
namespace Go.Tr
open Go Go.Eng Go.RowKit
def oX (sp:Int) (A B:Tri) (p:ByteArray):Chg:=⟨p,sp,aF A.1 p,aF A.2.1 p,aF A.2.2 p,aF B.1 p,aF B.2.1 p,aF B.2.2 p⟩
def qDm (A B:Tri) (p:ByteArray):Bool:=!decide (aF A.1 p=aF B.1 p∧aF A.2.1 p=aF B.2.1 p∧aF A.2.2 p=aF B.2.2 p)
def wE (A B:Tri):Nat→List Ent
|0=>[]
|k + 1=>wE A B k ++ tr A k ++ tr B k
def sX (sp:Int) (A B:Tri):List Chg:=(rU (qDm A B) none (sortS (wE A B 3))).map (oX sp A B)
abbrev chZ:List HV:=[.v (.int .i64 0),.v (.string ByteArray.empty)]
abbrev chN (n:Int × ByteArray):List HV:=[.v (.int .i64 n.1),.v (.string n.2)]
def qFi (sp:Int) (A B:Tri) (p:ByteArray):Nat→List HV
|0=>[.v (.string p),.v (.int .i64 sp)] ++ chZ ++ chZ ++ chZ ++ chZ ++ chZ ++ chZ
|1=>[.v (.string p),.v (.int .i64 sp)] ++ chN (aF A.1 p) ++ chZ ++ chZ ++ chN (aF B.1 p) ++ chZ ++ chZ
|2=>[.v (.string p),.v (.int .i64 sp)] ++ chN (aF A.1 p) ++ chN (aF A.2.1 p) ++ chZ ++ chN (aF B.1 p) ++ chN (aF B.2.1 p) ++ chZ
|_=>zVs (oX sp A B p)
theorem qYi (sp:Int) (A B:Tri) (p:ByteArray):qFi sp A B p 0=[.v (.string p),.v (.int .i64 sp),.v (.int .i64 0),.v (.string ByteArray.empty),.v (.int .i64 0),.v (.string ByteArray.empty),.v (.int .i64 0),.v (.string ByteArray.empty),.v (.int .i64 0),.v (.string ByteArray.empty),.v (.int .i64 0),.v (.string ByteArray.empty),.v (.int .i64 0),.v (.string ByteArray.empty)]:=rfl
theorem qDq (sp:Int) (A B:Tri) (p:ByteArray):qFi sp A B p 1=[.v (.string p),.v (.int .i64 sp),.v (.int .i64 (aF A.1 p).1),.v (.string (aF A.1 p).2),.v (.int .i64 0),.v (.string ByteArray.empty),.v (.int .i64 0),.v (.string ByteArray.empty),.v (.int .i64 (aF B.1 p).1),.v (.string (aF B.1 p).2),.v (.int .i64 0),.v (.string ByteArray.empty),.v (.int .i64 0),.v (.string ByteArray.empty)]:=rfl
theorem qDp (sp:Int) (A B:Tri) (p:ByteArray):qFi sp A B p 2=[.v (.string p),.v (.int .i64 sp),.v (.int .i64 (aF A.1 p).1),.v (.string (aF A.1 p).2),.v (.int .i64 (aF A.2.1 p).1),.v (.string (aF A.2.1 p).2),.v (.int .i64 0),.v (.string ByteArray.empty),.v (.int .i64 (aF B.1 p).1),.v (.string (aF B.1 p).2),.v (.int .i64 (aF B.2.1 p).1),.v (.string (aF B.2.1 p).2),.v (.int .i64 0),.v (.string ByteArray.empty)]:=rfl
theorem qDo (sp:Int) (A B:Tri) (p:ByteArray):qFi sp A B p 3=[.v (.string p),.v (.int .i64 sp),.v (.int .i64 (aF A.1 p).1),.v (.string (aF A.1 p).2),.v (.int .i64 (aF A.2.1 p).1),.v (.string (aF A.2.1 p).2),.v (.int .i64 (aF A.2.2 p).1),.v (.string (aF A.2.2 p).2),.v (.int .i64 (aF B.1 p).1),.v (.string (aF B.1 p).2),.v (.int .i64 (aF B.2.1 p).1),.v (.string (aF B.2.1 p).2),.v (.int .i64 (aF B.2.2 p).1),.v (.string (aF B.2.2 p).2)]:=rfl
theorem qS1 (out:List Chg) (sp:Int) (A B:Tri) (p:ByteArray):chs out ++ [[FV.v (.string p),.v (.int .i64 sp),.v (.int .i64 (aF A.1 p).1),.v (.string (aF A.1 p).2),.v (.int .i64 (aF A.2.1 p).1),.v (.string (aF A.2.1 p).2),.v (.int .i64 (aF A.2.2 p).1),.v (.string (aF A.2.2 p).2),.v (.int .i64 (aF B.1 p).1),.v (.string (aF B.1 p).2),.v (.int .i64 (aF B.2.1 p).1),.v (.string (aF B.2.1 p).2),.v (.int .i64 (aF B.2.2 p).1),.v (.string (aF B.2.2 p).2)]]=chs (out ++ [oX sp A B p]):=zLb out (oX sp A B p)
theorem qN1 {A B:Tri} (ha:∀ i,i < 3→(tr A i).length≤200) (hb:∀ i,i < 3→(tr B i).length≤200):∀ k,k≤3→(wE A B k).length≤k * 400
|0,_=>Nat.le_refl _
|k + 1,h=>by
  have:=qN1 ha hb k (by omega)
  have:=ha k (by omega)
  have:=hb k (by omega)
  rw [wE,List.length_append,List.length_append];omega
end Go.Tr
namespace Go.Proofs.YtbdomkfdkfdfgaaGreatDoor
open Go Go.Eng Go.RowKit Go.Tr
set_option maxHeartbeats 16000000 in
theorem zF8 (sp:Int) (A B:Tri) (ha:∀ i,i < 3→(tr A i).length≤200) (hb:∀ i,i < 3→(tr B i).length≤200):HFun Tryz.prog 19 [.v (.int .i64 sp),qB9 A,qB9 B] (fun h st=>h=.own 0∧st=[(0,iX (sX sp A B))]):=by
 refine fJ (N:=86) Tryz.func19 rfl Tryz.ntmps19 Tryz.results19 (by simp) ?_
 refine zE ?_;refine zJ (fun K hK=>?_);simp (disch:=omega) only [push_cast,↓Int.cast_ofNat_Int,simprocAttr];refine hK _ ?_;clear hK K
 refine zE ?_;refine zJ (fun K hK=>?_);simp (disch:=omega) only [push_cast,↓Int.cast_ofNat_Int,simprocAttr];refine hK _ ?_;clear hK K
 refine qR 7 9000 67 3 rfl (by simp only [lR,qS,qT,fE,eE,eW,dZ,iM,fC,gV,fB,fA,gC,fD,eZ,eD,fX,fZ,fY,iL,iZ,gU,Nat.reduceBEq,Nat.reduceEqDiff,reduceIte,cond_true,cond_false,List.map_cons,List.map_nil];exact rfl) ?_
 refine zE ?_;refine zE ?_;refine zJ (fun K hK=>?_);simp (disch:=omega) only [push_cast,↓Int.cast_ofNat_Int,simprocAttr];refine hK _ ?_;clear hK K
 refine zA ?_;refine zD ?_;refine cH (fun k:Nat=>⟨[(0,.v (.int .i64 sp)),(4,.ptr 32 3 0 0),(5,.ptr 40 3 0 0),(7,.own 9000),(8,.v (.int .i64 k))],[(32,.bx true 41 (jK A)),(40,.bx true 41 (jK B)),(9000,fW (wE A B k))]⟩) (fun k=>k≤3) (fun k=>3 - k) [0,4,5,7,8] [32,40,9000] 0 (by simp only [zZ,zR,zP,zQ,zN,zS,zM,zX,zU,Nat.reduceEqDiff,reduceIte];try rfl) (Nat.zero_le _) ?_
 intro k hk
 by_cases hlt:k < 3
 ·have la:=ha k hlt
  have lb:=hb k hlt
  have lc:=qN1 ha hb k hk
  have ta:=rL A hlt
  have tb:=rL B hlt
  have hcat:wE A B (k + 1)=wE A B k ++ tr A k ++ tr B k:=rfl
  refine zE ?_;refine zE ?_;refine zJ (fun K hK=>?_);simp (disch:=omega) only [push_cast,↓Int.cast_ofNat_Int,simprocAttr];refine hK _ ?_;clear hK K
  refine zA ?_;refine yD rfl ?_;refine zC ?_;refine zE ?_;refine zD ?_;refine zE ?_;refine zJ (fun K hK=>?_);simp (disch:=omega) only [push_cast,↓Int.cast_ofNat_Int,simprocAttr,ta,yV,yU,wB];(repeat refine ⟨by first|omega|decide|((repeat' apply And.intro) <;> first|omega|decide),?_⟩);refine hK _ ?_;clear hK K
  refine zA ?_;refine zJ (fun K hK=>?_);simp (disch:=omega) only [push_cast,↓Int.cast_ofNat_Int,simprocAttr,tb,yV,yU,wB,List.length_append];(repeat refine ⟨by first|omega|decide|((repeat' apply And.intro) <;> first|omega|decide),?_⟩);refine hK _ ?_;clear hK K
  refine zB ?_;refine zA ?_;refine zJ (fun K hK=>?_);simp (disch:=omega) only [push_cast,↓Int.cast_ofNat_Int,simprocAttr];refine hK _ ?_;clear hK K
  refine zA ?_;exact ⟨k + 1,by simp only [zZ,zR,zP,zQ,zN,zS,zM,zX,zU,Nat.reduceEqDiff,reduceIte,hcat];try rfl,hlt,by omega⟩
 ·have hk3:k=3:=by omega
  subst hk3
  have lc:=qN1 ha hb 3 (Nat.le_refl _)
  refine zE ?_;refine zE ?_;refine zJ (fun K hK=>?_);simp (disch:=omega) only [push_cast,↓Int.cast_ofNat_Int,simprocAttr];refine hK _ ?_;clear hK K
  refine zA ?_;refine yC rfl ?_;refine zT ?_;refine zG ?_;refine zG ?_;refine zH ?_;refine zE ?_;refine yB [0,4,5,7] [32,40,9000] (by simp only [zZ,zR,zP,zQ,zN,zS,zM,zX,zU,Nat.reduceEqDiff,reduceIte];exact rfl) ?_
  have cs:=zQy (wE A B 3) (by omega)
  have sl:(sortS (wE A B 3)).length=(wE A B 3).length:=(oC (wE A B 3)).length_eq
  unfold sX;generalize sortS (wE A B 3)=S at *
  generalize hF:qDm A B=f;refine zJ (fun K hK=>?_);simp (disch:=omega) only [push_cast,↓Int.cast_ofNat_Int,simprocAttr]
  refine hat 232 zVj cs (.cons (pX (yT _) rfl) .nil) ?_;rintro _ _ ⟨rfl,rfl⟩;with_reducible refine aC ?_;simp (disch:=omega) only [push_cast,↓Int.cast_ofNat_Int,simprocAttr]
  refine hK _ ?_;clear hK K;refine zE ?_;refine zJ (fun K hK=>?_);simp (disch:=omega) only [push_cast,↓Int.cast_ofNat_Int,simprocAttr];refine hK _ ?_;clear hK K
  refine zE ?_;refine zE ?_;refine qR 9 9001 50 14 rfl (by simp only [lR,qS,qT,fE,eE,eW,dZ,iM,fC,gV,fB,fA,gC,fD,eZ,eD,fX,fZ,fY,iL,iZ,gU,Nat.reduceBEq,Nat.reduceEqDiff,reduceIte,cond_true,cond_false,List.map_cons,List.map_nil];exact rfl) ?_
  refine zJ (fun K hK=>?_);simp (disch:=omega) only [push_cast,↓Int.cast_ofNat_Int,simprocAttr];refine hK _ ?_;clear hK K
  refine zA ?_;refine zD ?_;refine yB [0,4,5,7,9,10] [32,40,232,9001] (by simp only [zZ,zR,zP,zQ,zN,zS,zM,zX,zU,Nat.reduceEqDiff,reduceIte];exact rfl) ?_
  refine cH (fun x:Nat × List Chg=>⟨[(0,.v (.int .i64 sp)),(4,.ptr 32 3 0 0),(5,.ptr 40 3 0 0),(7,.own 232),(9,.own 9001),(10,.v (.int .i64 x.1))],[(32,.bx true 41 (jK A)),(40,.bx true 41 (jK B)),(232,fW S),(9001,iX x.2)]⟩) (fun x=>x.1≤S.length∧x.2.length≤x.1∧x.2 ++ (rU f (prevE S x.1) (S.drop x.1)).map (oX sp A B)=(rU f none S).map (oX sp A B)) (fun x=>S.length - x.1) [0,4,5,7,9,10] [32,40,232,9001] (0,[]) (by simp only [zZ,zR,zP,zQ,zN,zS,zM,zX,zU,Nat.reduceEqDiff,reduceIte];try rfl) ⟨Nat.zero_le _,Nat.le_refl _,rfl⟩ ?_
  clear hlt hk cs;rintro ⟨i,out⟩ ⟨hi,hol,ho⟩;dsimp only at hi hol ho
  by_cases hlt:i < S.length
  ·rw [List.drop_eq_getElem_cons hlt,rU] at ho
   have hnx:prevE S (i + 1)=some S[i].1:=by simp [prevE,prevE.atE0,List.getD_eq_getElem?_getD,hlt]
   have hk0:∀ (m:Nat),(m:Int) + 1 - 1=m:=fun m=>by omega
   obtain ⟨p,hp⟩:∃ p,S[i].1=p:=⟨_,rfl⟩;rw [hp] at ho hnx;refine zE ?_;refine zE ?_;refine zJ (fun K hK=>?_);simp (disch:=omega) only [push_cast,↓Int.cast_ofNat_Int,simprocAttr,yV];refine hK _ ?_;clear hK K
   refine zA ?_;refine yD rfl ?_;refine zC ?_;refine zE ?_;refine zD ?_;refine zE ?_;refine zJ (fun K hK=>?_);simp (disch:=omega) only [push_cast,↓Int.cast_ofNat_Int,simprocAttr,yV,yU,yW hlt,hp];refine hK _ ?_;clear hK K
   refine zE ?_;refine zE ?_;refine qHy (fun _:Unit=>⟨[(0,.v (.int .i64 sp)),(4,.ptr 32 3 0 0),(5,.ptr 40 3 0 0),(7,.own 232),(9,.own 9001),(10,.v (.int .i64 i)),(11,.v (.string p)),(52,.v (.bool (decide (prevE S i=some p))))],[(32,.bx true 41 (jK A)),(40,.bx true 41 (jK B)),(232,fW S),(9001,iX out)]⟩) (fun _=>True) [0,4,5,7,9,10,11,52] [32,40,232,9001] ?_ ?_
   ·rcases Nat.eq_zero_or_pos i with rfl|hpos
    ·have hg:decide (prevE S 0=some p)=false:=by simp [prevE]
     refine zJ (fun K hK=>?_);simp (disch:=omega) only [push_cast,↓Int.cast_ofNat_Int,simprocAttr,yV,yU,hk0];refine hK _ ?_;clear hK K
     exact ⟨(),by simp only [zZ,zR,zP,zQ,zN,zS,zM,zX,zU,Nat.reduceEqDiff,reduceIte,hg];try rfl,trivial⟩
    ·obtain ⟨m,rfl⟩:∃ m,i=m + 1:=⟨i - 1,by omega⟩
     have hm:m < S.length:=by omega
     have hpm:prevE S (m + 1)=some S[m].1:=by simp [prevE,prevE.atE0,List.getD_eq_getElem?_getD,hm]
     have hg:decide (prevE S (m + 1)=some p)=decide (S[m].1=p):=by rw [hpm,decide_eq_decide];simp
     refine zJ (fun K hK=>?_);simp (disch:=omega) only [push_cast,↓Int.cast_ofNat_Int,simprocAttr,yV,yU,hk0,yW hm];refine hK _ ?_;clear hK K
     exact ⟨(),by simp only [zZ,zR,zP,zQ,zN,zS,zM,zX,zU,Nat.reduceEqDiff,reduceIte,hg];try rfl,trivial⟩
   intro S' _ hE _;refine zA ?_;refine yB [0,4,5,7,9,10,11,52] [32,40,232,9001] hE ?_;clear hE
   by_cases hq:prevE S i=some p
   ·rw [if_neg (fun h=>h.1 hq)] at ho
    rw [decide_eq_true hq];refine yD rfl ?_;refine zT ?_;refine zG ?_;refine zH ?_;refine zA ?_;refine zJ (fun K hK=>?_);simp (disch:=omega) only [push_cast,↓Int.cast_ofNat_Int,simprocAttr];refine hK _ ?_;clear hK K
    refine zA ?_;exact ⟨(i + 1,out),by simp only [zZ,zR,zP,zQ,zN,zS,zM,zX,zU,Nat.reduceEqDiff,reduceIte];try rfl,⟨hlt,by dsimp only;omega,by dsimp only;rw [hnx];exact ho⟩,by dsimp only;omega⟩
   ·rw [decide_eq_false hq];refine yC rfl ?_;refine zC ?_;refine zE ?_;refine zJ (fun K hK=>?_);simp (disch:=omega) only [push_cast,↓Int.cast_ofNat_Int,simprocAttr];refine hK _ ?_;clear hK K
    refine zE ?_;refine zE ?_;refine zJ (fun K hK=>?_);simp (disch:=omega) only [push_cast,↓Int.cast_ofNat_Int,simprocAttr];refine hK _ ?_;clear hK K
    refine zA ?_;refine zD ?_;refine cH (fun k:Nat=>⟨[(0,.v (.int .i64 sp)),(4,.ptr 32 3 0 0),(5,.ptr 40 3 0 0),(7,.own 232),(9,.own 9001),(10,.v (.int .i64 i)),(11,.v (.string p)),(12,.ptr 96 14 0 0),(13,.v (.int .i64 k))],[(96,.bx true 50 (qFi sp A B p k)),(32,.bx true 41 (jK A)),(40,.bx true 41 (jK B)),(232,fW S),(9001,iX out)]⟩) (fun k=>k≤3) (fun k=>3 - k) [0,4,5,7,9,10,11,12,13] [96,32,40,232,9001] 0 (by simp only [zZ,zR,zP,zQ,zN,zS,zM,zX,zU,Nat.reduceEqDiff,reduceIte];try rfl) (Nat.zero_le _) ?_
    intro k hk
    by_cases hk3:k < 3
    ·rcases xX hk3 with rfl|rfl|rfl
     ·rw [qYi]
      have gA:=qAs A.1 p (by have:=ha 0 (by decide);simp only [tr] at this;omega)
      have gB:=qAs B.1 p (by have:=hb 0 (by decide);simp only [tr] at this;omega)
      refine zE ?_;refine zE ?_;refine zJ (fun K hK=>?_);simp (disch:=omega) only [push_cast,↓Int.cast_ofNat_Int,simprocAttr];refine hK _ ?_;clear hK K
      refine zA ?_;refine yD rfl ?_;refine zC ?_;refine zE ?_;refine zD ?_;refine zE ?_;refine zJ (fun K hK=>?_);simp (disch:=omega) only [push_cast,↓Int.cast_ofNat_Int,simprocAttr]
      refine hat 520 qYh gA (.cons (aT (yT _)) (.cons (.v _) .nil)) ?_;rintro _ _ ⟨rfl,rfl⟩;with_reducible refine aC ?_;simp (disch:=omega) only [push_cast,↓Int.cast_ofNat_Int,simprocAttr]
      refine hK _ ?_;clear hK K;refine zA ?_;refine zJ (fun K hK=>?_);simp (disch:=omega) only [push_cast,↓Int.cast_ofNat_Int,simprocAttr]
      refine hat 584 qYh gB (.cons (aT (yT _)) (.cons (.v _) .nil)) ?_;rintro _ _ ⟨rfl,rfl⟩;with_reducible refine aC ?_;simp (disch:=omega) only [push_cast,↓Int.cast_ofNat_Int,simprocAttr]
      refine hK _ ?_;clear hK K;refine zB ?_;refine zA ?_;refine zJ (fun K hK=>?_);simp (disch:=omega) only [push_cast,↓Int.cast_ofNat_Int,simprocAttr];refine hK _ ?_;clear hK K
      refine zA ?_;exact ⟨1,by simp only [zZ,zR,zP,zQ,zN,zS,zM,zX,zU,Nat.reduceEqDiff,reduceIte,qDq];try rfl,by decide,by decide⟩
     ·rw [qDq]
      have gA:=qAs A.2.1 p (by have:=ha 1 (by decide);simp only [tr] at this;omega)
      have gB:=qAs B.2.1 p (by have:=hb 1 (by decide);simp only [tr] at this;omega)
      refine zE ?_;refine zE ?_;refine zJ (fun K hK=>?_);simp (disch:=omega) only [push_cast,↓Int.cast_ofNat_Int,simprocAttr];refine hK _ ?_;clear hK K
      refine zA ?_;refine yD rfl ?_;refine zC ?_;refine zE ?_;refine zD ?_;refine zE ?_;refine zJ (fun K hK=>?_);simp (disch:=omega) only [push_cast,↓Int.cast_ofNat_Int,simprocAttr]
      refine hat 520 qYh gA (.cons (aT (yT _)) (.cons (.v _) .nil)) ?_;rintro _ _ ⟨rfl,rfl⟩;with_reducible refine aC ?_;simp (disch:=omega) only [push_cast,↓Int.cast_ofNat_Int,simprocAttr]
      refine hK _ ?_;clear hK K;refine zA ?_;refine zJ (fun K hK=>?_);simp (disch:=omega) only [push_cast,↓Int.cast_ofNat_Int,simprocAttr]
      refine hat 584 qYh gB (.cons (aT (yT _)) (.cons (.v _) .nil)) ?_;rintro _ _ ⟨rfl,rfl⟩;with_reducible refine aC ?_;simp (disch:=omega) only [push_cast,↓Int.cast_ofNat_Int,simprocAttr]
      refine hK _ ?_;clear hK K;refine zB ?_;refine zA ?_;refine zJ (fun K hK=>?_);simp (disch:=omega) only [push_cast,↓Int.cast_ofNat_Int,simprocAttr];refine hK _ ?_;clear hK K
      refine zA ?_;exact ⟨2,by simp only [zZ,zR,zP,zQ,zN,zS,zM,zX,zU,Nat.reduceEqDiff,reduceIte,qDp];try rfl,by decide,by decide⟩
     ·rw [qDp]
      have gA:=qAs A.2.2 p (by have:=ha 2 (by decide);simp only [tr] at this;omega)
      have gB:=qAs B.2.2 p (by have:=hb 2 (by decide);simp only [tr] at this;omega)
      refine zE ?_;refine zE ?_;refine zJ (fun K hK=>?_);simp (disch:=omega) only [push_cast,↓Int.cast_ofNat_Int,simprocAttr];refine hK _ ?_;clear hK K
      refine zA ?_;refine yD rfl ?_;refine zC ?_;refine zE ?_;refine zD ?_;refine zE ?_;refine zJ (fun K hK=>?_);simp (disch:=omega) only [push_cast,↓Int.cast_ofNat_Int,simprocAttr]
      refine hat 520 qYh gA (.cons (aT (yT _)) (.cons (.v _) .nil)) ?_;rintro _ _ ⟨rfl,rfl⟩;with_reducible refine aC ?_;simp (disch:=omega) only [push_cast,↓Int.cast_ofNat_Int,simprocAttr]
      refine hK _ ?_;clear hK K;refine zA ?_;refine zJ (fun K hK=>?_);simp (disch:=omega) only [push_cast,↓Int.cast_ofNat_Int,simprocAttr]
      refine hat 584 qYh gB (.cons (aT (yT _)) (.cons (.v _) .nil)) ?_;rintro _ _ ⟨rfl,rfl⟩;with_reducible refine aC ?_;simp (disch:=omega) only [push_cast,↓Int.cast_ofNat_Int,simprocAttr]
      refine hK _ ?_;clear hK K;refine zB ?_;refine zA ?_;refine zJ (fun K hK=>?_);simp (disch:=omega) only [push_cast,↓Int.cast_ofNat_Int,simprocAttr];refine hK _ ?_;clear hK K
      refine zA ?_;exact ⟨3,by simp only [zZ,zR,zP,zQ,zN,zS,zM,zX,zU,Nat.reduceEqDiff,reduceIte,qDo];try rfl,by decide,by decide⟩
    ·have hk3':k=3:=by omega
     subst hk3';rw [qDo]
     have hfp:f p=!decide (((aF A.1 p).1,(aF A.1 p).2)=((aF B.1 p).1,(aF B.1 p).2)∧((aF A.2.1 p).1,(aF A.2.1 p).2)=((aF B.2.1 p).1,(aF B.2.1 p).2)∧((aF A.2.2 p).1,(aF A.2.2 p).2)=((aF B.2.2 p).1,(aF B.2.2 p).2)):=by rw [← hF];rfl
     refine zE ?_;refine zE ?_;refine zJ (fun K hK=>?_);simp (disch:=omega) only [push_cast,↓Int.cast_ofNat_Int,simprocAttr];refine hK _ ?_;clear hK K
     refine zA ?_;refine yC rfl ?_;refine zT ?_;refine zG ?_;refine zG ?_;refine zH ?_;refine zE ?_
     cases hfv:f p with
    |true =>
      rw [hfv] at hfp;rw [if_pos ⟨hq,hfv⟩,List.map_cons] at ho;refine zJ (fun K hK=>?_);simp (disch:=omega) only [push_cast,↓Int.cast_ofNat_Int,simprocAttr]
      refine ⟨_,zM9 _ _ _ _ _ _ _ _ _ _ _ _,?_⟩;with_reducible refine aC ?_;simp (disch:=omega) only [push_cast,↓Int.cast_ofNat_Int,simprocAttr,hfp.symm]
      refine hK _ ?_;clear hK K;refine yD rfl ?_;refine zJ (fun K hK=>?_);simp (disch:=omega) only [push_cast,↓Int.cast_ofNat_Int,simprocAttr,kL,qS1];(repeat refine ⟨by first|omega|decide|((repeat' apply And.intro) <;> first|omega|decide),?_⟩);refine hK _ ?_;clear hK K
      refine zB ?_;refine zA ?_;refine zJ (fun K hK=>?_);simp (disch:=omega) only [push_cast,↓Int.cast_ofNat_Int,simprocAttr];refine hK _ ?_;clear hK K
      refine zA ?_;exact ⟨(i + 1,out ++ [oX sp A B p]),by simp only [zZ,zR,zP,zQ,zN,zS,zM,zX,zU,Nat.reduceEqDiff,reduceIte];try rfl,⟨hlt,by simp only [List.length_append,List.length_singleton];omega,by dsimp only;rw [hnx,← ho];simp⟩,by dsimp only;omega⟩
    |false =>
      rw [hfv] at hfp;rw [if_neg (fun h=>by rw [hfv] at h;cases h.2)] at ho
      refine zJ (fun K hK=>?_);simp (disch:=omega) only [push_cast,↓Int.cast_ofNat_Int,simprocAttr]
      refine ⟨_,zM9 _ _ _ _ _ _ _ _ _ _ _ _,?_⟩;with_reducible refine aC ?_;simp (disch:=omega) only [push_cast,↓Int.cast_ofNat_Int,simprocAttr,hfp.symm]
      refine hK _ ?_;clear hK K;refine yC rfl ?_;refine zC ?_;refine zB ?_;refine zA ?_;refine zJ (fun K hK=>?_);simp (disch:=omega) only [push_cast,↓Int.cast_ofNat_Int,simprocAttr];refine hK _ ?_;clear hK K
      refine zA ?_;exact ⟨(i + 1,out),by simp only [zZ,zR,zP,zQ,zN,zS,zM,zX,zU,Nat.reduceEqDiff,reduceIte];try rfl,⟨hlt,by dsimp only;omega,by dsimp only;rw [hnx];exact ho⟩,by dsimp only;omega⟩
  ·have hie:i=S.length:=by omega
   subst hie;rw [List.drop_length,show rU f (prevE S S.length) []=[] from by rw [rU],List.map_nil,List.append_nil] at ho
   rw [← ho];refine zE ?_;refine zE ?_;refine zJ (fun K hK=>?_);simp (disch:=omega) only [push_cast,↓Int.cast_ofNat_Int,simprocAttr,yV];refine hK _ ?_;clear hK K
   refine zA ?_;refine yC rfl ?_;refine zT ?_;refine zG ?_;refine zG ?_;refine zH ?_;refine zE ?_;refine zJ (fun K hK=>?_);simp (disch:=omega) only [push_cast,↓Int.cast_ofNat_Int,simprocAttr];refine hK _ ?_;clear hK K
   refine zA ?_;refine zW ?_;simp only [yA,yM,yH,yE,aA,aD,yK,yJ,zS,zM,Nat.reduceEqDiff,reduceIte,reduceCtorEq];exact rC rfl (qS2 _) ⟨rfl,rfl⟩
end Go.Proofs.YtbdomkfdkfdfgaaGreatDoor
