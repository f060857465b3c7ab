/-
  ref04.Sort, walked.
-/
import Derived.Test.YtbdomkfdkfdfgaaGreatDoorTfl
import Derived.Test.YtbdomkfdkfdfgaaGreatDoorChn
set_option linter.unusedSimpArgs false
set_option linter.unusedVariables false
set_option maxRecDepth 20000
namespace Go.Tr
open Go Go.Eng
def qC9 (out:List Ent) (e:Ent):List Ent:=out.takeWhile (fun x=>blt x.1 e.1) ++ e :: out.dropWhile (fun x=>blt x.1 e.1)
def pS (t:List Ent):List Ent:=t.foldl qC9 []
theorem zTf {out:List Ent} {e:Ent} {i:Nat} (hi:i≤out.length) (h1:∀ j (h:j < out.length),j < i→blt out[j].1 e.1=true) (h2:i=out.length∨∃ h:i < out.length,blt out[i].1 e.1=false):qC9 out e=out.take i ++ [e] ++ out.drop i:=by
 have key:∀ (out:List Ent) (i:Nat),i≤out.length→(∀ j (h:j < out.length),j < i→blt out[j].1 e.1=true)→(i=out.length∨∃ h:i < out.length,blt out[i].1 e.1=false) →
   out.takeWhile (fun x=>blt x.1 e.1)=out.take i∧out.dropWhile (fun x=>blt x.1 e.1)=out.drop i:=by
  intro out
  induction out with
 |nil=>intro i hi _ _;simp
 |cons x r ih =>
   intro i hi h1 h2
   cases i with
  |zero =>
    rcases h2 with h2|⟨h,h2⟩
    ·simp at h2
    ·simp only [List.getElem_cons_zero] at h2;simp [List.takeWhile_cons,List.dropWhile_cons,h2]
  |succ i =>
    have hx:=h1 0 (by simp) (by omega)
    simp only [List.getElem_cons_zero] at hx;obtain ⟨a,b⟩:=ih i (by simpa using hi) (fun j hj hji=>by have:=h1 (j + 1) (by simpa using hj) (by omega);simpa using this) (by
     rcases h2 with h2|⟨h,h2⟩
     ·left;simpa using h2
     ·right;exact ⟨by simpa using h,by simpa using h2⟩)
    simp [List.takeWhile_cons,List.dropWhile_cons,hx,a,b]
 obtain ⟨a,b⟩:=key out i hi h1 h2;rw [qC9,a,b];simp
theorem zLs (out:List Ent) (e:Ent):(qC9 out e).length=out.length + 1:=by
 have:=congrArg List.length (List.takeWhile_append_dropWhile (p:=fun x:Ent=>blt x.1 e.1) (l:=out))
 rw [List.length_append] at this;rw [qC9,List.length_append,List.length_cons];omega
theorem qWy:∀ (t out:List Ent),(t.foldl qC9 out).length=out.length + t.length
|[],out=>rfl
|e :: t,out=>by rw [List.foldl_cons,qWy t,zLs,List.length_cons];omega
end Go.Tr
namespace Go.Proofs.YtbdomkfdkfdfgaaGreatDoor
open Go Go.Eng Go.RowKit Go.Tr
set_option maxHeartbeats 8000000 in
theorem zJ3 (t:List Ent) (hl:t.length≤2097152):HFun Tryz.prog 44 [.lst false (aG t)] (fun h st=>h=.own 0∧st=[(0,dT (pS t))]):=by
 refine eX (N:=51) Tryz.func44 rfl Tryz.ntmps44 Tryz.results44 (by simp) ?_
 refine zE ?_;refine zJ (fun K hK=>?_);simp (disch:=omega) only [push_cast,↓Int.cast_ofNat_Int,simprocAttr];refine hK _ ?_;clear hK K
 refine zE ?_;refine zJ (fun K hK=>?_);simp (disch:=omega) only [push_cast,↓Int.cast_ofNat_Int,simprocAttr];refine hK _ ?_;clear hK K
 refine zE ?_;refine zE ?_;refine zJ (fun K hK=>?_);simp (disch:=omega) only [push_cast,↓Int.cast_ofNat_Int,simprocAttr];refine hK _ ?_;clear hK K
 refine zA ?_;refine zD ?_;refine eW 3 296 67 3 rfl (by simp only [dX,fM,fN,bQ,aY,aZ,aT,cY,bD,cE,bC,bB,cM,bP,bN,aX,bV,bW,cJ,cX,dC,cD,Nat.reduceBEq,Nat.reduceEqDiff,reduceIte,cond_true,cond_false,List.map_cons,List.map_nil];exact rfl) ?_
 refine cP (fun x:Nat × List Ent=>⟨[(0,.lst false (aG t)),(3,.own 296),(4,.v (.int .i64 x.1))],[(296,dT x.2)]⟩) (fun x=>x.1≤t.length∧x.2=(t.take x.1).foldl qC9 []) (fun x=>t.length - x.1) [0,3,4] [296] (0,[]) (by simp only [zZ,zR,zP,zQ,zN,zS,zM,zX,zU,Nat.reduceEqDiff,reduceIte];rfl) ⟨Nat.zero_le _,rfl⟩ ?_
 rintro ⟨i,out⟩ ⟨hi,ho⟩;simp only at hi ho
 have hol:out.length=i:=by rw [ho,qWy,List.length_take];simp;omega
 by_cases hlt:i < t.length
 ·refine zE ?_;refine zE ?_;refine zJ (fun K hK=>?_);simp (disch:=omega) only [push_cast,↓Int.cast_ofNat_Int,simprocAttr,yV];refine hK _ ?_;clear hK K
  refine zA ?_;refine yD rfl ?_;refine zC ?_;refine zE ?_;refine zD ?_;refine zE ?_;refine zJ (fun K hK=>?_);simp (disch:=omega) only [push_cast,↓Int.cast_ofNat_Int,simprocAttr];refine hK _ ?_;clear hK K
  refine zE ?_;refine zD ?_;refine cP (fun x:Nat=>⟨[(0,.lst false (aG t)),(3,.own 296),(4,.v (.int .i64 i)),(5,.v (.int .i64 x))],[(296,dT out)]⟩) (fun x=>x≤out.length∧∀ j (h:j < out.length),j < x→blt out[j].1 t[i].1=true) (fun x=>out.length - x) [0,3,4,5] [296] 0 (by simp only [zZ,zR,zP,zQ,zN,zS,zM,zX,zU,Nat.reduceEqDiff,reduceIte];try rfl) ⟨Nat.zero_le _,fun j _ h=>absurd h (Nat.not_lt_zero _)⟩ ?_
  rintro k ⟨hk,hb⟩
  have fin:(k=out.length∨∃ h:k < out.length,blt out[k].1 t[i].1=false)→qC9 out t[i]=out.take k ++ [t[i]] ++ out.drop k:=zTf hk hb
  by_cases hkl:k < out.length
  ·cases hb2:blt out[k].1 t[i].1 with
  |true =>
    have hb3:Op.bytesLess out[k].1.toList t[i].1.toList=true:=hb2
    refine zE ?_;refine zE ?_;refine kP 17 mixed (by kernel_rfl) (fun K hK K1 hK1=>?_);simp (disch:=omega) only [push_cast,↓Int.cast_ofNat_Int,simprocAttr,yV,yU,yW hkl,yW hlt,hb3]
    refine hK1 _ ?_;(try clear hK1 K1);with_reducible refine aB ?_;simp (disch:=omega) only [push_cast,↓Int.cast_ofNat_Int,simprocAttr,yV,yU,yW hkl,yW hlt,hb3]
    refine hK _ ?_;clear hK K;refine yD rfl ?_;refine zC ?_;refine zA ?_;refine zD ?_;refine zJ (fun K hK=>?_);simp (disch:=omega) only [push_cast,↓Int.cast_ofNat_Int,simprocAttr];refine hK _ ?_;clear hK K
    refine zB ?_;refine zA ?_;refine ⟨k + 1,by simp only [zZ,zR,zP,zQ,zN,zS,zM,zX,zU,Nat.reduceEqDiff,reduceIte];try rfl,⟨hkl,fun j hj h=>?_⟩,by omega⟩
    by_cases e:j=k
    ·subst e;exact hb2
    ·exact hb j hj (by omega)
  |false =>
    have hb3:Op.bytesLess out[k].1.toList t[i].1.toList=false:=hb2
    have he:=fin (.inr ⟨hkl,hb2⟩)
    refine zE ?_;refine zE ?_;refine kP 17 mixed (by kernel_rfl) (fun K hK K1 hK1=>?_);simp (disch:=omega) only [push_cast,↓Int.cast_ofNat_Int,simprocAttr,yV,yU,yW hkl,yW hlt,hb3]
    refine hK1 _ ?_;(try clear hK1 K1);with_reducible refine aB ?_;simp (disch:=omega) only [push_cast,↓Int.cast_ofNat_Int,simprocAttr,yV,yU,yW hkl,yW hlt,hb3]
    refine hK _ ?_;clear hK K;refine yC rfl ?_;refine zT ?_;refine zG ?_;refine zG ?_;refine zH ?_;refine zE ?_;refine yB [0,3,4,5] [296] (by simp only [zZ,zR,zP,zQ,zN,zS,zM,zX,zU,Nat.reduceEqDiff,reduceIte];exact rfl) ?_
    refine lR 296 rfl (by simp only [lZ,jG,gM,iV,gJ,pN,jD,jE,gL,jC,jB,mA,jF,jA,lV,lW,lX,Nat.reduceEqDiff,reduceIte,List.map_cons,List.map_nil,List.map_append];exact rfl) ?_
    have ht:(aG out).take out.length=aG out:=List.take_of_length_le (by rw [yV];exact Nat.le_refl _)
    refine zJ (fun K hK=>?_);simp (disch:=omega) only [push_cast,↓Int.cast_ofNat_Int,simprocAttr,yV,yU,ht,qCx,List.length_drop];(repeat refine ⟨by first|omega|decide|((repeat' apply And.intro) <;> first|omega|decide),?_⟩);refine hK _ ?_;clear hK K
    refine yB [0,3,4,5,6] [256] (by simp only [zZ,zR,zP,zQ,zN,zS,zM,zX,zU,Nat.reduceEqDiff,reduceIte];exact rfl) ?_
    refine lR 256 rfl (by simp only [lZ,jG,gM,iV,gJ,pN,jD,jE,gL,jC,jB,mA,jF,jA,lV,lW,lX,Nat.reduceEqDiff,reduceIte,List.map_cons,List.map_nil,List.map_append];exact rfl) ?_
    refine qAd 13 [(0,some 296),(4,some 296),(10,some 296),(12,some 296)] [[],[(296,dT [])],[(296,dT (out.take k))],[(296,dT (out.take k ++ [t[i]]))],[(296,dT (out.take k ++ [t[i]] ++ out.drop k))]] [] mixed (by kernel_rfl) (by kernel_rfl) rfl (fun K hK K1 hK1=>?_);simp (disch:=omega) only [push_cast,↓Int.cast_ofNat_Int,simprocAttr,eD,dN,fE,eC,gT,pE,eB,dL,bR,cG,cU,bS,bT,gU,eE,eM,fJ,fH,dQ,cH,cV,gX,gW,gV,eF,eG,eK,eJ,gY,dU,eH,fG,List.tail_cons,List.take_nil,List.drop_nil,yV,yU,qP,qCx,yW hlt,List.drop_zero]
    have l1:(out.take k).length≤2097152:=by rw [List.length_take];omega
    have l2:(out.take k).length + (out.drop k).length=out.length:=by rw [List.length_take,List.length_drop];omega
    refine ⟨rfl,by show _ * 40≤_;omega,rfl,⟨of_eq_true (yU [t[i]]),by show _ * 40≤_;omega⟩,by rw [mR],by show _ * 40≤_;omega,by rw [qGg],?_⟩
    rw [← he];refine hK1 _ ?_;(try clear hK1 K1);with_reducible refine aB ?_;simp (disch:=omega) only [push_cast,↓Int.cast_ofNat_Int,simprocAttr]
    refine hK _ ?_;clear hK K;refine zB ?_;refine zA ?_;refine zJ (fun K hK=>?_);simp (disch:=omega) only [push_cast,↓Int.cast_ofNat_Int,simprocAttr];refine hK _ ?_;clear hK K
    refine zA ?_;refine ⟨(i + 1,qC9 out t[i]),by simp only [zZ,zR,zP,zQ,zN,zS,zM,zX,zU,Nat.reduceEqDiff,reduceIte];try rfl,⟨hlt,?_⟩,by dsimp only;omega⟩
    dsimp only;rw [List.take_succ_eq_append_getElem hlt,List.foldl_append,← ho];rfl
  ·have hkk:k=out.length:=by omega
   have he:=fin (.inl hkk)
   refine zE ?_;refine zE ?_;refine kP 17 mixed (by kernel_rfl) (fun K hK K1 hK1=>?_);simp (disch:=omega) only [push_cast,↓Int.cast_ofNat_Int,simprocAttr,yV]
   refine hK1 _ ?_;(try clear hK1 K1);with_reducible refine aB ?_;simp (disch:=omega) only [push_cast,↓Int.cast_ofNat_Int,simprocAttr,yV]
   refine hK _ ?_;clear hK K;refine yC rfl ?_;refine zT ?_;refine zG ?_;refine zG ?_;refine zH ?_;refine zE ?_;refine yB [0,3,4,5] [296] (by simp only [zZ,zR,zP,zQ,zN,zS,zM,zX,zU,Nat.reduceEqDiff,reduceIte];exact rfl) ?_
   refine lR 296 rfl (by simp only [lZ,jG,gM,iV,gJ,pN,jD,jE,gL,jC,jB,mA,jF,jA,lV,lW,lX,Nat.reduceEqDiff,reduceIte,List.map_cons,List.map_nil,List.map_append];exact rfl) ?_
   have ht:(aG out).take out.length=aG out:=List.take_of_length_le (by rw [yV];exact Nat.le_refl _)
   refine zJ (fun K hK=>?_);simp (disch:=omega) only [push_cast,↓Int.cast_ofNat_Int,simprocAttr,yV,yU,ht,qCx,List.length_drop];(repeat refine ⟨by first|omega|decide|((repeat' apply And.intro) <;> first|omega|decide),?_⟩);refine hK _ ?_;clear hK K
   refine yB [0,3,4,5,6] [256] (by simp only [zZ,zR,zP,zQ,zN,zS,zM,zX,zU,Nat.reduceEqDiff,reduceIte];exact rfl) ?_
   refine lR 256 rfl (by simp only [lZ,jG,gM,iV,gJ,pN,jD,jE,gL,jC,jB,mA,jF,jA,lV,lW,lX,Nat.reduceEqDiff,reduceIte,List.map_cons,List.map_nil,List.map_append];exact rfl) ?_
   refine qAd 13 [(0,some 296),(4,some 296),(10,some 296),(12,some 296)] [[],[(296,dT [])],[(296,dT (out.take k))],[(296,dT (out.take k ++ [t[i]]))],[(296,dT (out.take k ++ [t[i]] ++ out.drop k))]] [] mixed (by kernel_rfl) (by kernel_rfl) rfl (fun K hK K1 hK1=>?_);simp (disch:=omega) only [push_cast,↓Int.cast_ofNat_Int,simprocAttr,eD,dN,fE,eC,gT,pE,eB,dL,bR,cG,cU,bS,bT,gU,eE,eM,fJ,fH,dQ,cH,cV,gX,gW,gV,eF,eG,eK,eJ,gY,dU,eH,fG,List.tail_cons,List.take_nil,List.drop_nil,yV,yU,qP,qCx,yW hlt,List.drop_zero]
   have l1:(out.take k).length≤2097152:=by rw [List.length_take];omega
   have l2:(out.take k).length + (out.drop k).length=out.length:=by rw [List.length_take,List.length_drop];omega
   refine ⟨rfl,by show _ * 40≤_;omega,rfl,⟨of_eq_true (yU [t[i]]),by show _ * 40≤_;omega⟩,by rw [mR],by show _ * 40≤_;omega,by rw [qGg],?_⟩
   rw [← he];refine hK1 _ ?_;(try clear hK1 K1);with_reducible refine aB ?_;simp (disch:=omega) only [push_cast,↓Int.cast_ofNat_Int,simprocAttr]
   refine hK _ ?_;clear hK K;refine zB ?_;refine zA ?_;refine zJ (fun K hK=>?_);simp (disch:=omega) only [push_cast,↓Int.cast_ofNat_Int,simprocAttr];refine hK _ ?_;clear hK K
   refine zA ?_;refine ⟨(i + 1,qC9 out t[i]),by simp only [zZ,zR,zP,zQ,zN,zS,zM,zX,zU,Nat.reduceEqDiff,reduceIte];try rfl,⟨hlt,?_⟩,by dsimp only;omega⟩
   dsimp only;rw [List.take_succ_eq_append_getElem hlt,List.foldl_append,← ho];rfl
 ·have hii:i=t.length:=by omega
  subst hii;rw [List.take_length] at ho;rw [ho];refine zE ?_;refine zE ?_;refine zJ (fun K hK=>?_);simp (disch:=omega) only [push_cast,↓Int.cast_ofNat_Int,simprocAttr,yV];refine hK _ ?_;clear hK K
  refine zA ?_;refine yC rfl ?_;refine zT ?_;refine zG ?_;refine zG ?_;refine zH ?_;refine zE ?_;refine zJ (fun K hK=>?_);simp (disch:=omega) only [push_cast,↓Int.cast_ofNat_Int,simprocAttr];refine hK _ ?_;clear hK K
  refine zA ?_;refine zW ?_;simp only [yA,yM,yH,yE,aA,aC,yK,yJ,zS,zM,Nat.reduceEqDiff,reduceIte,reduceCtorEq];exact xX rfl (aP _) ⟨rfl,rfl⟩
end Go.Proofs.YtbdomkfdkfdfgaaGreatDoor
