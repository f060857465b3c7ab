/-
  The reference's cZ, hD and kept pairs.
-/
import Derived.Test.YtmgilahhnbopmaaTab
set_option linter.unusedSimpArgs false
set_option linter.unusedVariables false
set_option maxRecDepth 20000
namespace Go.Proofs.Ytmgilahhnbopmaa
open Go Go.Eng Go.RowKit Go.DiffM

def xX (o:List Nat):List Int:=o.map fun (n:Nat)=>(n:Int)
theorem qYl (o:List Nat) (n:Nat):xX o ++ [(n:Int)]=xX (o ++ [n]):=by simp [xX]
theorem qFa (o:List Nat):(xX o).length=o.length:=by simp [xX]
set_option maxHeartbeats 2000000 in
theorem zGl (a b:List ByteArray) (hA:a.length≤400) (hB:b.length≤400):HFun Try.prog 32 [.lst false (aD a),.lst false (aD b)] (fun h st=>h=.own 0∧st=[(0,.sl true 3 1 (gR (xX (cZ a b))))]):=by
 refine rT (N:=93) Try.func32 rfl Try.ntmps32 Try.results32 (by simp) ?_
 refine zE ?_;refine zJ (fun K hK=>?_);simp (disch:=omega) only [push_cast,↓iC9,simprocAttr];refine hK _ ?_;clear hK K
 refine zE ?_;refine zJ (fun K hK=>?_);simp (disch:=omega) only [push_cast,↓iC9,simprocAttr]
 refine hat 88 zLl (zGk a b hA hB) (.cons (dF (aQ _)) (.cons (dF (aQ _)) .nil)) ?_;rintro _ _ ⟨rfl,rfl⟩;with_reducible refine aH ?_;simp (disch:=omega) only [push_cast,↓iC9,simprocAttr]
 refine hK _ ?_;clear hK K;refine zE ?_;refine zJ (fun K hK=>?_);simp (disch:=omega) only [push_cast,↓iC9,simprocAttr];refine hK _ ?_;clear hK K
 refine zE ?_;refine zJ (fun K hK=>?_);simp (disch:=omega) only [push_cast,↓iC9,simprocAttr];refine hK _ ?_;clear hK K
 refine zE ?_;refine zD ?_;refine yB [0,1,5,6,7,8] [88] (by simp only [zZ,zR,zP,zQ,zN,zS,zM,zX,zU,Nat.reduceEqDiff,reduceIte];exact rfl) ?_
 refine qB0 6 1 3 1 rfl (by simp only [sZ,yZ,qAb,mE,jZ,gK,fL,jN,gP,mA,gN,gM,oQ,mB,lZ,fR,iC,iE,iD,jM,oN,lX,Nat.reduceBEq,Nat.reduceEqDiff,reduceIte,cond_true,cond_false,List.map_cons,List.map_nil];exact rfl) ?_
 have hln:=lR _ a b (Nat.le_refl _)
 refine fS (fun x:Nat × Nat × List Int=>⟨[(0,.lst false (aD a)),(1,.lst false (aD b)),(5,.own 88),(6,.own 1),(7,.v (.int .i64 x.1)),(8,.v (.int .i64 x.2.1))],[(1,.sl true 3 1 (gR x.2.2)),(88,.sl true 39 1 (tab a b))]⟩)
  (fun x=>x.1≤a.length∧x.2.1≤b.length∧∃ o,x.2.2=xX o∧cZ a b=o ++ cZ (a.drop x.1) (b.drop x.2.1)) (fun x=>a.length - x.1 + (b.length - x.2.1)) [0,1,5,6,7,8] [1,88] (0,0,[]) rfl ⟨Nat.zero_le _,Nat.zero_le _,[],rfl,by simp⟩ ?_
 rintro ⟨i,j,out⟩ ⟨hi,hj,o,ho,hst⟩;simp only at hi hj ho hst
 have hol:out.length≤800:=by
  have:=congrArg List.length hst
  rw [List.length_append] at this;rw [ho,qFa];omega
 have next:∀ (op:Nat) (i' j':Nat),cZ (a.drop i) (b.drop j)=op :: cZ (a.drop i') (b.drop j')→∃ o',out ++ [(op:Int)]=xX o'∧cZ a b=o' ++ cZ (a.drop i') (b.drop j'):=fun op i' j' h =>
  ⟨o ++ [op],by rw [ho,qYl],by rw [hst,h];simp⟩
 by_cases hend:i=a.length∧j=b.length
 ·obtain ⟨rfl,rfl⟩:=hend;refine zE ?_;refine zE ?_;refine zJ (fun K hK=>?_);simp (disch:=omega) only [push_cast,↓iC9,simprocAttr,aA];refine hK _ ?_;clear hK K
  refine zA ?_;refine yC rfl ?_;refine zT ?_;refine zG ?_;refine zG ?_;refine zH ?_;refine zE ?_;refine zJ (fun K hK=>?_);simp (disch:=omega) only [push_cast,↓iC9,simprocAttr];refine hK _ ?_;clear hK K
  refine zA ?_;refine zW ?_;simp only [yA,yM,yH,yE,aR,bT,yK,yJ,zS,zM,Nat.reduceEqDiff,reduceIte,reduceCtorEq];refine xK rfl (xH _) ⟨rfl,?_⟩;rw [qEr _ _ _ _ (Nat.le_refl _) (Nat.le_refl _),List.append_nil] at hst;rw [hst,ho]
 ·have hin:i < a.length∨(a.length≤i∧j < b.length):=by omega
  rcases hin with hia|⟨hia,hjb⟩
  all_goals (repeat first|refine zE ?_|refine zA ?_|refine zC ?_|refine zB ?_|refine zD ?_);refine zJ (fun K hK=>?_);simp (disch:=omega) only [push_cast,↓iC9,simprocAttr,aA]
  all_goals refine hK _ ?_;clear hK K
  all_goals (repeat first|refine zE ?_|refine zA ?_|refine zC ?_|refine zB ?_|refine zD ?_)
  all_goals refine yD rfl ?_
  all_goals refine yB [0,1,5,6,7,8] [1,88] (by simp only [zZ,zR,zP,zQ,zN,zS,zM,zX,zU,Nat.reduceEqDiff,reduceIte];exact rfl) ?_
  ·by_cases hjb:j < b.length
   ·by_cases he:a[i]=b[j]
    ·have he':decide (a[i]=b[j])=true:=decide_eq_true he
     refine zC ?_;refine zA ?_;refine zD ?_;refine zE ?_;refine HW_drw 21 mixed (by kernel_rfl) (fun K hK=>?_);simp (disch:=omega) only [push_cast,↓iC9,simprocAttr,aA,bE,fT,he']
     with_reducible refine aH ?_;simp (disch:=omega) only [push_cast,↓iC9,simprocAttr]
     refine hK _ ?_;clear hK K;refine yB [0,1,5,6,7,8,42] [1,88] (by simp only [zZ,zR,zP,zQ,zN,zS,zM,zX,zU,Nat.reduceEqDiff,reduceIte];exact rfl) ?_
     skip
     refine yD rfl ?_;refine zE ?_;refine zJ (fun K hK=>?_);simp (disch:=omega) only [push_cast,↓iC9,simprocAttr,dJ,vF];refine hK _ ?_;clear hK K
     refine yB [0,1,5,6,7,8] [1,88] (by simp only [zZ,zR,zP,zQ,zN,zS,zM,zX,zU,Nat.reduceEqDiff,reduceIte];exact rfl) ?_
     refine zE ?_;refine zJ (fun K hK=>?_);simp (disch:=omega) only [push_cast,↓iC9,simprocAttr];refine hK _ ?_;clear hK K
     refine zA ?_;refine zJ (fun K hK=>?_);simp (disch:=omega) only [push_cast,↓iC9,simprocAttr];refine hK _ ?_;clear hK K
     refine zB ?_;refine zA ?_;exact ⟨(i + 1,j + 1,out ++ [0]),rfl,⟨hia,hjb,next 0 _ _ (qCk a b i j hia hjb he)⟩,by show a.length - (i + 1) + (b.length - (j + 1)) < a.length - i + (b.length - j);omega⟩
    ·have he':decide (a[i]=b[j])=false:=decide_eq_false he
     refine zC ?_;refine zA ?_;refine zD ?_;refine zE ?_;refine HW_drw 21 mixed (by kernel_rfl) (fun K hK=>?_);simp (disch:=omega) only [push_cast,↓iC9,simprocAttr,aA,bE,fT,he']
     with_reducible refine aH ?_;simp (disch:=omega) only [push_cast,↓iC9,simprocAttr]
     refine hK _ ?_;clear hK K;refine yB [0,1,5,6,7,8,42] [1,88] (by simp only [zZ,zR,zP,zQ,zN,zS,zM,zX,zU,Nat.reduceEqDiff,reduceIte];exact rfl) ?_
     skip
     refine yC rfl ?_;refine zE ?_;refine zJ (fun K hK=>?_);simp (disch:=omega) only [push_cast,↓iC9,simprocAttr,aA];refine hK _ ?_;clear hK K
     refine zA ?_;refine yC rfl ?_;refine yB [0,1,5,6,7,8] [1,88] (by simp only [zZ,zR,zP,zQ,zN,zS,zM,zX,zU,Nat.reduceEqDiff,reduceIte];exact rfl) ?_
     have hx:(pB a b (i + 1))[j]'(by rw [pT];omega)=((at2 a b (i + 1) j:Nat):Int):=qBj _ _ _ _ _
     have hy:(pB a b i)[j + 1]'(by rw [pT];omega)=((at2 a b i (j + 1):Nat):Int):=qBj _ _ _ _ _
     have l1:=pT a b (i + 1)
     have l2:=pT a b i
     by_cases hc:at2 a b (i + 1) j < at2 a b i (j + 1)
     ·refine zE ?_;refine HW_drw 23 mixed (by kernel_rfl) (fun K hK=>?_);simp (disch:=omega) only [push_cast,↓iC9,simprocAttr,aA,bE,qRx,qRy,qRw,dJ,fP,eU,hx,hy]
      with_reducible refine aH ?_;simp (disch:=omega) only [push_cast,↓iC9,simprocAttr]
      refine hK _ ?_;clear hK K;refine yB [0,1,5,6,7,8,81] [1,88] (by simp only [zZ,zR,zP,zQ,zN,zS,zM,zX,zU,Nat.reduceEqDiff,reduceIte];exact rfl) ?_
      skip
      refine yD rfl ?_;refine zE ?_;refine zJ (fun K hK=>?_);simp (disch:=omega) only [push_cast,↓iC9,simprocAttr,dJ,vF];refine hK _ ?_;clear hK K
      refine zA ?_;refine zJ (fun K hK=>?_);simp (disch:=omega) only [push_cast,↓iC9,simprocAttr];refine hK _ ?_;clear hK K
      refine zB ?_;refine zA ?_;exact ⟨(i,j + 1,out ++ [2]),rfl,⟨hi,hjb,next 2 _ _ (pS a b i j hjb (.inr ⟨hia,he,hc⟩))⟩,by show a.length - i + (b.length - (j + 1)) < a.length - i + (b.length - j);omega⟩
     ·refine zE ?_;refine HW_drw 23 mixed (by kernel_rfl) (fun K hK=>?_);simp (disch:=omega) only [push_cast,↓iC9,simprocAttr,aA,bE,qRx,qRy,qRw,dJ,fP,eU,hx,hy]
      with_reducible refine aH ?_;simp (disch:=omega) only [push_cast,↓iC9,simprocAttr]
      refine hK _ ?_;clear hK K;refine yB [0,1,5,6,7,8,81] [1,88] (by simp only [zZ,zR,zP,zQ,zN,zS,zM,zX,zU,Nat.reduceEqDiff,reduceIte];exact rfl) ?_
      skip
      refine yC rfl ?_;refine zE ?_;refine zJ (fun K hK=>?_);simp (disch:=omega) only [push_cast,↓iC9,simprocAttr,dJ,vF];refine hK _ ?_;clear hK K
      refine zA ?_;refine zJ (fun K hK=>?_);simp (disch:=omega) only [push_cast,↓iC9,simprocAttr];refine hK _ ?_;clear hK K
      refine zB ?_;refine zA ?_;exact ⟨(i + 1,j,out ++ [1]),rfl,⟨hia,hj,next 1 _ _ (nA a b i j hia (.inr ⟨hjb,he,by omega⟩))⟩,by show a.length - (i + 1) + (b.length - j) < a.length - i + (b.length - j);omega⟩
   ·refine zC ?_;refine zA ?_;refine zD ?_;refine zE ?_;refine HW_drw 21 mixed (by kernel_rfl) (fun K hK=>?_);simp (disch:=omega) only [push_cast,↓iC9,simprocAttr,aA,bE,fT]
    with_reducible refine aH ?_;simp (disch:=omega) only [push_cast,↓iC9,simprocAttr]
    refine hK _ ?_;clear hK K;refine yB [0,1,5,6,7,8,42] [1,88] (by simp only [zZ,zR,zP,zQ,zN,zS,zM,zX,zU,Nat.reduceEqDiff,reduceIte];exact rfl) ?_
    skip
    refine yC rfl ?_;refine zE ?_;refine zJ (fun K hK=>?_);simp (disch:=omega) only [push_cast,↓iC9,simprocAttr,aA];refine hK _ ?_;clear hK K
    refine zA ?_;refine yD rfl ?_;refine zE ?_;refine zJ (fun K hK=>?_);simp (disch:=omega) only [push_cast,↓iC9,simprocAttr,dJ,vF];refine hK _ ?_;clear hK K
    refine zA ?_;refine zJ (fun K hK=>?_);simp (disch:=omega) only [push_cast,↓iC9,simprocAttr];refine hK _ ?_;clear hK K
    refine zB ?_;refine zA ?_;exact ⟨(i + 1,j,out ++ [1]),rfl,⟨hia,hj,next 1 _ _ (nA a b i j hia (.inl (by omega)))⟩,by show a.length - (i + 1) + (b.length - j) < a.length - i + (b.length - j);omega⟩
  ·refine zC ?_;refine zA ?_;refine zD ?_;refine zE ?_;refine HW_drw 21 mixed (by kernel_rfl) (fun K hK=>?_);simp (disch:=omega) only [push_cast,↓iC9,simprocAttr,aA,bE,fT]
   with_reducible refine aH ?_;simp (disch:=omega) only [push_cast,↓iC9,simprocAttr]
   refine hK _ ?_;clear hK K;refine yB [0,1,5,6,7,8,42] [1,88] (by simp only [zZ,zR,zP,zQ,zN,zS,zM,zX,zU,Nat.reduceEqDiff,reduceIte];exact rfl) ?_
   skip
   refine yC rfl ?_;refine zE ?_;refine zJ (fun K hK=>?_);simp (disch:=omega) only [push_cast,↓iC9,simprocAttr,aA];refine hK _ ?_;clear hK K
   refine zA ?_;refine yC rfl ?_;refine yB [0,1,5,6,7,8] [1,88] (by simp only [zZ,zR,zP,zQ,zN,zS,zM,zX,zU,Nat.reduceEqDiff,reduceIte];exact rfl) ?_
   refine zE ?_;refine HW_drw 23 mixed (by kernel_rfl) (fun K hK=>?_);simp (disch:=omega) only [push_cast,↓iC9,simprocAttr,aA,bE,qRx,qRy,qRw,dJ,fP,eU]
   with_reducible refine aH ?_;simp (disch:=omega) only [push_cast,↓iC9,simprocAttr]
   refine hK _ ?_;clear hK K;refine yB [0,1,5,6,7,8,81] [1,88] (by simp only [zZ,zR,zP,zQ,zN,zS,zM,zX,zU,Nat.reduceEqDiff,reduceIte];exact rfl) ?_
   skip
   refine yD rfl ?_;refine zE ?_;refine zJ (fun K hK=>?_);simp (disch:=omega) only [push_cast,↓iC9,simprocAttr,dJ,vF];refine hK _ ?_;clear hK K
   refine zA ?_;refine zJ (fun K hK=>?_);simp (disch:=omega) only [push_cast,↓iC9,simprocAttr];refine hK _ ?_;clear hK K
   refine zB ?_;refine zA ?_;exact ⟨(i,j + 1,out ++ [2]),rfl,⟨hi,hjb,next 2 _ _ (pS a b i j hjb (.inl hia))⟩,by show a.length - i + (b.length - (j + 1)) < a.length - i + (b.length - j);omega⟩
end Go.Proofs.Ytmgilahhnbopmaa
