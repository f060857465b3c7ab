/-
  The reference's kept pairs; the law DiffScripts.
-/
import Derived.Test.YtmgilahhnbopmaaRefD
import Derived.Test.YtmgilahhnbopmaaMgB
set_option linter.unusedSimpArgs false
set_option linter.unusedVariables false
set_option maxRecDepth 20000
namespace Go.Proofs.Ytmgilahhnbopmaa
open Go Go.Eng Go.RowKit Go.DiffM

set_option maxHeartbeats 2000000 in
theorem qN5 (a b : List ByteArray) : HFun Try.prog 24 [.lst false (aD a), .lst false (aD b)] (fun h st =>
    (400 < a.length∨400 < b.length)∧h=.tup [.v (.slice none 0 0),.v (.int .i64 4)]∧st=[] ∨
    a.length≤400∧b.length≤400∧h=.tup [.own 0,.v (.int .i64 0)]∧st=[(0,zBu (qPw a b))]):=by
  refine rT (N:=54) Try.func24 rfl Try.ntmps24 Try.results24 (by simp) ?_
  refine zGc 0 rfl (fun h1=>?_)
  refine zGc 1 rfl (fun h2=>?_)
  rw [aA] at h1 h2;refine zE ?_;refine zJ (fun K hK=>?_);simp (disch:=omega) only [push_cast,↓iC9,simprocAttr];refine hK _ ?_;clear hK K
  by_cases hlim:400 < a.length∨400 < b.length
  · have hcs:400 < a.length∨(a.length≤400∧400 < b.length):=by omega
    rcases hcs with c1|⟨c1,c2⟩
    all_goals
      (repeat first|refine zE ?_|refine zA ?_|refine zC ?_|refine zB ?_|refine zD ?_);refine zJ (fun K hK=>?_);simp (disch:=omega) only [push_cast,↓iC9,simprocAttr,aA]
      refine hK _ ?_;clear hK K
      (repeat first|refine zE ?_|refine zA ?_|refine zC ?_|refine zB ?_|refine zD ?_)
      refine yD rfl ?_
      (repeat first|refine zE ?_|refine zA ?_|refine zC ?_|refine zB ?_|refine zD ?_);refine zJ (fun K hK=>?_);simp (disch:=omega) only [push_cast,↓iC9,simprocAttr];refine hK _ ?_;clear hK K
      (repeat first|refine zK ?_|refine zG ?_|refine zH ?_|refine zF rfl ?_|refine zL ?_|refine zB ?_|refine zE ?_|refine zA ?_|refine zC ?_|refine zT ?_|refine zW ?_)
      simp only [yA,yM,yH,yE,aR,bT,yK,yJ,zS,zM,Nat.reduceEqDiff,reduceIte,reduceCtorEq];exact tD (.inl ⟨hlim,rfl,rfl⟩)
  · have hA:a.length≤400:=by omega
    have hB:b.length≤400:=by omega
    refine zE ?_;refine zE ?_;refine zJ (fun K hK=>?_);simp (disch:=omega) only [push_cast,↓iC9,simprocAttr,aA]
    refine hK _ ?_;clear hK K;refine zA ?_;refine yC rfl ?_;refine yB [0,1,4,5] [] (by simp only [zZ,zR,zP,zQ,zN,zS,zM,zX,zU,Nat.reduceEqDiff,reduceIte];exact rfl) ?_
    refine zC ?_;refine zE ?_;refine zJ (fun K hK=>?_);simp (disch:=omega) only [push_cast,↓iC9,simprocAttr]
    refine hat 168 zLq (zGl a b hA hB) (.cons (dF (aQ _)) (.cons (dF (aQ _)) .nil)) ?_;rintro _ _ ⟨rfl,rfl⟩;with_reducible refine aH ?_;simp (disch:=omega) only [push_cast,↓iC9,simprocAttr]
    refine hK _ ?_;clear hK K;refine zE ?_;refine zJ (fun K hK=>?_);simp (disch:=omega) only [push_cast,↓iC9,simprocAttr];refine hK _ ?_;clear hK K
    refine zE ?_;refine zJ (fun K hK=>?_);simp (disch:=omega) only [push_cast,↓iC9,simprocAttr];refine hK _ ?_;clear hK K
    refine zE ?_;refine zE ?_;refine zJ (fun K hK=>?_);simp (disch:=omega) only [push_cast,↓iC9,simprocAttr];refine hK _ ?_;clear hK K
    refine yB [6,7,8,9,10] [168] (by simp only [zZ,zR,zP,zQ,zN,zS,zM,zX,zU,Nat.reduceEqDiff,reduceIte];exact rfl) ?_
    refine qB0 7 1 59 2 rfl (by simp only [sZ,yZ,qAb,mE,jZ,gK,fL,jN,gP,mA,gN,gM,oQ,mB,lZ,fR,iC,iE,iD,jM,oN,lX,Nat.reduceBEq,Nat.reduceEqDiff,reduceIte,cond_true,cond_false,List.map_cons,List.map_nil];exact rfl) ?_
    have hsl:(cZ a b).length≤800:=by have:=lR _ a b (Nat.le_refl _);omega
    rw [← qZl];generalize cZ a b=s at *
    have hP:lV s 0 0=[] ++ lV (s.drop 0) 0 0:=rfl
    generalize lV s 0 0=P at *
    refine zD ?_;refine fS (fun x:Nat × Nat × Nat × List (Int × Int)=>⟨[(6,.own 168),(7,.own 1),(8,.v (.int .i64 x.2.1)),(9,.v (.int .i64 x.2.2.1)),(10,.v (.int .i64 x.1))],[(1,zBu x.2.2.2),(168,.sl true 3 1 (gR (xX s)))]⟩)
      (fun x=>x.1≤s.length∧x.2.1≤x.1∧x.2.2.1≤x.1∧x.2.2.2.length≤x.1∧P=x.2.2.2 ++ lV (s.drop x.1) x.2.1 x.2.2.1) (fun x=>s.length - x.1) [6,7,8,9,10] [1,168] (0,0,0,[]) rfl ⟨Nat.zero_le _,Nat.le_refl _,Nat.le_refl _,Nat.le_refl _,hP⟩ ?_
    clear hP;rintro ⟨k,i,j,o⟩ ⟨hk,hi,hj,ho,hP⟩;simp only at hk hi hj ho hP;refine zE ?_;refine zE ?_;refine zJ (fun K hK=>?_);simp (disch:=omega) only [push_cast,↓iC9,simprocAttr,qBx];refine hK _ ?_;clear hK K
    refine zA ?_;refine lM rfl (fun hlt=>?_) (fun hge=>?_)
    · have hks:k < s.length:=by simpa using hlt
      rw [List.drop_eq_getElem_cons hks,lV] at hP
      have hcs:s[k]=0∨s[k]=1∨s[k]=2∨2 < s[k]:=by omega
      rcases hcs with c1|c1|c1|c1
      all_goals
        (repeat first|refine zE ?_|refine zA ?_|refine zC ?_|refine zB ?_|refine zD ?_);refine zJ (fun K hK=>?_);simp (disch:=omega) only [push_cast,↓iC9,simprocAttr,qBx,qFb,eU];refine hK _ ?_;clear hK K
        refine yB [6,7,8,9,10,32] [1,168] (by simp only [zZ,zR,zP,zQ,zN,zS,zM,zX,zU,Nat.reduceEqDiff,reduceIte];exact rfl) ?_
        (repeat first|refine zE ?_|refine zA ?_|refine zC ?_|refine zB ?_|refine zD ?_)
        first
         |(refine yC rfl ?_)
          | (refine yD rfl ?_
             refine zJ (fun K hK=>?_);simp (disch:=omega) only [push_cast,↓iC9,simprocAttr,nN,qKe];refine hK _ ?_;clear hK K)
        (repeat first|refine zE ?_|refine zA ?_|refine zC ?_|refine zB ?_|refine zD ?_);refine zJ (fun K hK=>?_);simp (disch:=omega) only [push_cast,↓iC9,simprocAttr,qBx,qFb,eU];refine hK _ ?_;clear hK K
        refine yB [6,7,8,9,10,43] [1,168] (by simp only [zZ,zR,zP,zQ,zN,zS,zM,zX,zU,Nat.reduceEqDiff,reduceIte];exact rfl) ?_
        (repeat first|refine zE ?_|refine zA ?_|refine zC ?_|refine zB ?_|refine zD ?_)
        first
         |(refine yC rfl ?_)
          | (refine yD rfl ?_
             (repeat first|refine zE ?_|refine zA ?_|refine zC ?_|refine zB ?_|refine zD ?_);refine zJ (fun K hK=>?_);simp (disch:=omega) only [push_cast,↓iC9,simprocAttr];refine hK _ ?_;clear hK K)
        (repeat first|refine zE ?_|refine zA ?_|refine zC ?_|refine zB ?_|refine zD ?_);refine zJ (fun K hK=>?_);simp (disch:=omega) only [push_cast,↓iC9,simprocAttr,qBx,qFb,eU];refine hK _ ?_;clear hK K
        refine yB [6,7,8,9,10,50] [1,168] (by simp only [zZ,zR,zP,zQ,zN,zS,zM,zX,zU,Nat.reduceEqDiff,reduceIte];exact rfl) ?_
        (repeat first|refine zE ?_|refine zA ?_|refine zC ?_|refine zB ?_|refine zD ?_)
        first
         |(refine yC rfl ?_)
          | (refine yD rfl ?_
             (repeat first|refine zE ?_|refine zA ?_|refine zC ?_|refine zB ?_|refine zD ?_);refine zJ (fun K hK=>?_);simp (disch:=omega) only [push_cast,↓iC9,simprocAttr];refine hK _ ?_;clear hK K)
        (repeat first|refine zK ?_|refine zG ?_|refine zH ?_|refine zF rfl ?_|refine zL ?_|refine zB ?_|refine zE ?_|refine zA ?_|refine zC ?_|refine zT ?_|refine zW ?_)
        (repeat first|refine zE ?_|refine zA ?_|refine zC ?_|refine zB ?_|refine zD ?_);refine zJ (fun K hK=>?_);simp (disch:=omega) only [push_cast,↓iC9,simprocAttr];refine hK _ ?_;clear hK K
      · exact zA ⟨(k + 1,i + 1,j + 1,o ++ [((i:Int),(j:Int))]),rfl,⟨hks,by show i + 1≤k + 1;omega,by show j + 1≤k + 1;omega,by simp;omega,by rw [hP,if_pos c1,if_neg (by omega),if_neg (by omega),List.append_assoc]⟩,by show s.length - (k + 1) < s.length - k;omega⟩
      · exact zA ⟨(k + 1,i + 1,j,o),rfl,⟨hks,by show i + 1≤k + 1;omega,by show j≤k + 1;omega,by show o.length≤k + 1;omega,by rw [hP,if_neg (by omega),if_neg (by omega),if_pos c1,List.nil_append]⟩,by show s.length - (k + 1) < s.length - k;omega⟩
      · exact zA ⟨(k + 1,i,j + 1,o),rfl,⟨hks,by show i≤k + 1;omega,by show j + 1≤k + 1;omega,by show o.length≤k + 1;omega,by rw [hP,if_neg (by omega),if_pos c1,if_neg (by omega),List.nil_append]⟩,by show s.length - (k + 1) < s.length - k;omega⟩
      · exact zA ⟨(k + 1,i + 1,j + 1,o),rfl,⟨hks,by show i + 1≤k + 1;omega,by show j + 1≤k + 1;omega,by show o.length≤k + 1;omega,by rw [hP,if_neg (by omega),if_neg (by omega),if_neg (by omega),List.nil_append]⟩,by show s.length - (k + 1) < s.length - k;omega⟩
    · have hge' : k = s.length := by have : s.length ≤ k := by simpa using hge
                                     omega
      subst hge';refine zT ?_;refine zG ?_;refine zG ?_;refine zH ?_;refine zE ?_;refine zJ (fun K hK=>?_);simp (disch:=omega) only [push_cast,↓iC9,simprocAttr];refine hK _ ?_;clear hK K
      refine zA ?_;refine zW ?_;simp only [yA,yM,yH,yE,aR,bT,yK,yJ,zS,zM,Nat.reduceEqDiff,reduceIte,reduceCtorEq];refine xJ rfl (qF9 _) (.inr ⟨hA,hB,rfl,?_⟩);rw [hP,List.drop_eq_nil_of_le (Nat.le_refl _),lV,List.append_nil]
end Go.Proofs.Ytmgilahhnbopmaa
