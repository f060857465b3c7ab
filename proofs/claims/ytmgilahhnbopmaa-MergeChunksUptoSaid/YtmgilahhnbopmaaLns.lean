/-
  Lines: what they are; the walks of lines.Split, Count, Text, Closed and of the reference's.
-/
import Derived.Test.YtmgilahhnbopmaaLsp
set_option linter.unusedSimpArgs false
set_option linter.unusedVariables false
set_option maxRecDepth 20000
namespace Go.Proofs.Ytmgilahhnbopmaa
open Go Go.Eng Go.RowKit
structure RI where
 a:Nat
 i:Nat
 l:List ByteArray
def lrE (s:ByteArray) (k:RI):HS:=⟨[(0,.v (.string s)),(3,.own 9000),(4,.v (.int .i64 k.a)),(5,.v (.int .i64 k.i))],[(9000,.sl true 9 1 (aD k.l))]⟩
def lrI (s:ByteArray) (k:RI):Prop:=k.a≤k.i∧k.i≤s.size∧k.l.length≤k.a∧(k.i=s.size→k.a=k.i)∧(∀ j,k.a≤j→j < k.i→fY s j≠10)∧dA s=k.l ++ dA (s.extract k.a s.size)
set_option maxHeartbeats 4000000 in
theorem wW (s:ByteArray) (hs:s.size≤4294967296):HFun Try.prog 15 [.v (.string s)] (lsQ s):=by
 refine rT (N:=34) Try.func15 rfl Try.ntmps15 Try.results15 (by simp) ?_
 refine zE ?_;refine zJ (fun K hK=>?_);simp (disch:=omega) only [push_cast,↓iC9,simprocAttr];refine hK _ ?_;clear hK K
 refine zE ?_;refine zJ (fun K hK=>?_);simp (disch:=omega) only [push_cast,↓iC9,simprocAttr];refine hK _ ?_;clear hK K
 refine qB0 3 9000 9 1 rfl (by simp only [sZ,yZ,qAb,mE,jZ,gK,fL,jN,gP,mA,gN,gM,oQ,mB,lZ,fR,iC,iE,iD,jM,oN,lX,Nat.reduceBEq,Nat.reduceEqDiff,reduceIte,cond_true,cond_false,List.map_cons,List.map_nil];exact rfl) ?_
 refine zE ?_;refine zJ (fun K hK=>?_);simp (disch:=omega) only [push_cast,↓iC9,simprocAttr];refine hK _ ?_;clear hK K
 refine zE ?_;refine zE ?_;refine zJ (fun K hK=>?_);simp (disch:=omega) only [push_cast,↓iC9,simprocAttr];refine hK _ ?_;clear hK K
 refine zA ?_;refine zD ?_;refine fS (lrE s) (lrI s) (fun k=>s.size - k.i) [0,3,4,5] [9000] ⟨0,0,[]⟩ (by simp only [zZ,zR,zP,zQ,zN,zS,zM,zX,zU,Nat.reduceEqDiff,reduceIte,lrE];rfl) ⟨Nat.le_refl _,Nat.zero_le _,Nat.le_refl _,fun _=>rfl,fun j _ h=>absurd h (Nat.not_lt_zero _),by rw [show (⟨0,0,[]⟩:RI).l=[] from rfl,show (⟨0,0,[]⟩:RI).a=0 from rfl,List.nil_append,← lK (s.extract 0 s.size),lC,List.take_of_length_le (Nat.le_of_eq (lT s)),List.drop_zero,lK]⟩ ?_
 rintro ⟨a,i,l⟩ ⟨h1,h2,h3,h4,h5,h6⟩;dsimp only at h1 h2 h3 h4 h5 h6;simp only [lrE]
 by_cases hlt:i < s.size
 ·refine zE ?_;refine zE ?_;refine zJ (fun K hK=>?_);simp (disch:=omega) only [push_cast,↓iC9,simprocAttr];refine hK _ ?_;clear hK K
  refine yD rfl ?_;refine zC ?_;refine zE ?_
  by_cases hb:fY s i=10
  ·refine zD ?_;refine zE ?_;refine zJ (fun K hK=>?_);simp (disch:=omega) only [push_cast,↓iC9,simprocAttr,hb];(repeat refine ⟨by first|omega|decide|((repeat' apply And.intro) <;> first|omega|decide),?_⟩);refine hK _ ?_;clear hK K
   refine yD rfl ?_;refine zE ?_;refine zJ (fun K hK=>?_);simp (disch:=omega) only [push_cast,↓iC9,simprocAttr,aA];(repeat refine ⟨by first|omega|decide|((repeat' apply And.intro) <;> first|omega|decide),?_⟩);refine hK _ ?_;clear hK K
   refine zA ?_;refine zJ (fun K hK=>?_);simp (disch:=omega) only [push_cast,↓iC9,simprocAttr];refine hK _ ?_;clear hK K
   refine zB ?_;refine zA ?_;refine zJ (fun K hK=>?_);simp (disch:=omega) only [push_cast,↓iC9,simprocAttr];refine hK _ ?_;clear hK K
   refine zA ?_;refine ⟨⟨i + 1,i + 1,l ++ [s.extract a (i + 1)]⟩,by simp only [zZ,zR,zP,zQ,zN,zS,zM,zX,zU,Nat.reduceEqDiff,reduceIte,lrE,mZ];try rfl,⟨Nat.le_refl _,hlt,by simp;omega,fun _=>rfl,fun j p q=>by dsimp only at p q;omega,?_⟩,by dsimp only;omega⟩
   rw [h6,qY5 s a i h1 hlt h5 (.inl hb)];simp
  ·by_cases hz:i + 1=s.size
   ·have e1:decide ((i:Int)=(s.size:Int) - 1)=true:=decide_eq_true (by omega)
    have e2:decide (fY s i=10)=false:=decide_eq_false hb
    refine zD ?_;refine zE ?_;refine zJ (fun K hK=>?_);simp (disch:=omega) only [push_cast,↓iC9,simprocAttr,e1,e2];(repeat refine ⟨by first|omega|decide|((repeat' apply And.intro) <;> first|omega|decide),?_⟩);refine hK _ ?_;clear hK K
    refine yD rfl ?_;refine zE ?_;refine zJ (fun K hK=>?_);simp (disch:=omega) only [push_cast,↓iC9,simprocAttr,aA];(repeat refine ⟨by first|omega|decide|((repeat' apply And.intro) <;> first|omega|decide),?_⟩);refine hK _ ?_;clear hK K
    refine zA ?_;refine zJ (fun K hK=>?_);simp (disch:=omega) only [push_cast,↓iC9,simprocAttr];refine hK _ ?_;clear hK K
    refine zB ?_;refine zA ?_;refine zJ (fun K hK=>?_);simp (disch:=omega) only [push_cast,↓iC9,simprocAttr];refine hK _ ?_;clear hK K
    refine zA ?_;refine ⟨⟨i + 1,i + 1,l ++ [s.extract a (i + 1)]⟩,by simp only [zZ,zR,zP,zQ,zN,zS,zM,zX,zU,Nat.reduceEqDiff,reduceIte,lrE,mZ];try rfl,⟨Nat.le_refl _,hlt,by simp;omega,fun _=>rfl,fun j p q=>by dsimp only at p q;omega,?_⟩,by dsimp only;omega⟩
    rw [h6,qY5 s a i h1 hlt h5 (.inr hz)];simp
   ·have e1:decide ((i:Int)=(s.size:Int) - 1)=false:=decide_eq_false (by omega)
    have e2:decide (fY s i=10)=false:=decide_eq_false hb
    refine zD ?_;refine zE ?_;refine zJ (fun K hK=>?_);simp (disch:=omega) only [push_cast,↓iC9,simprocAttr,e1,e2];(repeat refine ⟨by first|omega|decide|((repeat' apply And.intro) <;> first|omega|decide),?_⟩);refine hK _ ?_;clear hK K
    refine yC rfl ?_;refine zC ?_;refine zB ?_;refine zA ?_;refine zJ (fun K hK=>?_);simp (disch:=omega) only [push_cast,↓iC9,simprocAttr];refine hK _ ?_;clear hK K
    refine zA ?_;refine ⟨⟨a,i + 1,l⟩,by simp only [zZ,zR,zP,zQ,zN,zS,zM,zX,zU,Nat.reduceEqDiff,reduceIte,lrE];try rfl,⟨by dsimp only;omega,hlt,h3,fun h=>absurd h hz,fun j p q=>?_,h6⟩,by dsimp only;omega⟩
    dsimp only at p q
    by_cases e:j=i
    ·subst e;exact hb
    ·exact h5 j p (by omega)
 ·have hi:i=s.size:=by omega
  have ha:=h4 hi
  refine zE ?_;refine zE ?_;refine zJ (fun K hK=>?_);simp (disch:=omega) only [push_cast,↓iC9,simprocAttr];refine hK _ ?_;clear hK K
  refine yC rfl ?_;refine zT ?_;refine zG ?_;refine zG ?_;refine zH ?_;refine zE ?_;refine zJ (fun K hK=>?_);simp (disch:=omega) only [push_cast,↓iC9,simprocAttr];refine hK _ ?_;clear hK K
  refine zA ?_;refine zW ?_;simp only [yA,yM,yH,yE,aR,bT,yK,yJ,zS,zM,Nat.reduceEqDiff,reduceIte,reduceCtorEq]
  have e:dA s=l:=by
   rw [h6,ha,hi];unfold dA;rw [lC,List.drop_eq_nil_of_le (by simp)];simp [spl]
  exact xK rfl (jS _) ⟨rfl,by rw [e]⟩
end Go.Proofs.Ytmgilahhnbopmaa
