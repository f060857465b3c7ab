/-
  Lines: Text, Closed, Join, and the law's awake.
-/
import Derived.Test.YtdfjeokjmigkaaaGreatLns
import Derived.Test.YtdfjeokjmigkaaaGreatLtx
set_option linter.unusedSimpArgs false
set_option linter.unusedVariables false
set_option maxRecDepth 20000
namespace Go.Proofs.YtdfjeokjmigkaaaGreat
open Go Go.Eng Go.RowKit

def tyE (s:ByteArray) (i:Nat):HS:=⟨[(0,.v (.string s)),(3,.v (.int .i64 i))],[]⟩
set_option maxHeartbeats 4000000 in
theorem qPo (s:ByteArray) (hs:s.size≤4294967296):HFun Tryz.prog 70 [.v (.string s)] (fun h st=>h=.v (.int .i64 (eG s))):=by
 have hc:=qBa s hs
 have hle:=qS0 s
 refine eF (N:=18) Tryz.func70 rfl Tryz.ntmps70 Tryz.results70 (by simp) ?_
 refine zE ?_;refine zJ (fun K hK=>?_);simp (disch:=omega) only [push_cast,↓Int.cast_ofNat_Int,simprocAttr];refine hK _ ?_
 refine zE ?_;refine zE ?_;refine zJ (fun K hK=>?_);simp (disch:=omega) only [push_cast,↓Int.cast_ofNat_Int,simprocAttr];refine hK _ ?_
 refine zA ?_;refine zD ?_;refine bR (tyE s) (fun i=>i≤s.size∧∀ j,j < i→dX s j≠0) (fun i=>s.size - i) [0,3] [] 0 (by simp only [zZ,zR,zP,zQ,zN,zS,zM,zX,zU,Nat.reduceEqDiff,reduceIte,tyE];rfl) ⟨Nat.zero_le _,fun j h=>absurd h (Nat.not_lt_zero _)⟩ ?_
 rintro i ⟨h1,h2⟩;simp only [tyE]
 by_cases hlt:i < s.size
 ·refine zE ?_;refine zE ?_;refine zJ (fun K hK=>?_);simp (disch:=omega) only [push_cast,↓Int.cast_ofNat_Int,simprocAttr];refine hK _ ?_
  refine yD rfl ?_;refine zC ?_;refine zE ?_
  by_cases hb:dX s i=0
  ·have e1:decide (dX s i=0)=true:=decide_eq_true hb
   refine zD ?_;refine zE ?_;refine zJ (fun K hK=>?_);simp (disch:=omega) only [push_cast,↓Int.cast_ofNat_Int,simprocAttr,e1];(repeat refine ⟨by first|omega|decide|((repeat' apply And.intro) <;> first|omega|decide),?_⟩);refine hK _ ?_
   refine yD rfl ?_;refine zE ?_;refine zJ (fun K hK=>?_);simp (disch:=omega) only [push_cast,↓Int.cast_ofNat_Int,simprocAttr];refine hK _ ?_
   refine zA ?_;refine zW ?_;refine zL ?_;refine zK ?_;refine zK ?_;refine zL ?_;refine zK ?_;simp only [yA,yM,yH,yE,aA,aC,yK,yJ,zS,zM,Nat.reduceEqDiff,reduceIte,reduceCtorEq]
   have e:eG s=21:=if_pos ⟨i,hlt,hb⟩
   rw [e];exact aL rfl
  ·have e1:decide (dX s i=0)=false:=decide_eq_false hb
   refine zD ?_;refine zE ?_;refine zJ (fun K hK=>?_);simp (disch:=omega) only [push_cast,↓Int.cast_ofNat_Int,simprocAttr,e1];(repeat refine ⟨by first|omega|decide|((repeat' apply And.intro) <;> first|omega|decide),?_⟩);refine hK _ ?_
   refine yC rfl ?_;refine zC ?_;refine zB ?_;refine zA ?_;refine zJ (fun K hK=>?_);simp (disch:=omega) only [push_cast,↓Int.cast_ofNat_Int,simprocAttr];refine hK _ ?_
   refine zA ?_;refine ⟨i + 1,by simp only [zZ,zR,zP,zQ,zN,zS,zM,zX,zU,Nat.reduceEqDiff,reduceIte,tyE];try rfl,⟨hlt,fun j hj=>?_⟩,by omega⟩
   by_cases e:j=i
   ·subst e;exact hb
   ·exact h2 j (by omega)
 ·have hno:¬ ∃ i,i < s.size∧dX s i=0:=fun ⟨j,a,b⟩=>h2 j (by omega) b
  have e:eG s=if 400 < (bW s).length then 4 else 0:=if_neg hno
  refine zE ?_;refine zE ?_;refine zJ (fun K hK=>?_);simp (disch:=omega) only [push_cast,↓Int.cast_ofNat_Int,simprocAttr];refine hK _ ?_
  refine yC rfl ?_;refine zT ?_;refine zG ?_;refine zG ?_;refine zH ?_;refine zE ?_;refine zE ?_;refine zJ (fun K hK=>?_);simp (disch:=omega) only [push_cast,↓Int.cast_ofNat_Int,simprocAttr]
  refine hat 120 zQi hc (.cons (.v _) .nil) ?_;rintro _ _ ⟨rfl,rfl⟩;with_reducible refine aB ?_;simp (disch:=omega) only [push_cast,↓Int.cast_ofNat_Int,simprocAttr,aF]
  by_cases h4:400 < (bW s).length
  ·refine hK _ ?_;refine eQ rfl (fun ht=>?_) (fun hf=>by first|(simp at hf;done)|(simp at hf;omega))
   refine zE ?_;refine zJ (fun K hK=>?_);simp (disch:=omega) only [push_cast,↓Int.cast_ofNat_Int,simprocAttr];refine hK _ ?_
   refine zA ?_;refine zW ?_;refine zK ?_;simp only [yA,yM,yH,yE,aA,aC,yK,yJ,zS,zM,Nat.reduceEqDiff,reduceIte,reduceCtorEq];rw [e,if_pos h4];exact aL rfl
  ·refine hK _ ?_;refine eQ rfl (fun ht=>by first|(simp at ht;done)|(simp at ht;omega)) (fun hf=>?_)
   refine zC ?_;refine zE ?_;refine zJ (fun K hK=>?_);simp (disch:=omega) only [push_cast,↓Int.cast_ofNat_Int,simprocAttr];refine hK _ ?_
   refine zA ?_;refine zW ?_;simp only [yA,yM,yH,yE,aA,aC,yK,yJ,zS,zM,Nat.reduceEqDiff,reduceIte,reduceCtorEq];rw [e,if_neg h4];exact aL rfl
def tcE (l:List ByteArray) (i:Nat):HS:=⟨[(0,.lst false (aK l)),(3,.own 9000),(4,.v (.int .i64 i))],[(9000,.sl true 9 1 (aK ((dU l).take i)))]⟩
set_option maxHeartbeats 4000000 in
theorem qJk (l:List ByteArray) (hl:l.length≤4294967296) (hs:∀ x ∈ l,x.size≤4294967296):HFun Tryz.prog 51 [.lst false (aK l)] (fun h st=>h=.own 0∧st=[(0,.sl true 9 1 (aK (dU l)))]):=by
 have hcl:=nT l
 refine eF (N:=41) Tryz.func51 rfl Tryz.ntmps51 Tryz.results51 (by simp) ?_
 refine zE ?_;refine zJ (fun K hK=>?_);simp (disch:=omega) only [push_cast,↓Int.cast_ofNat_Int,simprocAttr];refine hK _ ?_
 refine zE ?_;refine zJ (fun K hK=>?_);simp (disch:=omega) only [push_cast,↓Int.cast_ofNat_Int,simprocAttr];refine hK _ ?_
 refine qE 3 9000 9 1 rfl (by simp only [oK,tJ,tK,gQ,fN,gG,fF,kG,gN,jD,gM,gK,iQ,gP,gJ,fM,iL,iN,iM,kF,kP,jC,Nat.reduceBEq,Nat.reduceEqDiff,reduceIte,cond_true,cond_false,List.map_cons,List.map_nil];exact rfl) ?_
 refine zE ?_;refine zE ?_;refine zJ (fun K hK=>?_);simp (disch:=omega) only [push_cast,↓Int.cast_ofNat_Int,simprocAttr];refine hK _ ?_
 refine zA ?_;refine zD ?_;refine bR (tcE l) (fun i=>i≤l.length) (fun i=>l.length - i) [0,3,4] [9000] 0 (by simp only [zZ,zR,zP,zQ,zN,zS,zM,zX,zU,Nat.reduceEqDiff,reduceIte,tcE];rfl) (Nat.zero_le _) ?_
 intro i h1;simp only [tcE]
 by_cases hlt:i < l.length
 ·have hg:=qVw l i hlt
  have hx:=hs _ (List.getElem_mem hlt)
  have hlen:((dU l).take i).length=i:=by rw [List.length_take];omega
  have htk:(dU l).take (i + 1)=(dU l).take i ++ [(dU l)[i]'(by omega)]:=List.take_succ_eq_append_getElem (by omega)
  rw [hg,qE9] at htk;obtain ⟨x,hxe⟩:∃ x,x=l[i]:=⟨_,rfl⟩
  have hget:(aK l).getD i []=[.v (.string x)]:=by rw [eY hlt,hxe]
  rw [← hxe] at htk hx;refine zE ?_;refine zE ?_;refine zJ (fun K hK=>?_);simp (disch:=omega) only [push_cast,↓Int.cast_ofNat_Int,simprocAttr,aF];refine hK _ ?_
  refine yD rfl ?_;refine zC ?_;refine zE ?_;refine zD ?_;refine zE ?_;refine zJ (fun K hK=>?_);simp (disch:=omega) only [push_cast,↓Int.cast_ofNat_Int,simprocAttr,aF,bJ,hget];(repeat refine ⟨by first|omega|decide|((repeat' apply And.intro) <;> first|omega|decide),?_⟩);refine hK _ ?_
  have hz:x.size + ({ data:=#[10] }:ByteArray).size≤9223372036854775807:=by show _ + 1≤_;omega
  by_cases hlast:i=l.length - 1
  ·rw [if_pos hlast] at htk
   have e0:decide ((i:Int)=(l.length:Int) - 1)=true:=decide_eq_true (by omega)
   by_cases hx0:x.size=0
   ·have hend:lK x.data.toList=false:=by rw [List.eq_nil_of_length_eq_zero ((lE x).trans hx0)];rfl
    rw [hend,if_neg (by simp)] at htk
    have e1:decide ((x.size:Int)=0)=true:=decide_eq_true (by omega)
    refine zE ?_;refine zE ?_;refine zJ (fun K hK=>?_);simp (disch:=omega) only [push_cast,↓Int.cast_ofNat_Int,simprocAttr,aF,e0,e1];(repeat refine ⟨by first|omega|decide|((repeat' apply And.intro) <;> first|omega|decide),?_⟩);refine hK _ ?_
    refine yD rfl ?_;refine zJ (fun K hK=>?_);simp (disch:=omega) only [push_cast,↓Int.cast_ofNat_Int,simprocAttr,hz];refine hK _ ?_
    refine zA ?_;refine zJ (fun K hK=>?_);simp (disch:=omega) only [push_cast,↓Int.cast_ofNat_Int,simprocAttr,aF,hlen];(repeat refine ⟨by first|omega|decide|((repeat' apply And.intro) <;> first|omega|decide),?_⟩);refine hK _ ?_
    refine zB ?_;refine zA ?_;refine zJ (fun K hK=>?_);simp (disch:=omega) only [push_cast,↓Int.cast_ofNat_Int,simprocAttr];refine hK _ ?_
    refine zA ?_;refine ⟨i + 1,?_,hlt,by omega⟩
    simp only [zZ,zR,zP,zQ,zN,zS,zM,zX,zU,Nat.reduceEqDiff,reduceIte,tcE,htk,iH,nl];try rfl
   ·have hend:=zCc x (by omega)
    have e1:decide ((x.size:Int)=0)=false:=decide_eq_false (by omega)
    have e2:((x.size:Int) - 1).toNat=x.size - 1:=by omega
    by_cases hb:dX x (x.size - 1)=10
    ·rw [decide_eq_true hb] at hend;rw [hend,if_pos rfl] at htk;refine zE ?_;refine zE ?_;refine zJ (fun K hK=>?_);simp (disch:=omega) only [push_cast,↓Int.cast_ofNat_Int,simprocAttr,aF,e0,e1,e2,hb];(repeat refine ⟨by first|omega|decide|((repeat' apply And.intro) <;> first|omega|decide),?_⟩);refine hK _ ?_
     refine yC rfl ?_;refine zC ?_;refine zA ?_;refine zJ (fun K hK=>?_);simp (disch:=omega) only [push_cast,↓Int.cast_ofNat_Int,simprocAttr,aF,hlen];(repeat refine ⟨by first|omega|decide|((repeat' apply And.intro) <;> first|omega|decide),?_⟩);refine hK _ ?_
     refine zB ?_;refine zA ?_;refine zJ (fun K hK=>?_);simp (disch:=omega) only [push_cast,↓Int.cast_ofNat_Int,simprocAttr];refine hK _ ?_
     refine zA ?_;refine ⟨i + 1,?_,hlt,by omega⟩
     simp only [zZ,zR,zP,zQ,zN,zS,zM,zX,zU,Nat.reduceEqDiff,reduceIte,tcE,htk,iH,nl];try rfl
    ·have e3:decide (dX x (x.size - 1)=10)=false:=decide_eq_false hb
     rw [e3] at hend;rw [hend,if_neg (by simp)] at htk
     refine zE ?_;refine zE ?_;refine zJ (fun K hK=>?_);simp (disch:=omega) only [push_cast,↓Int.cast_ofNat_Int,simprocAttr,aF,e0,e1,e2,e3];(repeat refine ⟨by first|omega|decide|((repeat' apply And.intro) <;> first|omega|decide),?_⟩);refine hK _ ?_
     refine yD rfl ?_;refine zJ (fun K hK=>?_);simp (disch:=omega) only [push_cast,↓Int.cast_ofNat_Int,simprocAttr,hz];refine hK _ ?_
     refine zA ?_;refine zJ (fun K hK=>?_);simp (disch:=omega) only [push_cast,↓Int.cast_ofNat_Int,simprocAttr,aF,hlen];(repeat refine ⟨by first|omega|decide|((repeat' apply And.intro) <;> first|omega|decide),?_⟩);refine hK _ ?_
     refine zB ?_;refine zA ?_;refine zJ (fun K hK=>?_);simp (disch:=omega) only [push_cast,↓Int.cast_ofNat_Int,simprocAttr];refine hK _ ?_
     refine zA ?_;refine ⟨i + 1,?_,hlt,by omega⟩
     simp only [zZ,zR,zP,zQ,zN,zS,zM,zX,zU,Nat.reduceEqDiff,reduceIte,tcE,htk,iH,nl];try rfl
  ·rw [if_neg hlast] at htk
   have e0:decide ((i:Int)=(l.length:Int) - 1)=false:=decide_eq_false (by omega)
   refine zE ?_;refine zE ?_;refine zJ (fun K hK=>?_);simp (disch:=omega) only [push_cast,↓Int.cast_ofNat_Int,simprocAttr,aF,e0];(repeat refine ⟨by first|omega|decide|((repeat' apply And.intro) <;> first|omega|decide),?_⟩);refine hK _ ?_
   refine yC rfl ?_;refine zC ?_;refine zA ?_;refine zJ (fun K hK=>?_);simp (disch:=omega) only [push_cast,↓Int.cast_ofNat_Int,simprocAttr,aF,hlen];(repeat refine ⟨by first|omega|decide|((repeat' apply And.intro) <;> first|omega|decide),?_⟩);refine hK _ ?_
   refine zB ?_;refine zA ?_;refine zJ (fun K hK=>?_);simp (disch:=omega) only [push_cast,↓Int.cast_ofNat_Int,simprocAttr];refine hK _ ?_
   refine zA ?_;refine ⟨i + 1,?_,hlt,by omega⟩
   simp only [zZ,zR,zP,zQ,zN,zS,zM,zX,zU,Nat.reduceEqDiff,reduceIte,tcE,htk,iH,nl];try rfl
 ·have hi:i=l.length:=by omega
  have e:(dU l).take i=dU l:=List.take_of_length_le (by omega)
  refine zE ?_;refine zE ?_;refine zJ (fun K hK=>?_);simp (disch:=omega) only [push_cast,↓Int.cast_ofNat_Int,simprocAttr,aF];refine hK _ ?_
  refine yC rfl ?_;refine zT ?_;refine zG ?_;refine zG ?_;refine zH ?_;refine zE ?_;refine zJ (fun K hK=>?_);simp (disch:=omega) only [push_cast,↓Int.cast_ofNat_Int,simprocAttr];refine hK _ ?_
  refine zA ?_;refine zW ?_;simp only [yA,yM,yH,yE,aA,aC,yK,yJ,zS,zM,Nat.reduceEqDiff,reduceIte,reduceCtorEq];rw [e];exact lW rfl (iU _) ⟨rfl,rfl⟩
def tjE (l:List ByteArray) (i:Nat):HS:=⟨[(0,.lst false (aK l)),(3,.v (.string (cat (l.take i)))),(4,.v (.int .i64 i))],[]⟩
set_option maxHeartbeats 4000000 in
theorem sG (l:List ByteArray) (hl:l.length≤4294967296) (hs:(cat l).size≤4294967296):HFun Tryz.prog 50 [.lst false (aK l)] (fun h st=>h=.v (.string (cat l))):=by
 refine eF (N:=18) Tryz.func50 rfl Tryz.ntmps50 Tryz.results50 (by simp) ?_
 refine zE ?_;refine zJ (fun K hK=>?_);simp (disch:=omega) only [push_cast,↓Int.cast_ofNat_Int,simprocAttr];refine hK _ ?_
 refine zE ?_;refine zJ (fun K hK=>?_);simp (disch:=omega) only [push_cast,↓Int.cast_ofNat_Int,simprocAttr];refine hK _ ?_
 refine zE ?_;refine zE ?_;refine zJ (fun K hK=>?_);simp (disch:=omega) only [push_cast,↓Int.cast_ofNat_Int,simprocAttr];refine hK _ ?_
 refine zA ?_;refine zD ?_;refine bR (tjE l) (fun i=>i≤l.length) (fun i=>l.length - i) [0,3,4] [] 0 (by simp only [zZ,zR,zP,zQ,zN,zS,zM,zX,zU,Nat.reduceEqDiff,reduceIte,tjE];rfl) (Nat.zero_le _) ?_
 intro i h1;simp only [tjE]
 by_cases hlt:i < l.length
 ·have htk:cat (l.take (i + 1))=cat (l.take i) ++ l[i]:=by rw [List.take_succ_eq_append_getElem hlt,mX,qJ9]
  have hz:(cat (l.take i)).size + l[i].size≤9223372036854775807:=by
   have h2:cat l=cat (l.take (i + 1)) ++ cat (l.drop (i + 1)):=by rw [← mX,List.take_append_drop]
   have:=congrArg ByteArray.size h2
   rw [htk,ByteArray.size_append,ByteArray.size_append] at this;omega
  refine zE ?_;refine zE ?_;refine zJ (fun K hK=>?_);simp (disch:=omega) only [push_cast,↓Int.cast_ofNat_Int,simprocAttr,aF];refine hK _ ?_
  refine yD rfl ?_;refine zC ?_;refine zE ?_;refine zD ?_;refine zJ (fun K hK=>?_);simp (disch:=omega) only [push_cast,↓Int.cast_ofNat_Int,simprocAttr,aF,bJ,eY hlt,hz];(repeat refine ⟨by first|omega|decide|((repeat' apply And.intro) <;> first|omega|decide),?_⟩);refine hK _ ?_
  refine zB ?_;refine zA ?_;refine zJ (fun K hK=>?_);simp (disch:=omega) only [push_cast,↓Int.cast_ofNat_Int,simprocAttr];refine hK _ ?_
  refine zA ?_;refine ⟨i + 1,?_,hlt,by omega⟩
  simp only [zZ,zR,zP,zQ,zN,zS,zM,zX,zU,Nat.reduceEqDiff,reduceIte,tjE,htk];try rfl
 ·have e:l.take i=l:=List.take_of_length_le (by omega)
  refine zE ?_;refine zE ?_;refine zJ (fun K hK=>?_);simp (disch:=omega) only [push_cast,↓Int.cast_ofNat_Int,simprocAttr,aF];refine hK _ ?_
  refine yC rfl ?_;refine zT ?_;refine zG ?_;refine zG ?_;refine zH ?_;refine zE ?_;refine zJ (fun K hK=>?_);simp (disch:=omega) only [push_cast,↓Int.cast_ofNat_Int,simprocAttr];refine hK _ ?_
  refine zA ?_;refine zW ?_;simp only [yA,yM,yH,yE,aA,aC,yK,yJ,zS,zM,Nat.reduceEqDiff,reduceIte,reduceCtorEq];rw [e];exact aL rfl
end Go.Proofs.YtdfjeokjmigkaaaGreat
