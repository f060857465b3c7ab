/-
  bits.Mul of one and a small number; slices.Repeat of one number; merge.places: walked.
-/
import Derived.Test.YtdfjeokjmigkaaaGreatRcD
import Derived.Test.YtdfjeokjmigkaaaGreatKept
import Derived.Test.YtdfjeokjmigkaaaGreatOne
set_option linter.unusedSimpArgs false
set_option linter.unusedVariables false
set_option maxRecDepth 20000
namespace Go.Proofs.YtdfjeokjmigkaaaGreat
open Go Go.Eng Go.RowKit Go.DiffM

theorem msk (n:Nat) (h:n≤100000):bits .and .u64 (n:Int) 4294967295=(n:Int):=by
 have e:=bits_and_u64_nat n 4294967295 (by omega) (by omega)
 have e2:n &&& 4294967295=n % 4294967296:=Nat.and_two_pow_sub_one_eq_mod n 32
 rw [e2] at e;rw [show ((4294967295:Nat):Int)=4294967295 from rfl] at e
 rw [e];omega
theorem zXf:bits .and .u64 1 4294967295=1:=by have:=msk 1 (by omega);simpa using this
theorem zXe:bits .and .u64 0 4294967295=0:=by have:=msk 0 (by omega);simpa using this
theorem zRp (n:Nat) (h:n≤100000):(n:Int).fdiv (2 ^ (min 32 (IntKind.bits .u64)))=0:=by
 have:(2:Int) ^ (min 32 (IntKind.bits .u64))=4294967296:=by decide
 rw [this,Int.fdiv_eq_ediv_of_nonneg _ (by omega)];omega
theorem wu (n:Nat) (h:n≤100000):IntKind.u64.wrap (n:Int)=(n:Int):=by rw [IntKind.wrap_u64];omega
set_option maxHeartbeats 4000000 in
theorem zNz (n:Nat) (h:n≤100000):HFun Tryz.prog 129 [.v (.int .u64 1),.v (.int .u64 n)] (fun h st=>h=.tup [.v (.int .u64 0),.v (.int .u64 n)]):=by
 refine eF (N:=51) Tryz.func129 rfl Tryz.ntmps129 Tryz.results129 (by simp) ?_
 have w1:=wu n h
 have w0:IntKind.u64.wrap 0=0:=wu 0 (by omega)
 have m1:=msk n h
 have s1:=zRp n h
 have s0:(0:Int).fdiv (2 ^ (min 32 (IntKind.bits .u64)))=0:=zRp 0 (by omega)
 have s2:(1:Int).fdiv (2 ^ (min 32 (IntKind.bits .u64)))=0:=zRp 1 (by omega)
 refine zE ?_;refine zJ (fun K hK=>?_);simp (disch:=omega) only [push_cast,↓Int.cast_ofNat_Int,simprocAttr];refine hK _ ?_
 refine zE ?_;refine zJ (fun K hK=>?_);simp (disch:=omega) only [push_cast,↓Int.cast_ofNat_Int,simprocAttr,zXf];refine hK _ ?_
 refine zE ?_;refine zJ (fun K hK=>?_);simp (disch:=omega) only [push_cast,↓Int.cast_ofNat_Int,simprocAttr,s2];(repeat refine ⟨by first|omega|decide|((repeat' apply And.intro) <;> first|omega|decide),?_⟩);refine hK _ ?_
 refine zE ?_;refine zJ (fun K hK=>?_);simp (disch:=omega) only [push_cast,↓Int.cast_ofNat_Int,simprocAttr,m1];(repeat refine ⟨by first|omega|decide|((repeat' apply And.intro) <;> first|omega|decide),?_⟩);refine hK _ ?_
 refine zE ?_;refine zJ (fun K hK=>?_);simp (disch:=omega) only [push_cast,↓Int.cast_ofNat_Int,simprocAttr,s1];(repeat refine ⟨by first|omega|decide|((repeat' apply And.intro) <;> first|omega|decide),?_⟩);refine hK _ ?_
 refine zE ?_;refine zJ (fun K hK=>?_);simp (disch:=omega) only [push_cast,↓Int.cast_ofNat_Int,simprocAttr,w1,Int.one_mul];(repeat refine ⟨by first|omega|decide|((repeat' apply And.intro) <;> first|omega|decide),?_⟩);refine hK _ ?_
 refine zE ?_;refine zJ (fun K hK=>?_);simp (disch:=omega) only [push_cast,↓Int.cast_ofNat_Int,simprocAttr,s1,w0,Int.zero_mul,Int.add_zero];(repeat refine ⟨by first|omega|decide|((repeat' apply And.intro) <;> first|omega|decide),?_⟩);refine hK _ ?_
 refine zE ?_;refine zJ (fun K hK=>?_);simp (disch:=omega) only [push_cast,↓Int.cast_ofNat_Int,simprocAttr,zXe];(repeat refine ⟨by first|omega|decide|((repeat' apply And.intro) <;> first|omega|decide),?_⟩);refine hK _ ?_
 refine zE ?_;refine zJ (fun K hK=>?_);simp (disch:=omega) only [push_cast,↓Int.cast_ofNat_Int,simprocAttr,s0];(repeat refine ⟨by first|omega|decide|((repeat' apply And.intro) <;> first|omega|decide),?_⟩);refine hK _ ?_
 refine zE ?_;refine zJ (fun K hK=>?_);simp (disch:=omega) only [push_cast,↓Int.cast_ofNat_Int,simprocAttr,w0,w1,Int.mul_zero,Int.add_zero];(repeat refine ⟨by first|omega|decide|((repeat' apply And.intro) <;> first|omega|decide),?_⟩);refine hK _ ?_
 refine zE ?_;refine zJ (fun K hK=>?_);simp (disch:=omega) only [push_cast,↓Int.cast_ofNat_Int,simprocAttr,s0,w0,Int.zero_mul,Int.add_zero];(repeat refine ⟨by first|omega|decide|((repeat' apply And.intro) <;> first|omega|decide),?_⟩);refine hK _ ?_
 refine zE ?_;refine zJ (fun K hK=>?_);simp (disch:=omega) only [push_cast,↓Int.cast_ofNat_Int,simprocAttr,w1,Int.one_mul];(repeat refine ⟨by first|omega|decide|((repeat' apply And.intro) <;> first|omega|decide),?_⟩);refine hK _ ?_
 refine zA ?_;refine zW ?_;simp only [yA,yM,yH,yE,aA,aC,yK,yJ,zS,zM,Nat.reduceEqDiff,reduceIte,reduceCtorEq];exact mT rfl
set_option maxHeartbeats 4000000 in
theorem zVb (n:Nat) (h:n≤100000):HFun Tryz.prog 110 [.v (.int .u64 1),.v (.int .u64 n)] (fun h st=>h=.tup [.v (.int .u64 0),.v (.int .u64 n)]):=by
 refine eF (N:=30) Tryz.func110 rfl Tryz.ntmps110 Tryz.results110 (by simp) ?_
 refine zE ?_;refine zJ (fun K hK=>?_);simp (disch:=omega) only [push_cast,↓Int.cast_ofNat_Int,simprocAttr];refine hK _ ?_
 refine zE ?_;refine yC rfl ?_;refine zC ?_;refine zE ?_;refine zJ (fun K hK=>?_);simp (disch:=omega) only [push_cast,↓Int.cast_ofNat_Int,simprocAttr]
 refine qJz (xs:=[.int .u64 0,.int .u64 n]) zV6 (zNz n h) (.cons (.v _) (.cons (.v _) .nil)) ?_;with_reducible refine aB ?_;simp (disch:=omega) only [push_cast,↓Int.cast_ofNat_Int,simprocAttr]
 refine hK _ ?_;refine zE ?_;refine zJ (fun K hK=>?_);simp (disch:=omega) only [push_cast,↓Int.cast_ofNat_Int,simprocAttr];refine hK _ ?_
 refine zA ?_;refine zW ?_;simp only [yA,yM,yH,yE,aA,aC,yK,yJ,zS,zM,Nat.reduceEqDiff,reduceIte,reduceCtorEq];exact mT rfl
def rp (c:Int) (n bp:Nat):List (List FV):=List.replicate bp [.v (.int .i64 c)] ++ List.replicate (n - bp) [.v (.int .i64 0)]
theorem qRe {c:Int} {n bp:Nat} (h:bp≤n):(rp c n bp).length=n:=by simp [rp];omega
theorem zM5 {c:Int} {n bp m:Nat} (h:m≤bp):(rp c n bp).take m=List.replicate m [.v (.int .i64 c)]:=by
 rw [rp,List.take_append_of_le_length (by simpa using h),List.take_replicate,Nat.min_eq_left h]
theorem qPi {c:Int} {n bp m:Nat} (h:bp + m≤n) (q:Nat) (hq:q=bp∨q=bp + m):splice (rp c n q) bp (List.replicate m [.v (.int .i64 c)])=rp c n (bp + m):=by
 apply List.ext_getElem?
 intro j;rw [iC _ _ _ (by rw [qRe (by omega)];simpa using h)]
 simp only [List.length_replicate];unfold rp;simp only [List.getElem?_append,List.length_replicate,List.getElem?_replicate]
 rcases hq with rfl|rfl
 all_goals
  repeat' split
  all_goals first|rfl|omega
def rpS (c:Int) (n bp:Nat):HS:=⟨[(7,.own 240),(8,.v (.int .i64 bp))],[(240,.sl true 3 1 (rp c n bp))]⟩
set_option maxHeartbeats 4000000 in
theorem zHu (c:Int) (n:Nat) (h:n≤100000):HFun Tryz.prog 83 [.lst false (iD [c]),.v (.int .i64 n)] (fun h st=>h=.own 0∧st=[(0,.sl true 3 1 (iD (List.replicate n c)))]):=by
 refine eF (N:=48) Tryz.func83 rfl Tryz.ntmps83 Tryz.results83 (by simp) ?_
 have w1:=wu n h
 refine zE ?_;refine zJ (fun K hK=>?_);simp (disch:=omega) only [push_cast,↓Int.cast_ofNat_Int,simprocAttr];refine hK _ ?_
 refine zE ?_;refine zE ?_;refine zJ (fun K hK=>?_);simp (disch:=omega) only [push_cast,↓Int.cast_ofNat_Int,simprocAttr];(repeat refine ⟨by first|omega|decide|((repeat' apply And.intro) <;> first|omega|decide),?_⟩);refine hK _ ?_
 refine zA ?_;refine yC rfl ?_;refine zC ?_;refine zE ?_
 have e1:IntKind.u64.wrap ((iD [c]).length:Int)=1:=by rw [dW];exact wu 1 (by omega)
 have e2:IntKind.u64.wrap (n:Int)=(n:Int):=wu n h
 refine zJ (fun K hK=>?_);simp (disch:=omega) only [push_cast,↓Int.cast_ofNat_Int,simprocAttr]
 rw [e1,e2];refine qJz (xs:=[.int .u64 0,.int .u64 n]) zV9 (zVb n h) (.cons (.v _) (.cons (.v _) .nil)) ?_;with_reducible refine aB ?_;simp (disch:=omega) only [push_cast,↓Int.cast_ofNat_Int,simprocAttr]
 refine hK _ ?_;refine zE ?_;refine zE ?_;refine zJ (fun K hK=>?_);simp (disch:=omega) only [push_cast,↓Int.cast_ofNat_Int,simprocAttr];(repeat refine ⟨by first|omega|decide|((repeat' apply And.intro) <;> first|omega|decide),?_⟩);refine hK _ ?_
 refine yC rfl ?_;refine zC ?_;refine zE ?_
 have e3:IntKind.i64.wrap (n:Int)=(n:Int):=by rw [IntKind.wrap_i64];omega
 refine zJ (fun K hK=>?_);simp (disch:=omega) only [push_cast,↓Int.cast_ofNat_Int,simprocAttr,e3]
 refine ⟨by unfold bX maxLen;omega,?_⟩
 refine hK _ ?_;refine yB [0,7] [240] (by simp only [zZ,zR,zP,zQ,zN,zS,zM,zX,zU,Nat.reduceEqDiff,reduceIte];exact rfl) ?_
 refine zE ?_
 have f0:cpy (List.replicate n [FV.v (.int .i64 0)]) 0 (iD [c]) n=rp c n (min 1 n):=by
  have e:(iD [c]).take n=List.replicate (min 1 n) [FV.v (.int .i64 c)]:=by
   rcases n with _|n
   ·rfl
   ·simp [iD,qR2]
  rw [cpy,e]
  have:=qPi (c:=c) (n:=n) (bp:=0) (m:=min 1 n) (by omega) 0 (.inl rfl)
  simpa [rp] using this
 have f1:cpn (iD [c]) n=min 1 n:=by rw [cpn,dW];rfl
 obtain ⟨m0,hm0⟩:∃ m0,m0=min 1 n:=⟨_,rfl⟩;rw [← hm0] at f0 f1;refine zJ (fun K hK=>?_);simp (disch:=omega) only [push_cast,↓Int.cast_ofNat_Int,simprocAttr,fL,List.length_replicate,f0,f1];(repeat refine ⟨by first|omega|decide|((repeat' apply And.intro) <;> first|omega|decide),?_⟩);refine hK _ ?_
 refine zE ?_;refine zD ?_;refine bR (rpS c n) (fun bp=>bp≤n∧(0 < n→0 < bp)) (fun bp=>n - bp) [7,8] [240] m0 (by simp only [zZ,zR,zP,zQ,zN,zS,zM,zX,zU,Nat.reduceEqDiff,reduceIte,rpS];try rfl) ⟨by omega,by omega⟩ ?_
 rintro bp ⟨hb,hp⟩;simp only [rpS]
 by_cases hlt:bp < n
 ·have hl:=qRe (c:=c) hb
  refine zE ?_;refine zE ?_;refine zJ (fun K hK=>?_);simp (disch:=omega) only [push_cast,↓Int.cast_ofNat_Int,simprocAttr,hl];refine hK _ ?_
  refine zA ?_;refine yD rfl ?_;refine zC ?_;refine zA ?_;obtain ⟨m,hm⟩:∃ m,m=min bp (n - bp):=⟨_,rfl⟩
  have again:∀ q,q=bp∨q=bp + m→cpy (rp c n q) bp ((rp c n q).take bp) (n - bp)=rp c n (bp + m):=fun q hq=>by
   rw [cpy,zM5 (by omega),List.take_replicate,Nat.min_comm,← hm]
   exact qPi (by omega) q hq
  have hl2:(rp c n (bp + m)).length=n:=qRe (by omega)
  have f2:cpn ((rp c n bp).take bp) (n - bp)=m:=by rw [cpn,List.length_take,hl];omega
  have f3:cpn ((rp c n (bp + m)).take bp) (n - bp)=m:=by rw [cpn,List.length_take,hl2];omega
  refine zD ?_;refine zQy 8 7 [(240,.sl true 3 1 (rp c n (bp + m)))] (fun i=>match i with|1=>.own 240|3=>.vw 240 1 bp (n - bp)|4=>.own 240|6=>.vw 240 1 0 bp|7=>.v (.int .i64 m)|_=>.v (.int .i64 bp)) [(38,.v (.int .i64 bp)),(45,.v (.int .i64 m)),(7,.own 240)] (by decide) mixed (by kernel_rfl) (fun i o hi ho=>?_) ?_ (fun K hK=>?_)
  ·match i,hi,ho with
  |0,_,ho=>cases ho;exact ⟨rfl,fA rfl,rfl,[(8,.v (.int .i64 bp))],qAp (by kernel_rfl) rfl oQ,qH rfl,fun _=>⟨rfl,mJ rfl,mJ rfl⟩,fun e=>by omega⟩
  |1,_,ho=>cases ho;exact ⟨rfl,fA rfl,rfl,[(7,.own 240)],qAp (by kernel_rfl) rfl oQ,qH rfl,fun _=>⟨rfl,mJ rfl,mJ rfl⟩,fun e=>by omega⟩
  |2,_,ho=>cases ho;exact ⟨rfl,fA rfl,rfl,[(8,.v (.int .i64 bp))],qAp (by kernel_rfl) rfl oQ,qH rfl,fun _=>⟨rfl,mJ rfl,mJ rfl⟩,fun e=>by omega⟩
  |3,_,ho =>
    cases ho
    refine ⟨rfl,fA rfl,rfl,[(39,.own 240),(40,.v (.int .i64 bp))],qZ 1 (by kernel_rfl) rfl (qZ 2 (by kernel_rfl) rfl oQ),qH rfl,fun _=>⟨rfl,?_,?_⟩,fun e=>by omega⟩
    ·simp (disch:=omega) only [push_cast,↓Int.cast_ofNat_Int,simprocAttr,hl];exact ⟨True,trivial,rfl⟩
    ·simp (disch:=omega) only [push_cast,↓Int.cast_ofNat_Int,simprocAttr,hl2];exact ⟨True,trivial,rfl⟩
  |4,_,ho=>cases ho;exact ⟨rfl,fA rfl,rfl,[(7,.own 240)],qAp (by kernel_rfl) rfl oQ,qH rfl,fun _=>⟨rfl,mJ rfl,mJ rfl⟩,fun e=>by omega⟩
  |5,_,ho=>cases ho;exact ⟨rfl,fA rfl,rfl,[(8,.v (.int .i64 bp))],qAp (by kernel_rfl) rfl oQ,qH rfl,fun _=>⟨rfl,mJ rfl,mJ rfl⟩,fun e=>by omega⟩
  |6,_,ho =>
    cases ho
    refine ⟨rfl,fA rfl,rfl,[(42,.own 240),(43,.v (.int .i64 bp))],qZ 4 (by kernel_rfl) rfl (qZ 5 (by kernel_rfl) rfl oQ),qH rfl,fun _=>⟨rfl,?_,?_⟩,fun e=>by omega⟩
    ·simp (disch:=omega) only [push_cast,↓Int.cast_ofNat_Int,simprocAttr,hl,Nat.sub_zero];exact ⟨True,trivial,rfl⟩
    ·simp (disch:=omega) only [push_cast,↓Int.cast_ofNat_Int,simprocAttr,hl2,Nat.sub_zero];exact ⟨True,trivial,rfl⟩
  |7,_,ho =>
    cases ho
    refine ⟨rfl,fA rfl,rfl,[(41,.vw 240 1 bp (n - bp)),(44,.vw 240 1 0 bp)],qZ 3 (by kernel_rfl) rfl (qZ 6 (by kernel_rfl) rfl oQ),qH rfl,fun e=>absurd rfl e,fun _=>⟨_,_,rfl,?_,?_⟩⟩
    ·simp (disch:=omega) only [push_cast,↓Int.cast_ofNat_Int,simprocAttr,hl,again bp (.inl rfl),f2];exact ⟨True,trivial,rfl⟩
    ·simp (disch:=omega) only [push_cast,↓Int.cast_ofNat_Int,simprocAttr,hl2,again (bp + m) (.inr rfl),f3];exact ⟨True,trivial,rfl⟩
  ·exact qZ 0 (by kernel_rfl) rfl (qZ 7 (by kernel_rfl) rfl (qAp (by kernel_rfl) rfl oQ))
  ·with_reducible refine aB ?_;simp (disch:=omega) only [push_cast,↓Int.cast_ofNat_Int,simprocAttr]
   refine hK _ ?_;refine zB ?_;refine zA ?_;refine ⟨bp + m,?_,⟨by omega,by omega⟩,by omega⟩
   simp only [zZ,zR,zP,zQ,zN,zS,zM,zX,zU,Nat.reduceEqDiff,reduceIte,rpS];try rfl
 ·have hbn:bp=n:=by omega
  subst hbn
  have hl:=qRe (c:=c) hb
  refine zE ?_;refine zE ?_;refine zJ (fun K hK=>?_);simp (disch:=omega) only [push_cast,↓Int.cast_ofNat_Int,simprocAttr,hl];refine hK _ ?_
  refine zA ?_;refine yC rfl ?_;refine zT ?_;refine zG ?_;refine zG ?_;refine zH ?_;refine zE ?_;refine zJ (fun K hK=>?_);simp (disch:=omega) only [push_cast,↓Int.cast_ofNat_Int,simprocAttr];refine hK _ ?_
  refine zA ?_;refine zW ?_;simp only [yA,yM,yH,yE,aA,aC,yK,yJ,zS,zM,Nat.reduceEqDiff,reduceIte,reduceCtorEq]
  have e9:rp c bp bp=iD (List.replicate bp c):=by simp [rp,iD,qR2]
  rw [e9];exact lW rfl (qBj _) ⟨rfl,rfl⟩
end Go.Proofs.YtdfjeokjmigkaaaGreat
