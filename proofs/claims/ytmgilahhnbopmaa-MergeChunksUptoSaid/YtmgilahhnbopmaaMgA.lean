/-
  bits.Mul of one and a small number; slices.Repeat of one number; merge.places: walked.
-/
import Derived.Test.YtmgilahhnbopmaaRcc
import Derived.Test.YtmgilahhnbopmaaKept
import Derived.Test.YtmgilahhnbopmaaOne
set_option linter.unusedSimpArgs false
set_option linter.unusedVariables false
set_option maxRecDepth 20000
namespace Go.Proofs.Ytmgilahhnbopmaa
open Go Go.Eng Go.RowKit Go.DiffM

theorem msk (n:Nat) (h:n≤100000):bits .and .u64 (n:Int) 4294967295=(n:Int):=by
 have e:=bits_and_u64_nat n 4294967295 (by omega) (by omega)
 have e2:n &&& 4294967295=n % 4294967296:=Nat.and_two_pow_sub_one_eq_mod n 32
 rw [e2] at e;rw [show ((4294967295:Nat):Int)=4294967295 from rfl] at e
 rw [e];omega
theorem zLk:bits .and .u64 1 4294967295=1:=by have:=msk 1 (by omega);simpa using this
theorem zLj:bits .and .u64 0 4294967295=0:=by have:=msk 0 (by omega);simpa using this
theorem zH0 (n:Nat) (h:n≤100000):(n:Int).fdiv (2 ^ (min 32 (IntKind.bits .u64)))=0:=by
 have:(2:Int) ^ (min 32 (IntKind.bits .u64))=4294967296:=by decide
 rw [this,Int.fdiv_eq_ediv_of_nonneg _ (by omega)];omega
theorem wu (n:Nat) (h:n≤100000):IntKind.u64.wrap (n:Int)=(n:Int):=by rw [IntKind.wrap_u64];omega
set_option maxHeartbeats 4000000 in
theorem zGz (n:Nat) (h:n≤100000):HFun Try.prog 42 [.v (.int .u64 1),.v (.int .u64 n)] (fun h st=>h=.tup [.v (.int .u64 0),.v (.int .u64 n)]):=by
 refine rT (N:=51) Try.func42 rfl Try.ntmps42 Try.results42 (by simp) ?_
 have w1:=wu n h
 have w0:IntKind.u64.wrap 0=0:=wu 0 (by omega)
 have m1:=msk n h
 have s1:=zH0 n h
 have s0:(0:Int).fdiv (2 ^ (min 32 (IntKind.bits .u64)))=0:=zH0 0 (by omega)
 have s2:(1:Int).fdiv (2 ^ (min 32 (IntKind.bits .u64)))=0:=zH0 1 (by omega)
 refine zE ?_;refine zJ (fun K hK=>?_);simp (disch:=omega) only [push_cast,↓iC9,simprocAttr];refine hK _ ?_;clear hK K
 refine zE ?_;refine zJ (fun K hK=>?_);simp (disch:=omega) only [push_cast,↓iC9,simprocAttr,zLk];refine hK _ ?_;clear hK K
 refine zE ?_;refine zJ (fun K hK=>?_);simp (disch:=omega) only [push_cast,↓iC9,simprocAttr,s2];(repeat refine ⟨by first|omega|decide|((repeat' apply And.intro) <;> first|omega|decide),?_⟩);refine hK _ ?_;clear hK K
 refine zE ?_;refine zJ (fun K hK=>?_);simp (disch:=omega) only [push_cast,↓iC9,simprocAttr,m1];(repeat refine ⟨by first|omega|decide|((repeat' apply And.intro) <;> first|omega|decide),?_⟩);refine hK _ ?_;clear hK K
 refine zE ?_;refine zJ (fun K hK=>?_);simp (disch:=omega) only [push_cast,↓iC9,simprocAttr,s1];(repeat refine ⟨by first|omega|decide|((repeat' apply And.intro) <;> first|omega|decide),?_⟩);refine hK _ ?_;clear hK K
 refine zE ?_;refine zJ (fun K hK=>?_);simp (disch:=omega) only [push_cast,↓iC9,simprocAttr,w1,Int.one_mul];(repeat refine ⟨by first|omega|decide|((repeat' apply And.intro) <;> first|omega|decide),?_⟩);refine hK _ ?_;clear hK K
 refine zE ?_;refine zJ (fun K hK=>?_);simp (disch:=omega) only [push_cast,↓iC9,simprocAttr,s1,w0,Int.zero_mul,Int.add_zero];(repeat refine ⟨by first|omega|decide|((repeat' apply And.intro) <;> first|omega|decide),?_⟩);refine hK _ ?_;clear hK K
 refine zE ?_;refine zJ (fun K hK=>?_);simp (disch:=omega) only [push_cast,↓iC9,simprocAttr,zLj];(repeat refine ⟨by first|omega|decide|((repeat' apply And.intro) <;> first|omega|decide),?_⟩);refine hK _ ?_;clear hK K
 refine zE ?_;refine zJ (fun K hK=>?_);simp (disch:=omega) only [push_cast,↓iC9,simprocAttr,s0];(repeat refine ⟨by first|omega|decide|((repeat' apply And.intro) <;> first|omega|decide),?_⟩);refine hK _ ?_;clear hK K
 refine zE ?_;refine zJ (fun K hK=>?_);simp (disch:=omega) only [push_cast,↓iC9,simprocAttr,w0,w1,Int.mul_zero,Int.add_zero];(repeat refine ⟨by first|omega|decide|((repeat' apply And.intro) <;> first|omega|decide),?_⟩);refine hK _ ?_;clear hK K
 refine zE ?_;refine zJ (fun K hK=>?_);simp (disch:=omega) only [push_cast,↓iC9,simprocAttr,s0,w0,Int.zero_mul,Int.add_zero];(repeat refine ⟨by first|omega|decide|((repeat' apply And.intro) <;> first|omega|decide),?_⟩);refine hK _ ?_;clear hK K
 refine zE ?_;refine zJ (fun K hK=>?_);simp (disch:=omega) only [push_cast,↓iC9,simprocAttr,w1,Int.one_mul];(repeat refine ⟨by first|omega|decide|((repeat' apply And.intro) <;> first|omega|decide),?_⟩);refine hK _ ?_;clear hK K
 refine zA ?_;refine zW ?_;simp only [yA,yM,yH,yE,aR,bT,yK,yJ,zS,zM,Nat.reduceEqDiff,reduceIte,reduceCtorEq];exact tD rfl
set_option maxHeartbeats 4000000 in
theorem zKj (n:Nat) (h:n≤100000):HFun Try.prog 31 [.v (.int .u64 1),.v (.int .u64 n)] (fun h st=>h=.tup [.v (.int .u64 0),.v (.int .u64 n)]):=by
 refine rT (N:=30) Try.func31 rfl Try.ntmps31 Try.results31 (by simp) ?_
 refine zE ?_;refine zJ (fun K hK=>?_);simp (disch:=omega) only [push_cast,↓iC9,simprocAttr];refine hK _ ?_;clear hK K
 refine zE ?_;refine yC rfl ?_;refine zC ?_;refine zE ?_;refine zJ (fun K hK=>?_);simp (disch:=omega) only [push_cast,↓iC9,simprocAttr]
 refine zJb (xs:=[.int .u64 0,.int .u64 n]) zLm (zGz n h) (.cons (.v _) (.cons (.v _) .nil)) ?_;with_reducible refine aH ?_;simp (disch:=omega) only [push_cast,↓iC9,simprocAttr]
 refine hK _ ?_;clear hK K;refine zE ?_;refine zJ (fun K hK=>?_);simp (disch:=omega) only [push_cast,↓iC9,simprocAttr];refine hK _ ?_;clear hK K
 refine zA ?_;refine zW ?_;simp only [yA,yM,yH,yE,aR,bT,yK,yJ,zS,zM,Nat.reduceEqDiff,reduceIte,reduceCtorEq];exact tD rfl
def rp (c:Int) (n bp:Nat):List (List FV):=List.replicate bp [.v (.int .i64 c)] ++ List.replicate (n - bp) [.v (.int .i64 0)]
theorem qR8 {c:Int} {n bp:Nat} (h:bp≤n):(rp c n bp).length=n:=by simp [rp];omega
theorem zGs {c:Int} {n bp m:Nat} (h:m≤bp):(rp c n bp).take m=List.replicate m [.v (.int .i64 c)]:=by
 rw [rp,List.take_append_of_le_length (by simpa using h),List.take_replicate,Nat.min_eq_left h]
theorem qN2 {c:Int} {n bp m:Nat} (h:bp + m≤n) (q:Nat) (hq:q=bp∨q=bp + m):splice (rp c n q) bp (List.replicate m [.v (.int .i64 c)])=rp c n (bp + m):=by
 apply List.ext_getElem?
 intro j;rw [gY _ _ _ (by rw [qR8 (by omega)];simpa using h)]
 simp only [List.length_replicate];unfold rp;simp only [List.getElem?_append,List.length_replicate,List.getElem?_replicate]
 rcases hq with rfl|rfl
 all_goals
  repeat' split
  all_goals first|rfl|omega
def rpS (c:Int) (n bp:Nat):HS:=⟨[(7,.own 240),(8,.v (.int .i64 bp))],[(240,.sl true 3 1 (rp c n bp))]⟩
set_option maxHeartbeats 4000000 in
theorem zDg (c:Int) (n:Nat) (h:n≤100000):HFun Try.prog 22 [.lst false (gR [c]),.v (.int .i64 n)] (fun h st=>h=.own 0∧st=[(0,.sl true 3 1 (gR (List.replicate n c)))]):=by
 refine rT (N:=48) Try.func22 rfl Try.ntmps22 Try.results22 (by simp) ?_
 have w1:=wu n h
 refine zE ?_;refine zJ (fun K hK=>?_);simp (disch:=omega) only [push_cast,↓iC9,simprocAttr];refine hK _ ?_;clear hK K
 refine zE ?_;refine zE ?_;refine zJ (fun K hK=>?_);simp (disch:=omega) only [push_cast,↓iC9,simprocAttr];(repeat refine ⟨by first|omega|decide|((repeat' apply And.intro) <;> first|omega|decide),?_⟩);refine hK _ ?_;clear hK K
 refine zA ?_;refine yC rfl ?_;refine zC ?_;refine zE ?_
 have e1:IntKind.u64.wrap ((gR [c]).length:Int)=1:=by rw [dJ];exact wu 1 (by omega)
 have e2:IntKind.u64.wrap (n:Int)=(n:Int):=wu n h
 refine zJ (fun K hK=>?_);simp (disch:=omega) only [push_cast,↓iC9,simprocAttr]
 rw [e1,e2];refine zJb (xs:=[.int .u64 0,.int .u64 n]) zLr (zKj n h) (.cons (.v _) (.cons (.v _) .nil)) ?_;with_reducible refine aH ?_;simp (disch:=omega) only [push_cast,↓iC9,simprocAttr]
 refine hK _ ?_;clear hK K;refine zE ?_;refine zE ?_;refine zJ (fun K hK=>?_);simp (disch:=omega) only [push_cast,↓iC9,simprocAttr];(repeat refine ⟨by first|omega|decide|((repeat' apply And.intro) <;> first|omega|decide),?_⟩);refine hK _ ?_;clear hK K
 refine yC rfl ?_;refine zC ?_;refine zE ?_
 have e3:IntKind.i64.wrap (n:Int)=(n:Int):=by rw [IntKind.wrap_i64];omega
 refine zJ (fun K hK=>?_);simp (disch:=omega) only [push_cast,↓iC9,simprocAttr,e3]
 refine ⟨by unfold cM maxLen;omega,?_⟩
 refine hK _ ?_;clear hK K;refine yB [0,7] [240] (by simp only [zZ,zR,zP,zQ,zN,zS,zM,zX,zU,Nat.reduceEqDiff,reduceIte];exact rfl) ?_
 refine zE ?_
 have f0:cpy (List.replicate n [FV.v (.int .i64 0)]) 0 (gR [c]) n=rp c n (min 1 n):=by
  have e:(gR [c]).take n=List.replicate (min 1 n) [FV.v (.int .i64 c)]:=by
   rcases n with _|n
   ·rfl
   ·simp [gR,qSn]
  rw [cpy,e]
  have:=qN2 (c:=c) (n:=n) (bp:=0) (m:=min 1 n) (by omega) 0 (.inl rfl)
  simpa [rp] using this
 have f1:cpn (gR [c]) n=min 1 n:=by rw [cpn,dJ];rfl
 obtain ⟨m0,hm0⟩:∃ m0,m0=min 1 n:=⟨_,rfl⟩;rw [← hm0] at f0 f1;refine zJ (fun K hK=>?_);simp (disch:=omega) only [push_cast,↓iC9,simprocAttr,eU,List.length_replicate,f0,f1];(repeat refine ⟨by first|omega|decide|((repeat' apply And.intro) <;> first|omega|decide),?_⟩);refine hK _ ?_;clear hK K
 refine zE ?_;refine zD ?_;refine fS (rpS c n) (fun bp=>bp≤n∧(0 < n→0 < bp)) (fun bp=>n - bp) [7,8] [240] m0 (by simp only [zZ,zR,zP,zQ,zN,zS,zM,zX,zU,Nat.reduceEqDiff,reduceIte,rpS];try rfl) ⟨by omega,by omega⟩ ?_
 rintro bp ⟨hb,hp⟩;simp only [rpS]
 by_cases hlt:bp < n
 ·have hl:=qR8 (c:=c) hb
  refine zE ?_;refine zE ?_;refine zJ (fun K hK=>?_);simp (disch:=omega) only [push_cast,↓iC9,simprocAttr,hl];refine hK _ ?_;clear hK K
  refine zA ?_;refine yD rfl ?_;refine zC ?_;refine zA ?_;obtain ⟨m,hm⟩:∃ m,m=min bp (n - bp):=⟨_,rfl⟩
  have again:∀ q,q=bp∨q=bp + m→cpy (rp c n q) bp ((rp c n q).take bp) (n - bp)=rp c n (bp + m):=fun q hq=>by
   rw [cpy,zGs (by omega),List.take_replicate,Nat.min_comm,← hm]
   exact qN2 (by omega) q hq
  have hl2:(rp c n (bp + m)).length=n:=qR8 (by omega)
  have f2:cpn ((rp c n bp).take bp) (n - bp)=m:=by rw [cpn,List.length_take,hl];omega
  have f3:cpn ((rp c n (bp + m)).take bp) (n - bp)=m:=by rw [cpn,List.length_take,hl2];omega
  refine zD ?_;refine zHf 8 7 [(240,.sl true 3 1 (rp c n (bp + m)))] (fun i=>match i with|1=>.own 240|3=>.vw 240 1 bp (n - bp)|4=>.own 240|6=>.vw 240 1 0 bp|7=>.v (.int .i64 m)|_=>.v (.int .i64 bp)) [(38,.v (.int .i64 bp)),(45,.v (.int .i64 m)),(7,.own 240)] (by decide) mixed (by kernel_rfl) (fun i o hi ho=>?_) ?_ (fun K hK=>?_)
  ·match i,hi,ho with
  |0,_,ho=>cases ho;exact ⟨rfl,fE rfl,rfl,[(8,.v (.int .i64 bp))],vW (by kernel_rfl) rfl mV,nY rfl,fun _=>⟨rfl,kZ rfl,kZ rfl⟩,fun e=>by omega⟩
  |1,_,ho=>cases ho;exact ⟨rfl,fE rfl,rfl,[(7,.own 240)],vW (by kernel_rfl) rfl mV,nY rfl,fun _=>⟨rfl,kZ rfl,kZ rfl⟩,fun e=>by omega⟩
  |2,_,ho=>cases ho;exact ⟨rfl,fE rfl,rfl,[(8,.v (.int .i64 bp))],vW (by kernel_rfl) rfl mV,nY rfl,fun _=>⟨rfl,kZ rfl,kZ rfl⟩,fun e=>by omega⟩
  |3,_,ho =>
    cases ho
    refine ⟨rfl,fE rfl,rfl,[(39,.own 240),(40,.v (.int .i64 bp))],oS 1 (by kernel_rfl) rfl (oS 2 (by kernel_rfl) rfl mV),nY rfl,fun _=>⟨rfl,?_,?_⟩,fun e=>by omega⟩
    ·simp (disch:=omega) only [push_cast,↓iC9,simprocAttr,hl];exact ⟨True,trivial,rfl⟩
    ·simp (disch:=omega) only [push_cast,↓iC9,simprocAttr,hl2];exact ⟨True,trivial,rfl⟩
  |4,_,ho=>cases ho;exact ⟨rfl,fE rfl,rfl,[(7,.own 240)],vW (by kernel_rfl) rfl mV,nY rfl,fun _=>⟨rfl,kZ rfl,kZ rfl⟩,fun e=>by omega⟩
  |5,_,ho=>cases ho;exact ⟨rfl,fE rfl,rfl,[(8,.v (.int .i64 bp))],vW (by kernel_rfl) rfl mV,nY rfl,fun _=>⟨rfl,kZ rfl,kZ rfl⟩,fun e=>by omega⟩
  |6,_,ho =>
    cases ho
    refine ⟨rfl,fE rfl,rfl,[(42,.own 240),(43,.v (.int .i64 bp))],oS 4 (by kernel_rfl) rfl (oS 5 (by kernel_rfl) rfl mV),nY rfl,fun _=>⟨rfl,?_,?_⟩,fun e=>by omega⟩
    ·simp (disch:=omega) only [push_cast,↓iC9,simprocAttr,hl,Nat.sub_zero];exact ⟨True,trivial,rfl⟩
    ·simp (disch:=omega) only [push_cast,↓iC9,simprocAttr,hl2,Nat.sub_zero];exact ⟨True,trivial,rfl⟩
  |7,_,ho =>
    cases ho
    refine ⟨rfl,fE rfl,rfl,[(41,.vw 240 1 bp (n - bp)),(44,.vw 240 1 0 bp)],oS 3 (by kernel_rfl) rfl (oS 6 (by kernel_rfl) rfl mV),nY rfl,fun e=>absurd rfl e,fun _=>⟨_,_,rfl,?_,?_⟩⟩
    ·simp (disch:=omega) only [push_cast,↓iC9,simprocAttr,hl,again bp (.inl rfl),f2];exact ⟨True,trivial,rfl⟩
    ·simp (disch:=omega) only [push_cast,↓iC9,simprocAttr,hl2,again (bp + m) (.inr rfl),f3];exact ⟨True,trivial,rfl⟩
  ·exact oS 0 (by kernel_rfl) rfl (oS 7 (by kernel_rfl) rfl (vW (by kernel_rfl) rfl mV))
  ·with_reducible refine aH ?_;simp (disch:=omega) only [push_cast,↓iC9,simprocAttr]
   refine hK _ ?_;clear hK K;refine zB ?_;refine zA ?_;refine ⟨bp + m,?_,⟨by omega,by omega⟩,by omega⟩
   simp only [zZ,zR,zP,zQ,zN,zS,zM,zX,zU,Nat.reduceEqDiff,reduceIte,rpS];try rfl
 ·have hbn:bp=n:=by omega
  subst hbn
  have hl:=qR8 (c:=c) hb
  refine zE ?_;refine zE ?_;refine zJ (fun K hK=>?_);simp (disch:=omega) only [push_cast,↓iC9,simprocAttr,hl];refine hK _ ?_;clear hK K
  refine zA ?_;refine yC rfl ?_;refine zT ?_;refine zG ?_;refine zG ?_;refine zH ?_;refine zE ?_;refine zJ (fun K hK=>?_);simp (disch:=omega) only [push_cast,↓iC9,simprocAttr];refine hK _ ?_;clear hK K
  refine zA ?_;refine zW ?_;simp only [yA,yM,yH,yE,aR,bT,yK,yJ,zS,zM,Nat.reduceEqDiff,reduceIte,reduceCtorEq]
  have e9:rp c bp bp=gR (List.replicate bp c):=by simp [rp,gR,qSn]
  rw [e9];exact xK rfl (xH _) ⟨rfl,rfl⟩
end Go.Proofs.Ytmgilahhnbopmaa
