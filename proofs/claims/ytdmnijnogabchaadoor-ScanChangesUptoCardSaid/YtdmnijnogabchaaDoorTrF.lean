/-
  strings.Split at a stroke.
-/
import Derived.Test.YtdmnijnogabchaaDoorUpe
set_option linter.unusedSimpArgs false
set_option linter.unusedVariables false
set_option maxRecDepth 20000
namespace Go.Tr
open Go Go.Eng Go.RowKit Go.Lib
theorem qWj {s:ByteArray} (h:s.data.toList.count 47=0):parts s=[s]:=by
 rw [← lA,show countB s stroke=s.data.toList.count 47 from count_one 47 _,h];rfl
theorem qWi {s:ByteArray} {k:Nat} (h:s.data.toList.count 47=k + 1):∃ i:Nat,indexByte s.data.toList 47=i∧i < s.size∧parts s=s.extract 0 i :: parts (s.extract (i + 1) s.size)∧(s.extract (i + 1) s.size).data.toList.count 47=k:=by
 have hc:countB s stroke=k + 1:=(count_one 47 _).trans h
 have hi:indexB s stroke=indexByte s.data.toList 47:=index_one _ _
 have h1:1≤stroke.size:=by decide
 rcases indexB_cases s stroke with hx|⟨i,hx,hs⟩
 ·rw [countB_miss s stroke hx] at hc;omega
 ·have hk:=countB_hit s stroke i h1 hx
  have e1:stroke.size=1:=rfl
  rw [e1] at hk hs;rw [hc] at hk
  have hk2:countB (s.extract (i + 1) s.size) stroke=k:=by omega
  refine ⟨i,by rw [← hi];exact hx,by omega,?_,(count_one 47 _).symm.trans hk2⟩
  rw [← lA,← lA,hc,hk2,splitB_hit stroke 0 k s i hx,e1];rfl
theorem qL8 (s:ByteArray):(parts s).length=s.data.toList.count 47 + 1:=by
 rw [← lA,splitB_all stroke (by decide) 0 _ s rfl]
 exact congrArg (· + 1) (count_one 47 _)
theorem xP (s:ByteArray):(parts s).length≤s.size + 1:=by
 rw [qL8]
 have:=List.count_le_length (a:=(47:UInt8)) (l:=s.data.toList)
 rw [Lib.size_eq];omega
end Go.Tr
namespace Go.Proofs.YtdmnijnogabchaaDoor
open Go Go.Eng Go.RowKit Go.Tr
theorem qS7 (s:ByteArray):HFun Tryd.prog 71 [.v (.string s),.v (.int .u8 47)] (fun h st=>h=.v (.int .i64 (Lib.indexByte s.data.toList 47))):=by
 refine (qHi fun w vs R=>?_).mono fun h st q=>q.1
 obtain ⟨r1,r2⟩:=R
 match vs,r1 with
|[a,b],_ =>
 have ha:=bB (r2 0 (by simp) (by simp))
 have hb:=bB (r2 1 (by simp) (by simp))
 simp only [List.getElem_cons_zero,List.getElem_cons_succ] at ha hb;subst ha;subst hb;refine (Tryd.stringslite_IndexByte s 47 w).mono ?_;rintro e w' ⟨rfl,rfl⟩;exact qAz ⟨rfl,Below.refl _ _⟩
theorem qZv (s:ByteArray):HFun Tryd.prog 39 [.v (.string s),.v (.string { data:=#[47] })] (fun h st=>h=.v (.int .i64 (s.data.toList.count 47:Nat))):=by
 refine (qHi fun w vs R=>?_).mono fun h st q=>q.1
 obtain ⟨r1,r2⟩:=R
 match vs,r1 with
|[a,b],_ =>
 have ha:=bB (r2 0 (by simp) (by simp))
 have hb:=bB (r2 1 (by simp) (by simp))
 simp only [List.getElem_cons_zero,List.getElem_cons_succ] at ha hb;subst ha;subst hb;refine (Tryd.strings_Count_one s 47 w).mono ?_;rintro e w' ⟨rfl,rfl⟩;exact qAz ⟨rfl,Below.refl _ _⟩
theorem mZ:(({ data:=#[47] }:ByteArray).size:Int)=1:=rfl
theorem zAf:sL { data:=#[47] } 0=47:=rfl
set_option maxHeartbeats 4000000 in
theorem qR5 (s:ByteArray):HFun Tryd.prog 58 [.v (.string s),.v (.string { data:=#[47] })] (fun h st=>h=.v (.int .i64 (Lib.indexByte s.data.toList 47))):=by
 refine kG (N:=143) Tryd.func58 rfl Tryd.ntmps58 Tryd.results58 (by simp) ?_
 refine zE ?_;refine zJ (fun K hK=>?_);simp (disch:=omega) only [push_cast,↓iC9,Nat.reduceBEq,Nat.reduceAdd,Nat.reduceLT,Nat.reduceEqDiff,reduceIte,reduceCtorEq,Nat.reduceLeDiff,Nat.reduceSub,List.reduceReplicate,Nat.reduceMul,Int.reduceToNat,Nat.reducePow];refine hK _ ?_;clear hK K
 refine zE ?_;refine zJ (fun K hK=>?_);simp (disch:=omega) only [push_cast,↓iC9,Nat.reduceBEq,Nat.reduceAdd,Nat.reduceLT,Nat.reduceEqDiff,reduceIte,reduceCtorEq,Nat.reduceLeDiff,Nat.reduceSub,List.reduceReplicate,Nat.reduceMul,Int.reduceToNat,Nat.reducePow,mZ];refine hK _ ?_;clear hK K
 refine zE ?_;refine zD ?_;refine zE ?_
 by_cases h0:({ data:=#[47] }:ByteArray)=s
 ·have hd:decide (({ data:=#[47] }:ByteArray)=s)=true:=decide_eq_true h0
  refine zJ (fun K hK=>?_);simp (disch:=omega) only [push_cast,↓iC9,Nat.reduceBEq,Nat.reduceAdd,Nat.reduceLT,Nat.reduceEqDiff,reduceIte,reduceCtorEq,Nat.reduceLeDiff,Nat.reduceSub,List.reduceReplicate,Nat.reduceMul,Int.reduceToNat,Nat.reducePow,hd];refine hK _ ?_;clear hK K
  refine yD rfl ?_;refine zE ?_;refine zJ (fun K hK=>?_);simp (disch:=omega) only [push_cast,↓iC9,Nat.reduceBEq,Nat.reduceAdd,Nat.reduceLT,Nat.reduceEqDiff,reduceIte,reduceCtorEq,Nat.reduceLeDiff,Nat.reduceSub,List.reduceReplicate,Nat.reduceMul,Int.reduceToNat,Nat.reducePow];refine hK _ ?_;clear hK K
  refine zA ?_;refine zW ?_;refine zL ?_;refine zK ?_;simp only [yA,yM,yH,yE,aH,aT,yK,yJ,zS,zM,Nat.reduceEqDiff,reduceIte,reduceCtorEq];refine bD ?_;rw [← h0];rfl
 ·have hd:decide (({ data:=#[47] }:ByteArray)=s)=false:=decide_eq_false h0
  refine zJ (fun K hK=>?_);simp (disch:=omega) only [push_cast,↓iC9,Nat.reduceBEq,Nat.reduceAdd,Nat.reduceLT,Nat.reduceEqDiff,reduceIte,reduceCtorEq,Nat.reduceLeDiff,Nat.reduceSub,List.reduceReplicate,Nat.reduceMul,Int.reduceToNat,Nat.reducePow,hd];refine hK _ ?_;clear hK K
  refine yC rfl ?_;refine zE ?_;refine zJ (fun K hK=>?_);simp (disch:=omega) only [push_cast,↓iC9,Nat.reduceBEq,Nat.reduceAdd,Nat.reduceLT,Nat.reduceEqDiff,reduceIte,reduceCtorEq,Nat.reduceLeDiff,Nat.reduceSub,List.reduceReplicate,Nat.reduceMul,Int.reduceToNat,Nat.reducePow];refine hK _ ?_;clear hK K
  refine zA ?_;refine yD rfl ?_;refine zE ?_;refine zJ (fun K hK=>?_);simp (disch:=omega) only [push_cast,↓iC9,Nat.reduceBEq,Nat.reduceAdd,Nat.reduceLT,Nat.reduceEqDiff,reduceIte,reduceCtorEq,Nat.reduceLeDiff,Nat.reduceSub,List.reduceReplicate,Nat.reduceMul,Int.reduceToNat,Nat.reducePow,mZ,zAf]
  refine ⟨by first|omega|decide|((repeat' apply And.intro) <;> first|omega|decide),?_⟩
  refine cU zL8 (qS7 s) (.cons (.v _) (.cons (.v _) .nil)) ?_;with_reducible refine aP ?_;simp (disch:=omega) only [push_cast,↓iC9,Nat.reduceBEq,Nat.reduceAdd,Nat.reduceLT,Nat.reduceEqDiff,reduceIte,reduceCtorEq,Nat.reduceLeDiff,Nat.reduceSub,List.reduceReplicate,Nat.reduceMul,Int.reduceToNat,Nat.reducePow]
  refine hK _ ?_;clear hK K;refine zA ?_;refine zW ?_;refine zL ?_;refine zK ?_;simp only [yA,yM,yH,yE,aH,aT,yK,yJ,zS,zM,Nat.reduceEqDiff,reduceIte,reduceCtorEq];exact bD rfl
set_option maxHeartbeats 1000000 in
theorem zGl (s:ByteArray):HFun Tryd.prog 51 [.v (.string s),.v (.string { data:=#[47] })] (fun h st=>h=.v (.int .i64 (Lib.indexByte s.data.toList 47))):=by
 refine kG (N:=8) Tryd.func51 rfl Tryd.ntmps51 Tryd.results51 (by simp) ?_
 refine zE ?_;refine zJ (fun K hK=>?_);simp (disch:=omega) only [push_cast,↓iC9,Nat.reduceBEq,Nat.reduceAdd,Nat.reduceLT,Nat.reduceEqDiff,reduceIte,reduceCtorEq,Nat.reduceLeDiff,Nat.reduceSub,List.reduceReplicate,Nat.reduceMul,Int.reduceToNat,Nat.reducePow];refine hK _ ?_;clear hK K
 refine zE ?_;refine zJ (fun K hK=>?_);simp (disch:=omega) only [push_cast,↓iC9,Nat.reduceBEq,Nat.reduceAdd,Nat.reduceLT,Nat.reduceEqDiff,reduceIte,reduceCtorEq,Nat.reduceLeDiff,Nat.reduceSub,List.reduceReplicate,Nat.reduceMul,Int.reduceToNat,Nat.reducePow]
 refine cU zJj (qR5 s) (.cons (.v _) (.cons (.v _) .nil)) ?_;with_reducible refine aP ?_;simp (disch:=omega) only [push_cast,↓iC9,Nat.reduceBEq,Nat.reduceAdd,Nat.reduceLT,Nat.reduceEqDiff,reduceIte,reduceCtorEq,Nat.reduceLeDiff,Nat.reduceSub,List.reduceReplicate,Nat.reduceMul,Int.reduceToNat,Nat.reducePow]
 refine hK _ ?_;clear hK K;refine zA ?_;refine zW ?_;simp only [yA,yM,yH,yE,aH,aT,yK,yJ,zS,zM,Nat.reduceEqDiff,reduceIte,reduceCtorEq];exact bD rfl
theorem qTh {S:HS} {xs:List (List FV)} {Q:HV→aC→Prop} (hf:∀ x ∈ xs,∀ f ∈ x,FreshF f) (q:Q (.lst true xs) []):qKu S (.lst true xs) Q :=
 ⟨[],by simp,rfl,.lst (.lst hf),fun id h=>by simp at h,by rw [HV.ren];exact q⟩
theorem zAe:decide (({ data:=#[47] }:ByteArray)={ data:=#[] })=false:=by decide
def qR (done:List ByteArray) (n:Nat):List ByteArray:=done ++ List.replicate n ByteArray.empty
theorem qW8 (n:Nat):List.replicate n [FV.v (.string ByteArray.empty)]=bZ (qR [] n):=by simp [qR,bZ,qQc]
theorem qPi (done:List ByteArray) (n:Nat):(bZ (qR done n)).length=done.length + n:=by simp [qR,bZ]
theorem qPh (done:List ByteArray) (n:Nat) (x:ByteArray):(bZ (qR done (n + 1))).set done.length [.v (.string x)]=bZ (qR (done ++ [x]) n):=by
 simp [qR,bZ,qQc,List.replicate_succ]
theorem qPj (done:List ByteArray) (n:Nat) {d:List FV}:(bZ (qR done (n + 1))).getD done.length d=[.v (.string ByteArray.empty)]:=by
 simp [qR,bZ,qQc,List.replicate_succ,List.getD_eq_getElem?_getD]
set_option maxHeartbeats 8000000 in
theorem qW6 (s:ByteArray) (hs:s.size≤1048576):HFun Tryd.prog 48 [.v (.string s),.v (.string { data:=#[47] }),.v (.int .i64 0),.v (.int .i64 (-1))] (fun h st=>h=.lst true (bZ (parts s))∧st=[]):=by
 refine kG (N:=66) Tryd.func48 rfl Tryd.ntmps48 Tryd.results48 (by simp) ?_
 obtain ⟨k,hk⟩:∃ k,s.data.toList.count 47=k:=⟨_,rfl⟩
 have hkl:k≤s.size:=by rw [← hk,Lib.size_eq];exact List.count_le_length
 have hc:=qZv s
 rw [hk] at hc;refine zE ?_;refine zJ (fun K hK=>?_);simp (disch:=omega) only [push_cast,↓iC9,Nat.reduceBEq,Nat.reduceAdd,Nat.reduceLT,Nat.reduceEqDiff,reduceIte,reduceCtorEq,Nat.reduceLeDiff,Nat.reduceSub,List.reduceReplicate,Nat.reduceMul,Int.reduceToNat,Nat.reducePow];refine hK _ ?_;clear hK K
 refine zE ?_;refine zE ?_;refine zJ (fun K hK=>?_);simp (disch:=omega) only [push_cast,↓iC9,Nat.reduceBEq,Nat.reduceAdd,Nat.reduceLT,Nat.reduceEqDiff,reduceIte,reduceCtorEq,Nat.reduceLeDiff,Nat.reduceSub,List.reduceReplicate,Nat.reduceMul,Int.reduceToNat,Nat.reducePow];refine hK _ ?_;clear hK K
 refine yC rfl ?_;refine zC ?_;refine zE ?_;refine zE ?_;refine zJ (fun K hK=>?_);simp (disch:=omega) only [push_cast,↓iC9,Nat.reduceBEq,Nat.reduceAdd,Nat.reduceLT,Nat.reduceEqDiff,reduceIte,reduceCtorEq,Nat.reduceLeDiff,Nat.reduceSub,List.reduceReplicate,Nat.reduceMul,Int.reduceToNat,Nat.reducePow,zAe];refine hK _ ?_;clear hK K
 refine yC rfl ?_;refine zC ?_;refine zE ?_;refine zE ?_;refine zJ (fun K hK=>?_);simp (disch:=omega) only [push_cast,↓iC9,Nat.reduceBEq,Nat.reduceAdd,Nat.reduceLT,Nat.reduceEqDiff,reduceIte,reduceCtorEq,Nat.reduceLeDiff,Nat.reduceSub,List.reduceReplicate,Nat.reduceMul,Int.reduceToNat,Nat.reducePow];refine hK _ ?_;clear hK K
 refine yD rfl ?_;refine zJ (fun K hK=>?_);simp (disch:=omega) only [push_cast,↓iC9,Nat.reduceBEq,Nat.reduceAdd,Nat.reduceLT,Nat.reduceEqDiff,reduceIte,reduceCtorEq,Nat.reduceLeDiff,Nat.reduceSub,List.reduceReplicate,Nat.reduceMul,Int.reduceToNat,Nat.reducePow]
 refine cU zLh hc (.cons (.v _) (.cons (.v _) .nil)) ?_;with_reducible refine aP ?_;simp (disch:=omega) only [push_cast,↓iC9,Nat.reduceBEq,Nat.reduceAdd,Nat.reduceLT,Nat.reduceEqDiff,reduceIte,reduceCtorEq,Nat.reduceLeDiff,Nat.reduceSub,List.reduceReplicate,Nat.reduceMul,Int.reduceToNat,Nat.reducePow]
 refine hK _ ?_;clear hK K;refine zE ?_;refine zJ (fun K hK=>?_);simp (disch:=omega) only [push_cast,↓iC9,Nat.reduceBEq,Nat.reduceAdd,Nat.reduceLT,Nat.reduceEqDiff,reduceIte,reduceCtorEq,Nat.reduceLeDiff,Nat.reduceSub,List.reduceReplicate,Nat.reduceMul,Int.reduceToNat,Nat.reducePow]
 rw [if_neg (show ¬ (s.size:Int) + 1 < (k:Int) + 1 by omega)]
 refine hK _ ?_;clear hK K;refine yB [0,1,2,3] [] (by simp only [zZ,zR,zP,zQ,zN,zS,zM,zX,zU,Nat.reduceEqDiff,reduceIte];exact rfl) ?_
 refine zE ?_;refine zJ (fun K hK=>?_);simp (disch:=omega) only [push_cast,↓iC9,Nat.reduceBEq,Nat.reduceAdd,Nat.reduceLT,Nat.reduceEqDiff,reduceIte,reduceCtorEq,Nat.reduceLeDiff,Nat.reduceSub,List.reduceReplicate,Nat.reduceMul,Int.reduceToNat,Nat.reducePow,qW8]
 refine ⟨⟨by omega,by omega,by simp only [maxLen];omega⟩,?_⟩
 refine hK _ ?_;clear hK K
 have ek:(k:Int) + 1 - 1=k:=by omega
 refine zE ?_;refine zJ (fun K hK=>?_);simp (disch:=omega) only [push_cast,↓iC9,Nat.reduceBEq,Nat.reduceAdd,Nat.reduceLT,Nat.reduceEqDiff,reduceIte,reduceCtorEq,Nat.reduceLeDiff,Nat.reduceSub,List.reduceReplicate,Nat.reduceMul,Int.reduceToNat,Nat.reducePow,ek];refine hK _ ?_;clear hK K
 refine zE ?_;refine zJ (fun K hK=>?_);simp (disch:=omega) only [push_cast,↓iC9,Nat.reduceBEq,Nat.reduceAdd,Nat.reduceLT,Nat.reduceEqDiff,reduceIte,reduceCtorEq,Nat.reduceLeDiff,Nat.reduceSub,List.reduceReplicate,Nat.reduceMul,Int.reduceToNat,Nat.reducePow];refine hK _ ?_;clear hK K
 refine zE ?_;refine zD ?_;refine gC (fun x:List ByteArray × ByteArray=>⟨[(0,.v (.string x.2)),(1,.v (.string { data:=#[47] })),(2,.v (.int .i64 0)),(3,.v (.int .i64 k)),(9,.own 248),(10,.v (.int .i64 x.1.length))],[(248,.sl true 9 1 (bZ (qR x.1 (k + 1 - x.1.length))))]⟩)
  (fun x=>x.1.length≤k∧parts s=x.1 ++ parts x.2∧x.2.data.toList.count 47=k - x.1.length∧x.2.size≤s.size) (fun x=>k - x.1.length) [0,1,2,3,9,10] [248] ([],s) (by simp only [zZ,zR,zP,zQ,zN,zS,zM,zX,zU,Nat.reduceEqDiff,reduceIte];rfl) ⟨Nat.zero_le _,rfl,by simpa using hk,Nat.le_refl _⟩ ?_
 rintro ⟨done,r⟩ ⟨h1,h2,h3,h4⟩;simp only at h1 h2 h3 h4
 by_cases hlt:done.length < k
 ·obtain ⟨m,hm⟩:∃ m,k - done.length=m + 1:=⟨k - done.length - 1,by omega⟩
  rw [hm] at h3;obtain ⟨i,i1,i2,i3,i4⟩:=qWi h3
  have ix:=zGl r
  rw [i1] at ix;refine zE ?_;refine zE ?_;refine zJ (fun K hK=>?_);simp (disch:=omega) only [push_cast,↓iC9,Nat.reduceBEq,Nat.reduceAdd,Nat.reduceLT,Nat.reduceEqDiff,reduceIte,reduceCtorEq,Nat.reduceLeDiff,Nat.reduceSub,List.reduceReplicate,Nat.reduceMul,Int.reduceToNat,Nat.reducePow];refine hK _ ?_;clear hK K
  refine zA ?_;refine yD rfl ?_;refine zC ?_;refine zA ?_;refine zD ?_;refine zE ?_;refine zJ (fun K hK=>?_);simp (disch:=omega) only [push_cast,↓iC9,Nat.reduceBEq,Nat.reduceAdd,Nat.reduceLT,Nat.reduceEqDiff,reduceIte,reduceCtorEq,Nat.reduceLeDiff,Nat.reduceSub,List.reduceReplicate,Nat.reduceMul,Int.reduceToNat,Nat.reducePow]
  refine cU zMb ix (.cons (.v _) (.cons (.v _) .nil)) ?_;with_reducible refine aP ?_;simp (disch:=omega) only [push_cast,↓iC9,Nat.reduceBEq,Nat.reduceAdd,Nat.reduceLT,Nat.reduceEqDiff,reduceIte,reduceCtorEq,Nat.reduceLeDiff,Nat.reduceSub,List.reduceReplicate,Nat.reduceMul,Int.reduceToNat,Nat.reducePow]
  refine hK _ ?_;clear hK K;refine zE ?_;refine zE ?_;refine zJ (fun K hK=>?_);simp (disch:=omega) only [push_cast,↓iC9,Nat.reduceBEq,Nat.reduceAdd,Nat.reduceLT,Nat.reduceEqDiff,reduceIte,reduceCtorEq,Nat.reduceLeDiff,Nat.reduceSub,List.reduceReplicate,Nat.reduceMul,Int.reduceToNat,Nat.reducePow];refine hK _ ?_;clear hK K
  refine zA ?_;refine yC rfl ?_;refine zC ?_;refine zE ?_;rw [show k + 1 - done.length=(m + 1) + 1 by omega]
  refine zJ (fun K hK=>?_);simp (disch:=omega) only [push_cast,↓iC9,Nat.reduceBEq,Nat.reduceAdd,Nat.reduceLT,Nat.reduceEqDiff,reduceIte,reduceCtorEq,Nat.reduceLeDiff,Nat.reduceSub,List.reduceReplicate,Nat.reduceMul,Int.reduceToNat,Nat.reducePow,qPi,qPh,qPj,Int.add_zero]
  refine ⟨by first|omega|decide|((repeat' apply And.intro) <;> first|omega|decide),?_⟩
  refine hK _ ?_;clear hK K;refine zE ?_;refine zJ (fun K hK=>?_);simp (disch:=omega) only [push_cast,↓iC9,Nat.reduceBEq,Nat.reduceAdd,Nat.reduceLT,Nat.reduceEqDiff,reduceIte,reduceCtorEq,Nat.reduceLeDiff,Nat.reduceSub,List.reduceReplicate,Nat.reduceMul,Int.reduceToNat,Nat.reducePow,mZ]
  refine ⟨by first|omega|decide|((repeat' apply And.intro) <;> first|omega|decide),?_⟩
  refine hK _ ?_;clear hK K;refine zA ?_;refine zJ (fun K hK=>?_);simp (disch:=omega) only [push_cast,↓iC9,Nat.reduceBEq,Nat.reduceAdd,Nat.reduceLT,Nat.reduceEqDiff,reduceIte,reduceCtorEq,Nat.reduceLeDiff,Nat.reduceSub,List.reduceReplicate,Nat.reduceMul,Int.reduceToNat,Nat.reducePow];refine hK _ ?_;clear hK K
  refine zB ?_;refine zA ?_;refine ⟨(done ++ [r.extract 0 i],r.extract (i + 1) r.size),?_,⟨?_,?_,?_,?_⟩,?_⟩
  ·simp only [List.length_append,List.length_singleton];rw [show k + 1 - (done.length + 1)=m + 1 by omega]
   simp only [zZ,zR,zP,zQ,zN,zS,zM,zX,zU,Nat.reduceEqDiff,reduceIte];rfl
  ·dsimp only;simp;omega
  ·dsimp only;rw [h2,i3];simp
  ·dsimp only;rw [i4];simp;omega
  ·dsimp only;rw [ByteArray.size_extract];omega
  ·dsimp only;simp;omega
 ·have hk1:done.length=k:=by omega
  rw [hk1,Nat.sub_self] at h3
  have hp:=qWj h3
  rw [hp] at h2;refine zE ?_;refine zE ?_;refine zJ (fun K hK=>?_);simp (disch:=omega) only [push_cast,↓iC9,Nat.reduceBEq,Nat.reduceAdd,Nat.reduceLT,Nat.reduceEqDiff,reduceIte,reduceCtorEq,Nat.reduceLeDiff,Nat.reduceSub,List.reduceReplicate,Nat.reduceMul,Int.reduceToNat,Nat.reducePow];refine hK _ ?_;clear hK K
  refine zA ?_;refine yC rfl ?_;refine zT ?_;refine zG ?_;refine zG ?_;refine zH ?_;refine zE ?_;obtain rfl:=hk1;rw [show done.length + 1 - done.length=0 + 1 by omega]
  refine zJ (fun K hK=>?_);simp (disch:=omega) only [push_cast,↓iC9,Nat.reduceBEq,Nat.reduceAdd,Nat.reduceLT,Nat.reduceEqDiff,reduceIte,reduceCtorEq,Nat.reduceLeDiff,Nat.reduceSub,List.reduceReplicate,Nat.reduceMul,Int.reduceToNat,Nat.reducePow,qPi,qPh,qPj];refine hK _ ?_;clear hK K
  have e0:qR (done ++ [r]) 0=parts s:=by rw [h2];simp [qR]
  rw [e0];refine zE ?_;refine zFn 248 rfl (by simp only [qQq,qKb,qBy,qEp,qAw,qWz,qGv,qGw,qBt,qGu,qGt,qRb,qGx,qGs,qQj,qQk,qQl,Nat.reduceEqDiff,reduceIte,List.map_cons,List.map_nil,List.map_append];exact rfl) ?_
  have pl:(parts s).length=done.length + 1:=by rw [h2];simp
  have pt:(bZ (parts s)).take (done.length + 1)=bZ (parts s):=by rw [zAc,List.take_of_length_le (by omega)]
  refine zJ (fun K hK=>?_);simp (disch:=omega) only [push_cast,↓iC9,Nat.reduceBEq,Nat.reduceAdd,Nat.reduceLT,Nat.reduceEqDiff,reduceIte,reduceCtorEq,Nat.reduceLeDiff,Nat.reduceSub,List.reduceReplicate,Nat.reduceMul,Int.reduceToNat,Nat.reducePow,aM,dD,pl,pt];refine hK _ ?_;clear hK K
  refine zA ?_;refine zW ?_;simp only [yA,yM,yH,yE,aH,aT,yK,yJ,zS,zM,Nat.reduceEqDiff,reduceIte,reduceCtorEq];exact qTh (lU _) ⟨rfl,rfl⟩
set_option maxHeartbeats 1000000 in
theorem zF1 (s:ByteArray) (hs:s.size≤1048576):HFun Tryd.prog 37 [.v (.string s),.v (.string { data:=#[47] })] (fun h st=>h=.lst true (bZ (parts s))∧st=[]):=by
 refine kG (N:=8) Tryd.func37 rfl Tryd.ntmps37 Tryd.results37 (by simp) ?_
 refine zE ?_;refine zJ (fun K hK=>?_);simp (disch:=omega) only [push_cast,↓iC9,Nat.reduceBEq,Nat.reduceAdd,Nat.reduceLT,Nat.reduceEqDiff,reduceIte,reduceCtorEq,Nat.reduceLeDiff,Nat.reduceSub,List.reduceReplicate,Nat.reduceMul,Int.reduceToNat,Nat.reducePow];refine hK _ ?_;clear hK K
 refine zE ?_;refine zJ (fun K hK=>?_);simp (disch:=omega) only [push_cast,↓iC9,Nat.reduceBEq,Nat.reduceAdd,Nat.reduceLT,Nat.reduceEqDiff,reduceIte,reduceCtorEq,Nat.reduceLeDiff,Nat.reduceSub,List.reduceReplicate,Nat.reduceMul,Int.reduceToNat,Nat.reducePow]
 refine hat 56 zMc (qW6 s hs) (.cons (.v _) (.cons (.v _) (.cons (.v _) (.cons (.v _) .nil)))) ?_;rintro _ _ ⟨rfl,rfl⟩;with_reducible refine aP ?_;simp (disch:=omega) only [push_cast,↓iC9,Nat.reduceBEq,Nat.reduceAdd,Nat.reduceLT,Nat.reduceEqDiff,reduceIte,reduceCtorEq,Nat.reduceLeDiff,Nat.reduceSub,List.reduceReplicate,Nat.reduceMul,Int.reduceToNat,Nat.reducePow]
 refine hK _ ?_;clear hK K;refine zA ?_;refine zW ?_;simp only [yA,yM,yH,yE,aH,aT,yK,yJ,zS,zM,Nat.reduceEqDiff,reduceIte,reduceCtorEq];exact qTh (lU _) ⟨rfl,rfl⟩
end Go.Proofs.YtdmnijnogabchaaDoor
