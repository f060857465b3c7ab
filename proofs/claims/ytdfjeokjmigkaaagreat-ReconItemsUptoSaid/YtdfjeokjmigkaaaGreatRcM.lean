/-
  Recon: the zTx that two files make: Marked, Merge, over the contract of merge.Merge.
-/
import Derived.Test.YtdfjeokjmigkaaaGreatRcH
set_option linter.unusedSimpArgs false
set_option linter.unusedVariables false
set_option maxRecDepth 20000
namespace Go.Rc
open Go Go.Eng Go.RowKit Go.Tr Go.Dk
def nV (a:Int × ByteArray):ByteArray:=if a.1=2 then a.2 else { data:=#[] }
def iX (h s:Int × ByteArray) (T:ByteArray) (N E:Int):ByteArray × Int × Int :=
 if h.1=2∧s.1=2 then (if E=0 then (if 4096 < T.size then ({ data:=#[] },0,4) else (T,N,0)) else ({ data:=#[] },0,E)) else ({ data:=#[] },0,12)
def okM (m:ByteArray × Int × Int):Bool:=decide (m.2.2=0) && !decide (0 < m.2.1)
theorem qDv {S:HS} {n:Int × ByteArray} {b:Value} {Q:HV→aD→Prop} (q:Q (.tup [fE n,.v b]) []):qG3 S (.tup [fE n,.v b]) Q :=
 ⟨[],by simp,rfl,.tup fun x hx=>by
  simp only [List.mem_cons,List.not_mem_nil,or_false] at hx
  rcases hx with rfl|rfl
  ·exact .agg fun x hx=>by simp at hx;rcases hx with rfl|rfl <;> exact .v _
  ·exact .v _,fun id h=>by simp at h,by simpa [HV.ren,lN] using q⟩
end Go.Rc
namespace Go.Proofs.YtdfjeokjmigkaaaGreat
open Go Go.Eng Go.RowKit Go.Tr Go.Dk Go.Rc
set_option maxHeartbeats 4000000 in
theorem qUd (a h s:Int × ByteArray) (T:ByteArray) (N E:Int)
  (cm:HFun Tryz.prog 32 [.v (.string (nV a)),.v (.string h.2),.v (.string s.2)] (fun r st=>r=.tup ([.string T,.int .i64 N,.int .i64 E].map .v))) :
  HFun Tryz.prog 19 [fE a,fE h,fE s] (fun r st=>r=.tup ([.string (iX h s T N E).1,.int .i64 (iX h s T N E).2.1,.int .i64 (iX h s T N E).2.2].map .v)):=by
 refine eF (N:=45) Tryz.func19 rfl Tryz.ntmps19 Tryz.results19 (by simp) ?_
 obtain ⟨ka,da⟩:=a;obtain ⟨kh,dh⟩:=h;obtain ⟨ks,ds⟩:=s;obtain ⟨B,hB⟩:∃ B,nV (ka,da)=B:=⟨_,rfl⟩;rw [hB] at cm;dsimp only at cm;refine zE ?_;refine zJ (fun K hK=>?_);simp (disch:=omega) only [push_cast,↓Int.cast_ofNat_Int,simprocAttr];refine hK _ ?_
 by_cases h1:kh=2
 ·subst h1
  by_cases h2:ks=2
  ·subst h2
   have hmk:iX (2,dh) (2,ds) T N E=(if E=0 then (if 4096 < T.size then ({ data:=#[] },0,4) else (T,N,0)) else ({ data:=#[] },0,E)):=by rw [iX,if_pos ⟨rfl,rfl⟩]
   rw [hmk];refine zE ?_;refine zE ?_;refine zJ (fun K hK=>?_);simp (disch:=omega) only [push_cast,↓Int.cast_ofNat_Int,simprocAttr];(repeat refine ⟨by first|omega|decide|((repeat' apply And.intro) <;> first|omega|decide),?_⟩);refine hK _ ?_
   refine zA ?_;refine yC rfl ?_;refine zC ?_;refine zE ?_;refine zJ (fun K hK=>?_);simp (disch:=omega) only [push_cast,↓Int.cast_ofNat_Int,simprocAttr];refine hK _ ?_
   refine zE ?_;refine zE ?_;refine zJ (fun K hK=>?_);simp (disch:=omega) only [push_cast,↓Int.cast_ofNat_Int,simprocAttr];(repeat refine ⟨by first|omega|decide|((repeat' apply And.intro) <;> first|omega|decide),?_⟩);refine hK _ ?_
   refine zA ?_;refine qEd (fun _:Unit=>⟨[(4,.ptr 32 2 0 0),(5,.ptr 40 2 0 0),(6,.v (.string { data:=#[] })),(7,.v (.int .i64 0)),(8,.v (.int .i64 0)),(9,.v (.string B))],[(32,.bx true 33 [.v (.int .i64 2),.v (.string dh)]),(40,.bx true 33 [.v (.int .i64 2),.v (.string ds)])]⟩) (fun _=>True) [4,5,6,7,8,9] [32,40] ?_ ?_
   ·by_cases h3:ka=2
    ·subst h3;refine eQ rfl (fun _=>?_) (fun hf=>by simp at hf)
     have hB2:da=B:=hB
     subst hB2;refine zJ (fun K hK=>?_);simp (disch:=omega) only [push_cast,↓Int.cast_ofNat_Int,simprocAttr];(repeat refine ⟨by first|omega|decide|((repeat' apply And.intro) <;> first|omega|decide),?_⟩);refine hK _ ?_
     exact ⟨(),by simp only [zZ,zR,zP,zQ,zN,zS,zM,zX,zU,Nat.reduceEqDiff,reduceIte];try rfl,trivial⟩
    ·refine eQ rfl (fun ht=>by simp [h3] at ht) (fun _=>?_)
     have hB2:B={ data:=#[] }:=by rw [← hB,nV,if_neg h3]
     subst hB2;refine zC ?_;exact ⟨(),by simp only [zZ,zR,zP,zQ,zN,zS,zM,zX,zU,Nat.reduceEqDiff,reduceIte];try rfl,trivial⟩
   intro S' _ hE _;refine zE ?_;refine yB [4,5,6,7,8,9] [32,40] hE ?_;clear hE;refine zJ (fun K hK=>?_);simp (disch:=omega) only [push_cast,↓Int.cast_ofNat_Int,simprocAttr]
   refine qJz zYj cm (.cons (.v _) (.cons (.v _) (.cons (.v _) .nil))) ?_;with_reducible refine aB ?_;simp (disch:=omega) only [push_cast,↓Int.cast_ofNat_Int,simprocAttr]
   refine hK _ ?_;refine yB [6,7,8,10,11] [] (by simp only [zZ,zR,zP,zQ,zN,zS,zM,zX,zU,Nat.reduceEqDiff,reduceIte];exact rfl) ?_
   refine zE ?_;refine zD ?_;refine zE ?_
   by_cases h4:E=0
   ·subst h4;rw [if_pos rfl];refine zJ (fun K hK=>?_);simp (disch:=omega) only [push_cast,↓Int.cast_ofNat_Int,simprocAttr];(repeat refine ⟨by first|omega|decide|((repeat' apply And.intro) <;> first|omega|decide),?_⟩);refine hK _ ?_
    refine zA ?_;refine yC rfl ?_
    by_cases h5:4096 < T.size
    ·rw [if_pos h5];refine zE ?_;refine zJ (fun K hK=>?_);simp (disch:=omega) only [push_cast,↓Int.cast_ofNat_Int,simprocAttr];(repeat refine ⟨by first|omega|decide|((repeat' apply And.intro) <;> first|omega|decide),?_⟩);refine hK _ ?_
     refine zA ?_;refine eQ rfl (fun _=>?_) (fun hf=>by simp at hf <;> omega)
     refine zE ?_;refine zJ (fun K hK=>?_);simp (disch:=omega) only [push_cast,↓Int.cast_ofNat_Int,simprocAttr];refine hK _ ?_
     refine zA ?_;refine zW ?_;refine zL ?_;refine zK ?_;simp only [yA,yM,yH,yE,aA,aC,yK,yJ,zS,zM,Nat.reduceEqDiff,reduceIte,reduceCtorEq];exact gD rfl
    ·rw [if_neg h5];refine zE ?_;refine zJ (fun K hK=>?_);simp (disch:=omega) only [push_cast,↓Int.cast_ofNat_Int,simprocAttr];(repeat refine ⟨by first|omega|decide|((repeat' apply And.intro) <;> first|omega|decide),?_⟩);refine hK _ ?_
     refine zA ?_;refine eQ rfl (fun ht=>by simp at ht <;> omega) (fun _=>?_)
     refine zC ?_;refine zB ?_;refine zE ?_;refine zJ (fun K hK=>?_);simp (disch:=omega) only [push_cast,↓Int.cast_ofNat_Int,simprocAttr];refine hK _ ?_
     refine zA ?_;refine zW ?_;simp only [yA,yM,yH,yE,aA,aC,yK,yJ,zS,zM,Nat.reduceEqDiff,reduceIte,reduceCtorEq];exact gD rfl
   ·have d4:decide (E=0)=false:=decide_eq_false h4
    rw [if_neg h4];refine zJ (fun K hK=>?_);simp (disch:=omega) only [push_cast,↓Int.cast_ofNat_Int,simprocAttr,d4];(repeat refine ⟨by first|omega|decide|((repeat' apply And.intro) <;> first|omega|decide),?_⟩);refine hK _ ?_
    refine zA ?_;refine yD rfl ?_;refine zE ?_;refine zJ (fun K hK=>?_);simp (disch:=omega) only [push_cast,↓Int.cast_ofNat_Int,simprocAttr];refine hK _ ?_
    refine zA ?_;refine zW ?_;refine zL ?_;refine zK ?_;simp only [yA,yM,yH,yE,aA,aC,yK,yJ,zS,zM,Nat.reduceEqDiff,reduceIte,reduceCtorEq];exact gD rfl
  ·have d2:decide (ks=2)=false:=decide_eq_false h2
   have hmk:iX (2,dh) (ks,ds) T N E=({ data:=#[] },0,12):=by rw [iX,if_neg fun h=>h2 h.2]
   rw [hmk];refine zE ?_;refine zE ?_;refine zJ (fun K hK=>?_);simp (disch:=omega) only [push_cast,↓Int.cast_ofNat_Int,simprocAttr,d2];(repeat refine ⟨by first|omega|decide|((repeat' apply And.intro) <;> first|omega|decide),?_⟩);refine hK _ ?_
   refine zA ?_;refine yD rfl ?_;refine zE ?_;refine zJ (fun K hK=>?_);simp (disch:=omega) only [push_cast,↓Int.cast_ofNat_Int,simprocAttr];refine hK _ ?_
   refine zA ?_;refine zW ?_;refine zK ?_;simp only [yA,yM,yH,yE,aA,aC,yK,yJ,zS,zM,Nat.reduceEqDiff,reduceIte,reduceCtorEq];exact gD rfl
 ·have d1:decide (kh=2)=false:=decide_eq_false h1
  have hmk:iX (kh,dh) (ks,ds) T N E=({ data:=#[] },0,12):=by rw [iX,if_neg fun h=>h1 h.1]
  rw [hmk];refine zE ?_;refine zE ?_;refine zJ (fun K hK=>?_);simp (disch:=omega) only [push_cast,↓Int.cast_ofNat_Int,simprocAttr,d1];(repeat refine ⟨by first|omega|decide|((repeat' apply And.intro) <;> first|omega|decide),?_⟩);refine hK _ ?_
  refine zA ?_;refine yD rfl ?_;refine zE ?_;refine zJ (fun K hK=>?_);simp (disch:=omega) only [push_cast,↓Int.cast_ofNat_Int,simprocAttr];refine hK _ ?_
  refine zA ?_;refine zW ?_;refine zK ?_;simp only [yA,yM,yH,yE,aA,aC,yK,yJ,zS,zM,Nat.reduceEqDiff,reduceIte,reduceCtorEq];exact gD rfl
set_option maxHeartbeats 1000000 in
theorem qPy (a h s:Int × ByteArray) (T:ByteArray) (N E:Int)
  (cm:HFun Tryz.prog 32 [.v (.string (nV a)),.v (.string h.2),.v (.string s.2)] (fun r st=>r=.tup ([.string T,.int .i64 N,.int .i64 E].map .v))) :
  HFun Tryz.prog 17 [fE a,fE h,fE s] (fun r st=>r=.tup [fE (if okM (iX h s T N E)=true then (2,(iX h s T N E).1) else (0,{ data:=#[] })),.v (.bool (okM (iX h s T N E)))]∧st=[]):=by
 refine eF (N:=28) Tryz.func17 rfl Tryz.ntmps17 Tryz.results17 (by simp) ?_
 have c:=qUd a h s T N E cm
 obtain ⟨ka,da⟩:=a;obtain ⟨kh,dh⟩:=h;obtain ⟨ks,ds⟩:=s;generalize iX (kh,dh) (ks,ds) T N E=m at c ⊢;obtain ⟨t,n,e⟩:=m;dsimp only at c ⊢;refine zE ?_;refine zJ (fun K hK=>?_);simp (disch:=omega) only [push_cast,↓Int.cast_ofNat_Int,simprocAttr];refine hK _ ?_
 refine zE ?_;refine zJ (fun K hK=>?_);simp (disch:=omega) only [push_cast,↓Int.cast_ofNat_Int,simprocAttr]
 refine qJz zV2 c (.cons (aR (ka,da)) (.cons (aR (kh,dh)) (.cons (aR (ks,ds)) .nil))) ?_;with_reducible refine aB ?_;simp (disch:=omega) only [push_cast,↓Int.cast_ofNat_Int,simprocAttr]
 refine hK _ ?_
 by_cases h1:e=0
 ·subst h1
  by_cases h2:0 < n
  ·have d2:decide (0 < n)=true:=decide_eq_true h2
   have ho:okM (t,n,0)=false:=by simp [okM,h2]
   rw [ho];refine zE ?_;refine zE ?_;refine zJ (fun K hK=>?_);simp (disch:=omega) only [push_cast,↓Int.cast_ofNat_Int,simprocAttr,d2];(repeat refine ⟨by first|omega|decide|((repeat' apply And.intro) <;> first|omega|decide),?_⟩);refine hK _ ?_
   refine zA ?_;refine yD rfl ?_;refine zE ?_;refine zJ (fun K hK=>?_);simp (disch:=omega) only [push_cast,↓Int.cast_ofNat_Int,simprocAttr];(repeat refine ⟨by first|omega|decide|((repeat' apply And.intro) <;> first|omega|decide),?_⟩);refine hK _ ?_
   refine zA ?_;refine zW ?_;refine zK ?_;simp (disch:=omega) only [yA,yM,yH,yE,aA,aC,yK,yJ,push_cast,↓Int.cast_ofNat_Int,Nat.reduceBEq,Nat.reduceAdd,Nat.reduceLT,Nat.reduceEqDiff,reduceIte,reduceCtorEq,Nat.reduceLeDiff,Nat.reduceSub,List.reduceReplicate,Nat.reduceMul,Int.reduceToNat,Int.toNat_natCast,Nat.reducePow,reduceIte];exact qDv (n:=(0,{ data:=#[] })) ⟨rfl,rfl⟩
  ·have d2:decide (0 < n)=false:=decide_eq_false h2
   have ho:okM (t,n,0)=true:=by simp [okM];omega
   rw [ho];refine zE ?_;refine zE ?_;refine zJ (fun K hK=>?_);simp (disch:=omega) only [push_cast,↓Int.cast_ofNat_Int,simprocAttr,d2];(repeat refine ⟨by first|omega|decide|((repeat' apply And.intro) <;> first|omega|decide),?_⟩);refine hK _ ?_
   refine zA ?_;refine yC rfl ?_;refine zC ?_;refine zE ?_;refine zJ (fun K hK=>?_);simp (disch:=omega) only [push_cast,↓Int.cast_ofNat_Int,simprocAttr];(repeat refine ⟨by first|omega|decide|((repeat' apply And.intro) <;> first|omega|decide),?_⟩);refine hK _ ?_
   refine zA ?_;refine zW ?_;simp (disch:=omega) only [yA,yM,yH,yE,aA,aC,yK,yJ,push_cast,↓Int.cast_ofNat_Int,Nat.reduceBEq,Nat.reduceAdd,Nat.reduceLT,Nat.reduceEqDiff,reduceIte,reduceCtorEq,Nat.reduceLeDiff,Nat.reduceSub,List.reduceReplicate,Nat.reduceMul,Int.reduceToNat,Int.toNat_natCast,Nat.reducePow,reduceIte];exact qDv (n:=(2,t)) ⟨rfl,rfl⟩
 ·have d1:decide (e=0)=false:=decide_eq_false h1
  have ho:okM (t,n,e)=false:=by simp [okM,h1]
  rw [ho];refine zE ?_;refine zE ?_;refine zJ (fun K hK=>?_);simp (disch:=omega) only [push_cast,↓Int.cast_ofNat_Int,simprocAttr,d1];(repeat refine ⟨by first|omega|decide|((repeat' apply And.intro) <;> first|omega|decide),?_⟩);refine hK _ ?_
  refine zA ?_;refine yD rfl ?_;refine zE ?_;refine zJ (fun K hK=>?_);simp (disch:=omega) only [push_cast,↓Int.cast_ofNat_Int,simprocAttr];(repeat refine ⟨by first|omega|decide|((repeat' apply And.intro) <;> first|omega|decide),?_⟩);refine hK _ ?_
  refine zA ?_;refine zW ?_;refine zK ?_;simp (disch:=omega) only [yA,yM,yH,yE,aA,aC,yK,yJ,push_cast,↓Int.cast_ofNat_Int,Nat.reduceBEq,Nat.reduceAdd,Nat.reduceLT,Nat.reduceEqDiff,reduceIte,reduceCtorEq,Nat.reduceLeDiff,Nat.reduceSub,List.reduceReplicate,Nat.reduceMul,Int.reduceToNat,Int.toNat_natCast,Nat.reducePow,reduceIte];exact qDv (n:=(0,{ data:=#[] })) ⟨rfl,rfl⟩
end Go.Proofs.YtdfjeokjmigkaaaGreat
