/-
  The search in a tree: slices.BinarySearchFunc, tree.find, tree.Get.
-/
import Derived.Test.YtbdomkfdkfdfgaaGreatDoorTrD
import Derived.Test.YtbdomkfdkfdfgaaGreatDoorSrs
set_option linter.unusedSimpArgs false
set_option linter.unusedVariables false
set_option maxRecDepth 20000
namespace Go.Proofs.YtbdomkfdkfdfgaaGreatDoor
open Go Go.Eng Go.RowKit Go.Tr
set_option maxHeartbeats 4000000 in
theorem zGa (t:List Ent) (p:ByteArray) (hr:rise t) (hl:t.length≤140737488355328):HFun Tryz.prog 94 [.lst false (aL t),.v (.string p),.v (.func (.func 95) #[] #[])] (fun h st=>h=.tup [.v (.int .i64 (bG t p)),.v (.bool (eF t p))]):=by
 refine fJ (N:=49) Tryz.func94 rfl Tryz.ntmps94 Tryz.results94 (by simp) ?_
 obtain ⟨p1,p2⟩:=tU hr p
 have pl:=qVk t p
 refine zE ?_;refine zJ (fun K hK=>?_);simp (disch:=omega) only [push_cast,↓Int.cast_ofNat_Int,Nat.reduceBEq,Nat.reduceAdd,Nat.reduceLT,Nat.reduceEqDiff,reduceIte,reduceCtorEq,Nat.reduceLeDiff,Nat.reduceSub,List.reduceReplicate,Nat.reduceMul,Int.reduceToNat,Nat.reducePow];refine hK _ ?_;clear hK K
 refine zE ?_;refine zJ (fun K hK=>?_);simp (disch:=omega) only [push_cast,↓Int.cast_ofNat_Int,Nat.reduceBEq,Nat.reduceAdd,Nat.reduceLT,Nat.reduceEqDiff,reduceIte,reduceCtorEq,Nat.reduceLeDiff,Nat.reduceSub,List.reduceReplicate,Nat.reduceMul,Int.reduceToNat,Nat.reducePow,yV];refine hK _ ?_;clear hK K
 refine zE ?_;refine zJ (fun K hK=>?_);simp (disch:=omega) only [push_cast,↓Int.cast_ofNat_Int,Nat.reduceBEq,Nat.reduceAdd,Nat.reduceLT,Nat.reduceEqDiff,reduceIte,reduceCtorEq,Nat.reduceLeDiff,Nat.reduceSub,List.reduceReplicate,Nat.reduceMul,Int.reduceToNat,Nat.reducePow,yV];refine hK _ ?_;clear hK K
 refine zE ?_;refine zD ?_;refine cH (fun x:Nat × Nat=>⟨[(0,.lst false (aL t)),(1,.v (.string p)),(2,.v (.func (.func 95) #[] #[])),(8,.v (.int .i64 t.length)),(9,.v (.int .i64 x.1)),(10,.v (.int .i64 x.2))],[]⟩)
  (fun x=>x.1≤bG t p∧bG t p≤x.2∧x.2≤t.length) (fun x=>x.2 - x.1) [0,1,2,8,9,10] [] (0,t.length) rfl ⟨Nat.zero_le _,pl,Nat.le_refl _⟩ ?_
 rintro ⟨i,j⟩ ⟨h1,h2,h3⟩;simp only at h1 h2 h3
 by_cases hlt:i < j
 ·refine zE ?_;refine zE ?_;refine zJ (fun K hK=>?_);simp (disch:=omega) only [push_cast,↓Int.cast_ofNat_Int,Nat.reduceBEq,Nat.reduceAdd,Nat.reduceLT,Nat.reduceEqDiff,reduceIte,reduceCtorEq,Nat.reduceLeDiff,Nat.reduceSub,List.reduceReplicate,Nat.reduceMul,Int.reduceToNat,Nat.reducePow];refine hK _ ?_;clear hK K
  refine zA ?_;refine yD rfl ?_;refine zC ?_;refine zA ?_;obtain ⟨m,hm⟩:∃ m,m=(i + j) / 2:=⟨_,rfl⟩
  have he:IntKind.i64.wrap ((IntKind.u64.wrap ((i:Int) + j)).fdiv (2 ^ min 1 IntKind.u64.bits))=(m:Int):=by
   have hw:IntKind.u64.wrap ((i:Int) + j)=(i:Int) + j:=by rw [IntKind.wrap_u64];omega
   rw [hw,show (2 ^ min 1 IntKind.u64.bits:Int)=2 from rfl,Int.fdiv_eq_ediv_of_nonneg _ (by omega)]
   rw [show ((i:Int) + j) / 2=(m:Int) by omega]
   exact zQr (by omega) (by omega)
  have hmt:m < t.length:=by omega
  refine zD ?_;refine zE ?_;refine zJ (fun K hK=>?_);simp (disch:=omega) only [push_cast,↓Int.cast_ofNat_Int,Nat.reduceBEq,Nat.reduceAdd,Nat.reduceLT,Nat.reduceEqDiff,reduceIte,reduceCtorEq,Nat.reduceLeDiff,Nat.reduceSub,List.reduceReplicate,Nat.reduceMul,Int.reduceToNat,Nat.reducePow]
  rw [he];refine ⟨by omega,hK _ ?_⟩
  clear hK K he;refine zE ?_;refine zJ (fun K hK=>?_);simp (disch:=omega) only [push_cast,↓Int.cast_ofNat_Int,Nat.reduceBEq,Nat.reduceAdd,Nat.reduceLT,Nat.reduceEqDiff,reduceIte,reduceCtorEq,Nat.reduceLeDiff,Nat.reduceSub,List.reduceReplicate,Nat.reduceMul,Int.reduceToNat,Nat.reducePow,yV,yU,yW hmt]
  refine cP zRl (qN0 t[m] p) (.cons (qK4 _) (.cons (.v _) .nil)) ?_
  have hb:=qDs t[m].1 p
  cases hc:blt t[m].1 p with
 |true =>
   rw [hc,decide_eq_true_iff] at hb
   have:m < bG t p:=by
    rcases Nat.lt_or_ge m (bG t p) with h|h
    ·exact h
    ·rw [p2 m hmt h] at hc;cases hc
   with_reducible refine aC ?_;simp (disch:=omega) only [push_cast,↓Int.cast_ofNat_Int,Nat.reduceBEq,Nat.reduceAdd,Nat.reduceLT,Nat.reduceEqDiff,reduceIte,reduceCtorEq,Nat.reduceLeDiff,Nat.reduceSub,List.reduceReplicate,Nat.reduceMul,Int.reduceToNat,Nat.reducePow]
   refine hK _ ?_;clear hK K;refine zA ?_;refine yD rfl ?_
   skip
   refine zJ (fun K hK=>?_);simp (disch:=omega) only [push_cast,↓Int.cast_ofNat_Int,Nat.reduceBEq,Nat.reduceAdd,Nat.reduceLT,Nat.reduceEqDiff,reduceIte,reduceCtorEq,Nat.reduceLeDiff,Nat.reduceSub,List.reduceReplicate,Nat.reduceMul,Int.reduceToNat,Nat.reducePow];refine hK _ ?_;clear hK K
   refine zB ?_;refine zA ?_;exact ⟨(m + 1,j),rfl,⟨by dsimp only;omega,h2,h3⟩,by dsimp only;omega⟩
 |false =>
   rw [hc,decide_eq_false_iff_not] at hb
   have:bG t p≤m:=by
    rcases Nat.lt_or_ge m (bG t p) with h|h
    ·rw [p1 m hmt h] at hc;cases hc
    ·exact h
   with_reducible refine aC ?_;simp (disch:=omega) only [push_cast,↓Int.cast_ofNat_Int,Nat.reduceBEq,Nat.reduceAdd,Nat.reduceLT,Nat.reduceEqDiff,reduceIte,reduceCtorEq,Nat.reduceLeDiff,Nat.reduceSub,List.reduceReplicate,Nat.reduceMul,Int.reduceToNat,Nat.reducePow]
   refine hK _ ?_;clear hK K;refine zA ?_;refine yC rfl ?_
   skip
   refine zJ (fun K hK=>?_);simp (disch:=omega) only [push_cast,↓Int.cast_ofNat_Int,Nat.reduceBEq,Nat.reduceAdd,Nat.reduceLT,Nat.reduceEqDiff,reduceIte,reduceCtorEq,Nat.reduceLeDiff,Nat.reduceSub,List.reduceReplicate,Nat.reduceMul,Int.reduceToNat,Nat.reducePow];refine hK _ ?_;clear hK K
   refine zB ?_;refine zA ?_;exact ⟨(i,m),rfl,⟨h1,this,by dsimp only;omega⟩,by dsimp only;omega⟩
 ·have hij:i=bG t p∧j=bG t p:=by omega
  obtain ⟨rfl,rfl⟩:=hij;refine zE ?_;refine zE ?_;refine zJ (fun K hK=>?_);simp (disch:=omega) only [push_cast,↓Int.cast_ofNat_Int,Nat.reduceBEq,Nat.reduceAdd,Nat.reduceLT,Nat.reduceEqDiff,reduceIte,reduceCtorEq,Nat.reduceLeDiff,Nat.reduceSub,List.reduceReplicate,Nat.reduceMul,Int.reduceToNat,Nat.reducePow];refine hK _ ?_;clear hK K
  refine zA ?_;refine yC rfl ?_;refine zT ?_;refine zG ?_;refine zG ?_;refine zH ?_;refine zE ?_
  have th:=iA hr p
  by_cases hp:bG t p < t.length
  ·have hb:=zNe t[bG t p].1 p
   by_cases hc:t[bG t p].1=p
   ·rw [decide_eq_true hc,decide_eq_true_iff] at hb;rw [decide_eq_true ⟨hp,hc⟩] at th;rw [th];refine zJ (fun K hK=>?_);simp (disch:=omega) only [push_cast,↓Int.cast_ofNat_Int,Nat.reduceBEq,Nat.reduceAdd,Nat.reduceLT,Nat.reduceEqDiff,reduceIte,reduceCtorEq,Nat.reduceLeDiff,Nat.reduceSub,List.reduceReplicate,Nat.reduceMul,Int.reduceToNat,Nat.reducePow,yV,yU,yW hp]
    refine cP zRl (qN0 t[bG t p] p) (.cons (qK4 _) (.cons (.v _) .nil)) ?_;with_reducible refine aC ?_;simp (disch:=omega) only [push_cast,↓Int.cast_ofNat_Int,Nat.reduceBEq,Nat.reduceAdd,Nat.reduceLT,Nat.reduceEqDiff,reduceIte,reduceCtorEq,Nat.reduceLeDiff,Nat.reduceSub,List.reduceReplicate,Nat.reduceMul,Int.reduceToNat,Nat.reducePow]
    refine hK _ ?_;clear hK K;refine zA ?_;refine zW ?_;simp only [yA,yM,yH,yE,aA,aD,yK,yJ,zS,zM,Nat.reduceEqDiff,reduceIte,reduceCtorEq];exact qHq rfl
   ·rw [decide_eq_false hc,decide_eq_false_iff_not] at hb;rw [decide_eq_false (fun ⟨_,h⟩=>hc h)] at th
    rw [th];refine zJ (fun K hK=>?_);simp (disch:=omega) only [push_cast,↓Int.cast_ofNat_Int,Nat.reduceBEq,Nat.reduceAdd,Nat.reduceLT,Nat.reduceEqDiff,reduceIte,reduceCtorEq,Nat.reduceLeDiff,Nat.reduceSub,List.reduceReplicate,Nat.reduceMul,Int.reduceToNat,Nat.reducePow,yV,yU,yW hp]
    refine cP zRl (qN0 t[bG t p] p) (.cons (qK4 _) (.cons (.v _) .nil)) ?_;with_reducible refine aC ?_;simp (disch:=omega) only [push_cast,↓Int.cast_ofNat_Int,Nat.reduceBEq,Nat.reduceAdd,Nat.reduceLT,Nat.reduceEqDiff,reduceIte,reduceCtorEq,Nat.reduceLeDiff,Nat.reduceSub,List.reduceReplicate,Nat.reduceMul,Int.reduceToNat,Nat.reducePow]
    refine hK _ ?_;clear hK K;refine zA ?_;refine zW ?_;simp only [yA,yM,yH,yE,aA,aD,yK,yJ,zS,zM,Nat.reduceEqDiff,reduceIte,reduceCtorEq];exact qHq rfl
  ·rw [decide_eq_false (fun ⟨h,_⟩=>hp h)] at th
   rw [th];refine zJ (fun K hK=>?_);simp (disch:=omega) only [push_cast,↓Int.cast_ofNat_Int,Nat.reduceBEq,Nat.reduceAdd,Nat.reduceLT,Nat.reduceEqDiff,reduceIte,reduceCtorEq,Nat.reduceLeDiff,Nat.reduceSub,List.reduceReplicate,Nat.reduceMul,Int.reduceToNat,Nat.reducePow];refine hK _ ?_;clear hK K
   refine zA ?_;refine zW ?_;simp only [yA,yM,yH,yE,aA,aD,yK,yJ,zS,zM,Nat.reduceEqDiff,reduceIte,reduceCtorEq];exact qHq rfl
set_option maxHeartbeats 1000000 in
theorem zRh (t:List Ent) (p:ByteArray) (hr:rise t) (hl:t.length≤140737488355328):HFun Tryz.prog 65 [.lst false (aL t),.v (.string p)] (fun h st=>h=.tup [.v (.int .i64 (bG t p)),.v (.bool (eF t p))]):=by
 refine fJ (N:=11) Tryz.func65 rfl Tryz.ntmps65 Tryz.results65 (by simp) ?_
 refine zE ?_;refine zJ (fun K hK=>?_);simp (disch:=omega) only [push_cast,↓Int.cast_ofNat_Int,Nat.reduceBEq,Nat.reduceAdd,Nat.reduceLT,Nat.reduceEqDiff,reduceIte,reduceCtorEq,Nat.reduceLeDiff,Nat.reduceSub,List.reduceReplicate,Nat.reduceMul,Int.reduceToNat,Nat.reducePow];refine hK _ ?_;clear hK K
 refine zE ?_;refine zJ (fun K hK=>?_);simp (disch:=omega) only [push_cast,↓Int.cast_ofNat_Int,Nat.reduceBEq,Nat.reduceAdd,Nat.reduceLT,Nat.reduceEqDiff,reduceIte,reduceCtorEq,Nat.reduceLeDiff,Nat.reduceSub,List.reduceReplicate,Nat.reduceMul,Int.reduceToNat,Nat.reducePow]
 refine zM1 (xs:=[.int .i64 (bG t p),.bool (eF t p)]) zU4 (zGa t p hr hl) (.cons (aT (yT _)) (.cons (.v _) (.cons (.v _) .nil))) ?_;with_reducible refine aC ?_;simp (disch:=omega) only [push_cast,↓Int.cast_ofNat_Int,Nat.reduceBEq,Nat.reduceAdd,Nat.reduceLT,Nat.reduceEqDiff,reduceIte,reduceCtorEq,Nat.reduceLeDiff,Nat.reduceSub,List.reduceReplicate,Nat.reduceMul,Int.reduceToNat,Nat.reducePow]
 refine hK _ ?_;clear hK K;refine zA ?_;refine zW ?_;simp only [yA,yM,yH,yE,aA,aD,yK,yJ,zS,zM,Nat.reduceEqDiff,reduceIte,reduceCtorEq];exact qHq rfl
set_option maxHeartbeats 1000000 in
theorem oQ (t:List Ent) (p:ByteArray) (hr:rise t) (hl:t.length≤140737488355328):HFun Tryz.prog 43 [.lst false (aL t),.v (.string p)] (fun h st=>h=mA (aF t p)∧st=[]):=by
 refine fJ (N:=20) Tryz.func43 rfl Tryz.ntmps43 Tryz.results43 (by simp) ?_
 rw [zAb hr p];refine zE ?_;refine zJ (fun K hK=>?_);simp (disch:=omega) only [push_cast,↓Int.cast_ofNat_Int,Nat.reduceBEq,Nat.reduceAdd,Nat.reduceLT,Nat.reduceEqDiff,reduceIte,reduceCtorEq,Nat.reduceLeDiff,Nat.reduceSub,List.reduceReplicate,Nat.reduceMul,Int.reduceToNat,Nat.reducePow];refine hK _ ?_;clear hK K
 refine zE ?_;refine zE ?_;refine zJ (fun K hK=>?_);simp (disch:=omega) only [push_cast,↓Int.cast_ofNat_Int,Nat.reduceBEq,Nat.reduceAdd,Nat.reduceLT,Nat.reduceEqDiff,reduceIte,reduceCtorEq,Nat.reduceLeDiff,Nat.reduceSub,List.reduceReplicate,Nat.reduceMul,Int.reduceToNat,Nat.reducePow]
 refine zM1 (xs:=[.int .i64 (bG t p),.bool (eF t p)]) zVd (zRh t p hr hl) (.cons (aT (yT _)) (.cons (.v _) .nil)) ?_;with_reducible refine aC ?_;simp (disch:=omega) only [push_cast,↓Int.cast_ofNat_Int,Nat.reduceBEq,Nat.reduceAdd,Nat.reduceLT,Nat.reduceEqDiff,reduceIte,reduceCtorEq,Nat.reduceLeDiff,Nat.reduceSub,List.reduceReplicate,Nat.reduceMul,Int.reduceToNat,Nat.reducePow]
 refine hK _ ?_;clear hK K;refine zE ?_;refine zJ (fun K hK=>?_);simp (disch:=omega) only [push_cast,↓Int.cast_ofNat_Int,Nat.reduceBEq,Nat.reduceAdd,Nat.reduceLT,Nat.reduceEqDiff,reduceIte,reduceCtorEq,Nat.reduceLeDiff,Nat.reduceSub,List.reduceReplicate,Nat.reduceMul,Int.reduceToNat,Nat.reducePow];refine hK _ ?_;clear hK K
 have tp:=iA hr p
 by_cases h:bG t p < t.length∧eF t p=true
 ·rw [dif_pos h]
  have hlt:=h.1
  have ht:=h.2
  refine xR rfl (fun _=>?_) (fun e=>by rw [ht] at e;cases e)
  refine zE ?_;refine zJ (fun K hK=>?_);simp (disch:=omega) only [push_cast,↓Int.cast_ofNat_Int,Nat.reduceBEq,Nat.reduceAdd,Nat.reduceLT,Nat.reduceEqDiff,reduceIte,reduceCtorEq,Nat.reduceLeDiff,Nat.reduceSub,List.reduceReplicate,Nat.reduceMul,Int.reduceToNat,Nat.reducePow,yV,yU,yW hlt];refine hK _ ?_;clear hK K
  refine zA ?_;refine zW ?_;refine zK ?_;simp (disch:=omega) only [yA,yM,yH,yE,aA,aD,yK,yJ,push_cast,↓Int.cast_ofNat_Int,Nat.reduceBEq,Nat.reduceAdd,Nat.reduceLT,Nat.reduceEqDiff,reduceIte,reduceCtorEq,Nat.reduceLeDiff,Nat.reduceSub,List.reduceReplicate,Nat.reduceMul,Int.reduceToNat,Int.toNat_natCast,Nat.reducePow,reduceIte];exact xB (n:=t[bG t p].2) ⟨rfl,rfl⟩
 ·rw [dif_neg h]
  have ht:eF t p=false:=by
   cases e:eF t p with
  |false=>rfl
  |true =>
    have tp:=iA hr p
    rw [e] at tp;exact (h ⟨(decide_eq_true_iff.1 tp.symm).1,e⟩).elim
  refine xR rfl (fun e=>by rw [ht] at e;cases e) (fun _=>?_)
  refine zC ?_;refine zE ?_;refine zJ (fun K hK=>?_);simp (disch:=omega) only [push_cast,↓Int.cast_ofNat_Int,Nat.reduceBEq,Nat.reduceAdd,Nat.reduceLT,Nat.reduceEqDiff,reduceIte,reduceCtorEq,Nat.reduceLeDiff,Nat.reduceSub,List.reduceReplicate,Nat.reduceMul,Int.reduceToNat,Nat.reducePow];refine hK _ ?_;clear hK K
  refine zA ?_;refine zW ?_;simp (disch:=omega) only [yA,yM,yH,yE,aA,aD,yK,yJ,push_cast,↓Int.cast_ofNat_Int,Nat.reduceBEq,Nat.reduceAdd,Nat.reduceLT,Nat.reduceEqDiff,reduceIte,reduceCtorEq,Nat.reduceLeDiff,Nat.reduceSub,List.reduceReplicate,Nat.reduceMul,Int.reduceToNat,Int.toNat_natCast,Nat.reducePow,reduceIte];exact xB (n:=kD) ⟨rfl,rfl⟩
end Go.Proofs.YtbdomkfdkfdfgaaGreatDoor
