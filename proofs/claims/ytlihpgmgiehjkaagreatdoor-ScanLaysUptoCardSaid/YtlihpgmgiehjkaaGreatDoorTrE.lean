/-
  The search in a tree: slices.BinarySearchFunc, tree.find, tree.Get.
-/
import Derived.Test.YtlihpgmgiehjkaaGreatDoorSwD
import Derived.Test.YtlihpgmgiehjkaaGreatDoorUpt
import Derived.Test.YtlihpgmgiehjkaaGreatDoorTnA
import Derived.Test.YtlihpgmgiehjkaaGreatDoorUpe
import Derived.Test.YtlihpgmgiehjkaaGreatDoorRcc
set_option linter.unusedSimpArgs false
set_option linter.unusedVariables false
section
set_option maxRecDepth 20000
namespace Go.Eng
open Go Go.RowKit Go.Maps
section
variable {P:Program}
theorem zGb (w:World) (A:Nat→Prop) (n:Nat) (ρ:Nat→Value):RepH w A n ρ (.slice none 0 0) (.lst false []) :=
 .lst (.lst 0 (fun _ _=>.bool false) rfl (Nat.le_refl _) (Nat.zero_le _) (fun _=>rfl) (by simp) (fun h=>absurd h (Nat.lt_irrefl _)) (fun i k hi=>absurd hi (Nat.not_lt_zero _)) (fun i k hi=>absurd hi (by simp)))
theorem qSj {f:FuncId} {args args':List HV} {st:aF} {g:MS} {R:HV→aF→MS→Prop} (hlen:args'.length=args.length) (harg:∀ i (a:i < args.length) (b:i < args'.length),(args[i]=.v (.slice none 0 0)∧args'[i]=.lst false [])∨args'[i]=args[i])
  (H:HFunM P f args' st g R):HFunM P f args st g R:=fun c w ρ xs vs hw G M hr=>H c w ρ xs vs hw G M ⟨by rw [hlen];exact hr.1,fun i h1 h2=>by
   have h3:i < args.length:=by rw [← hlen];exact h2
   have hv:=hr.2 i h1 h3
   rcases harg i h3 h2 with ⟨e1,e2⟩|e
   ·rw [e1] at hv
    have hv:=bD hv
    rw [e2,hv];exact zGb _ _ _ _
   ·rw [e];exact hv⟩
end
end Go.Eng
namespace Go.Proofs.YtlihpgmgiehjkaaGreatDoor
open Go Go.Eng Go.RowKit Go.Maps Go.Tr Go.Dk Go.Sw
theorem zDr (d:Dk) (B:Int) (hd:d.Ok B) (hB:B≤1099511627776) (hl:d.L.length≤4194304) (hst:∀ e ∈ d.L,0≤e.2.stamp∧e.2.stamp≤1099511627776) (v:ByteArray) (hv:v.size≤1048576) (hvis:pOk v 1=true→(vis d 1048577 v).length≤1099511627776) (r1 r2:Nat) :
  HFunM Tryz.prog 11 [.ptr 0 6 0 0,.v (.string v),.v (.slice none 0 0)] [(0,.bx false 64 (d.cells r1 r2))] (d.maps kS r1 r2)
   (fun h st g=>g=d.maps kS r1 r2∧if gP d v=0 then h=.tup [.own 1,.own 2,.v (.int .i64 (kM d v []).reads),.v (.int .i64 0)]∧st=[(0,.bx false 64 (d.cells r1 r2)),(1,.sl true 54 3 (bR (kM d v []).F)),(2,.sl true 83 4 (kL (qEq (kM d v []))))]
    else h=.tup [.v (.slice none 0 0),.v (.slice none 0 0),.v (.int .i64 0),.v (.int .i64 (gP d v))]∧st=[(0,.bx false 64 (d.cells r1 r2))]):=by
 have h0:=zF4 d B hd hB hl hst v hv [] false (fun x hx=>by simp at hx) (by decide) hvis r1 r2
 rw [show kL []=[] from rfl] at h0
 refine qSj (args':=[.ptr 0 6 0 0,.v (.string v),.lst false []]) rfl (fun i a b=>?_) h0
 match i,a with
|0,_=>exact .inr rfl
|1,_=>exact .inr rfl
|2,_=>exact .inl ⟨rfl,rfl⟩
set_option maxHeartbeats 1000000 in
theorem zPz (d:Dk) (B:Int) (hd:d.Ok B) (hB:B≤1099511627776) (hl:d.L.length≤4194304) (hst:∀ e ∈ d.L,0≤e.2.stamp∧e.2.stamp≤1099511627776) (v:ByteArray) (hv:v.size≤1048576) (hvis:pOk v 1=true→(vis d 1048577 v).length≤1099511627776) (r1 r2:Nat) :
  HFunM Tryz.prog 9 [.ptr 0 6 0 0,.v (.string v)] [(0,.bx false 64 (d.cells r1 r2))] (d.maps kS r1 r2)
   (fun h st g=>g=d.maps kS r1 r2∧if gP d v=0 then h=.tup [.own 1,.v (.int .i64 0)]∧st=[(0,.bx false 64 (d.cells r1 r2)),(1,.sl true 54 3 (bR (kM d v []).F))]
    else h=.tup [.v (.slice none 0 0),.v (.int .i64 (gP d v))]∧st=[(0,.bx false 64 (d.cells r1 r2))]):=by
 refine kC (N:=20) Tryz.func9 rfl Tryz.ntmps9 Tryz.results9 (by simp) ?_
 have hs:=zDr d B hd hB hl hst v hv hvis r1 r2
 simp only [bM,cJ] at hs ⊢;refine aA ?_;refine aC (fun K hK=>?_);simp (disch:=omega) only [push_cast,↓iC9,simprocAttr];refine hK _ ?_;clear hK K
 by_cases h0:gP d v=0
 ·simp only [h0,if_true] at hs ⊢;refine aA ?_;refine aX ?_;refine aG 2 (fun K1 hK1=>?_);simp (disch:=omega) only [push_cast,↓iC9,simprocAttr];refine hK1 _ ?_;(try clear hK1 K1)
  refine bN 104 [0] zNn (hs) rfl rfl rfl rfl (by simp only [push_cast,simprocAttr];exact rfl) (by decide) (by decide) (by decide) (by simp only [push_cast,simprocAttr];try rfl) (by simp only [push_cast,simprocAttr];try rfl) ?_
  rintro _ _ _ ⟨rfl,rfl,rfl⟩;refine aG 9 (fun K1 hK1=>?_);simp (disch:=omega) only [push_cast,↓iC9,simprocAttr,aE,aD];refine hK1 _ ?_;(try clear hK1 K1)
  refine aR ?_;refine aA ?_;refine aC (fun K hK=>?_);simp (disch:=omega) only [push_cast,↓iC9,simprocAttr];refine hK _ ?_;clear hK K
  refine aB ?_;refine bB ?_;simp only [aJ,aP,yH,yE,yK,yJ,aS,zS,zM,Nat.reduceEqDiff,reduceIte,reduceCtorEq];refine cE [0,105] [] (by first|rfl|simp [bsL,MO.bs]) (by decide) (by decide) (by simp only [push_cast,simprocAttr]) (by simp only [push_cast,simprocAttr]) (by simp only [push_cast,simprocAttr];rfl) (by simp only [push_cast,simprocAttr];rfl) ?_
  exact ⟨rfl,rfl,rfl⟩
 ·simp only [h0,if_false] at hs ⊢;refine aA ?_;refine aX ?_;refine aG 2 (fun K1 hK1=>?_);simp (disch:=omega) only [push_cast,↓iC9,simprocAttr];refine hK1 _ ?_;(try clear hK1 K1)
  refine bN 104 [0] zNn (hs) rfl rfl rfl rfl (by simp only [push_cast,simprocAttr];exact rfl) (by decide) (by decide) (by decide) (by simp only [push_cast,simprocAttr];try rfl) (by simp only [push_cast,simprocAttr];try rfl) ?_
  rintro _ _ _ ⟨rfl,rfl,rfl⟩;refine aG 9 (fun K1 hK1=>?_);simp (disch:=omega) only [push_cast,↓iC9,simprocAttr,aE,aD];refine hK1 _ ?_;(try clear hK1 K1)
  refine aR ?_;refine aA ?_;refine aC (fun K hK=>?_);simp (disch:=omega) only [push_cast,↓iC9,simprocAttr];refine hK _ ?_;clear hK K
  refine aB ?_;refine bB ?_;simp only [aJ,aP,yH,yE,yK,yJ,aS,zS,zM,Nat.reduceEqDiff,reduceIte,reduceCtorEq];refine cE [0] [] (by first|rfl|simp [bsL,MO.bs]) (by decide) (by decide) (by simp only [push_cast,simprocAttr]) (by simp only [push_cast,simprocAttr]) (by simp only [push_cast,simprocAttr];rfl) (by simp only [push_cast,simprocAttr];rfl) ?_
  exact ⟨rfl,rfl,rfl⟩
end Go.Proofs.YtlihpgmgiehjkaaGreatDoor
end
section
namespace Go.Eng
open Go Go.RowKit
section
variable {P:Program} {N:Nat} {x:Code} {Q:eN} {c:Ctx} {S S':HS} {look:Nat→Option Value} {w:World}
theorem pU {id:Nat} {ops:List Oper} (n:Nat) (hm:P.follows .mixedOrders=true) (hok:uV (bF S.env) ops n=true)
  (h:∀ K:HS→Prop,(∀ S',Q .normal S'→K S')→∀ K1:HS→Prop,(∀ S',mM (HV2 P N (cD ops) K (ops.drop n)) S'→K1 S')→HVr P N (cD ops) K1 (ops.take n) S):HW P N (.region id ops.toArray true) Q S :=
 zNx n hm hok fun K hK=>h K hK _ fun _ h=>h
end
end Go.Eng
end
section
set_option maxRecDepth 20000
namespace Go.Sw
open Go Go.Tr Go.Eng Go.Dk Go.Proofs.YtlihpgmgiehjkaaGreatDoor
theorem zPg:okN true=0:=rfl
theorem zPh:okN false=10:=rfl
def zSg (L:LI) (v:ByteArray):List (ByteArray × Nd):=(L.filter (inV v)).map fun e=>(cC v e.1,gZ e.2)
theorem zGg (L:LI) (v:ByteArray):(zSg L v).length≤L.length:=by
 unfold zSg;rw [List.length_map];exact List.length_filter_le ..
end Go.Sw
namespace Go.Proofs.YtlihpgmgiehjkaaGreatDoor
open Go Go.Eng Go.RowKit Go.Maps Go.Tr Go.Dk Go.Sw
end Go.Proofs.YtlihpgmgiehjkaaGreatDoor
end
section
set_option maxRecDepth 20000
namespace Go.Sw
open Go Go.Tr Go.Eng Go.Dk Go.Proofs.YtlihpgmgiehjkaaGreatDoor
def jF (d:Dk) (v:ByteArray) (e:ByteArray × Nd):Sn:=(e.1,bS d (v ++ stroke ++ e.1),e.2)
def jE (d:Dk) (v:ByteArray):List Sn:=(pX d v).map (jF d v)
theorem zDq (d:Dk) (v:ByteArray):(jE d v).length=(pX d v).length:=by simp [jE]
theorem zGh (d:Dk) (v:ByteArray):(pX d v).length≤d.L.length:=zGg d.L v
def kn1 (e x:Sn):Bool:=decide (x.1=e.1) && decide (x.2.1=e.2.1) && decide (x.2.2.1=2)
def knB (e:Sn) (l:List Sn):Bool:=decide (e.2.2.1=1) || l.any (kn1 e)
def zC5 (S l:List Sn):Nat:=S.countP fun e=>!knB e l
end Go.Sw
namespace Go.Proofs.YtlihpgmgiehjkaaGreatDoor
open Go Go.Eng Go.RowKit Go.Maps Go.Tr Go.Dk Go.Sw
end Go.Proofs.YtlihpgmgiehjkaaGreatDoor
end
section
set_option maxRecDepth 20000
namespace Go.Proofs.YtlihpgmgiehjkaaGreatDoor
open Go Go.Eng Go.RowKit Go.Tr
set_option maxHeartbeats 4000000 in
theorem zE7 (t:List Ent) (p:ByteArray) (hr:rise t) (hl:t.length≤140737488355328):HFun Tryz.prog 100 [.lst false (bR t),.v (.string p),.v (.func (.func 101) #[] #[])] (fun h st=>h=.tup [.v (.int .i64 (cL t p)),.v (.bool (gX t p))]):=by
 refine jP (N:=49) Tryz.func100 rfl Tryz.ntmps100 Tryz.results100 (by simp) ?_
 obtain ⟨p1,p2⟩:=qA9 hr p
 have pl:=zG8 t p
 refine zE ?_;refine zJ (fun K hK=>?_);simp (disch:=omega) only [push_cast,↓iC9,Nat.reduceBEq,Nat.reduceAdd,Nat.reduceLT,Nat.reduceEqDiff,reduceIte,reduceCtorEq,Nat.reduceLeDiff,Nat.reduceSub,List.reduceReplicate,Nat.reduceMul,Int.reduceToNat,Nat.reducePow];refine hK _ ?_;clear hK K
 refine zE ?_;refine zJ (fun K hK=>?_);simp (disch:=omega) only [push_cast,↓iC9,Nat.reduceBEq,Nat.reduceAdd,Nat.reduceLT,Nat.reduceEqDiff,reduceIte,reduceCtorEq,Nat.reduceLeDiff,Nat.reduceSub,List.reduceReplicate,Nat.reduceMul,Int.reduceToNat,Nat.reducePow,yV];refine hK _ ?_;clear hK K
 refine zE ?_;refine zJ (fun K hK=>?_);simp (disch:=omega) only [push_cast,↓iC9,Nat.reduceBEq,Nat.reduceAdd,Nat.reduceLT,Nat.reduceEqDiff,reduceIte,reduceCtorEq,Nat.reduceLeDiff,Nat.reduceSub,List.reduceReplicate,Nat.reduceMul,Int.reduceToNat,Nat.reducePow,yV];refine hK _ ?_;clear hK K
 refine zE ?_;refine zD ?_;refine iN (fun x:Nat × Nat=>⟨[(0,.lst false (bR t)),(1,.v (.string p)),(2,.v (.func (.func 101) #[] #[])),(8,.v (.int .i64 t.length)),(9,.v (.int .i64 x.1)),(10,.v (.int .i64 x.2))],[]⟩)
  (fun x=>x.1≤cL t p∧cL t p≤x.2∧x.2≤t.length) (fun x=>x.2 - x.1) [0,1,2,8,9,10] [] (0,t.length) rfl ⟨Nat.zero_le _,pl,Nat.le_refl _⟩ ?_
 rintro ⟨i,j⟩ ⟨h1,h2,h3⟩;simp only at h1 h2 h3
 by_cases hlt:i < j
 ·refine zE ?_;refine zE ?_;refine zJ (fun K hK=>?_);simp (disch:=omega) only [push_cast,↓iC9,Nat.reduceBEq,Nat.reduceAdd,Nat.reduceLT,Nat.reduceEqDiff,reduceIte,reduceCtorEq,Nat.reduceLeDiff,Nat.reduceSub,List.reduceReplicate,Nat.reduceMul,Int.reduceToNat,Nat.reducePow];refine hK _ ?_;clear hK K
  refine zA ?_;refine yD rfl ?_;refine zC ?_;refine zA ?_;obtain ⟨m,hm⟩:∃ m,m=(i + j) / 2:=⟨_,rfl⟩
  have he:IntKind.i64.wrap ((IntKind.u64.wrap ((i:Int) + j)).fdiv (2 ^ min 1 IntKind.u64.bits))=(m:Int):=by
   have hw:IntKind.u64.wrap ((i:Int) + j)=(i:Int) + j:=by rw [IntKind.wrap_u64];omega
   rw [hw,show (2 ^ min 1 IntKind.u64.bits:Int)=2 from rfl,Int.fdiv_eq_ediv_of_nonneg _ (by omega)]
   rw [show ((i:Int) + j) / 2=(m:Int) by omega]
   exact zL1 (by omega) (by omega)
  have hmt:m < t.length:=by omega
  refine zD ?_;refine zE ?_;refine zJ (fun K hK=>?_);simp (disch:=omega) only [push_cast,↓iC9,Nat.reduceBEq,Nat.reduceAdd,Nat.reduceLT,Nat.reduceEqDiff,reduceIte,reduceCtorEq,Nat.reduceLeDiff,Nat.reduceSub,List.reduceReplicate,Nat.reduceMul,Int.reduceToNat,Nat.reducePow]
  rw [he];refine ⟨by omega,hK _ ?_⟩
  clear hK K he;refine zE ?_;refine zJ (fun K hK=>?_);simp (disch:=omega) only [push_cast,↓iC9,Nat.reduceBEq,Nat.reduceAdd,Nat.reduceLT,Nat.reduceEqDiff,reduceIte,reduceCtorEq,Nat.reduceLeDiff,Nat.reduceSub,List.reduceReplicate,Nat.reduceMul,Int.reduceToNat,Nat.reducePow,yV,yU,yW hmt]
  refine dJ zLi (qNk t[m] p) (.cons (qKr _) (.cons (.v _) .nil)) ?_
  have hb:=zNp t[m].1 p
  cases hc:blt t[m].1 p with
 |true =>
   rw [hc,decide_eq_true_iff] at hb
   have:m < cL t p:=by
    rcases Nat.lt_or_ge m (cL t p) with h|h
    ·exact h
    ·rw [p2 m hmt h] at hc;cases hc
   with_reducible refine aU ?_;simp (disch:=omega) only [push_cast,↓iC9,Nat.reduceBEq,Nat.reduceAdd,Nat.reduceLT,Nat.reduceEqDiff,reduceIte,reduceCtorEq,Nat.reduceLeDiff,Nat.reduceSub,List.reduceReplicate,Nat.reduceMul,Int.reduceToNat,Nat.reducePow]
   refine hK _ ?_;clear hK K;refine zA ?_;refine yD rfl ?_
   skip
   refine zJ (fun K hK=>?_);simp (disch:=omega) only [push_cast,↓iC9,Nat.reduceBEq,Nat.reduceAdd,Nat.reduceLT,Nat.reduceEqDiff,reduceIte,reduceCtorEq,Nat.reduceLeDiff,Nat.reduceSub,List.reduceReplicate,Nat.reduceMul,Int.reduceToNat,Nat.reducePow];refine hK _ ?_;clear hK K
   refine zB ?_;refine zA ?_;exact ⟨(m + 1,j),rfl,⟨by dsimp only;omega,h2,h3⟩,by dsimp only;omega⟩
 |false =>
   rw [hc,decide_eq_false_iff_not] at hb
   have:cL t p≤m:=by
    rcases Nat.lt_or_ge m (cL t p) with h|h
    ·rw [p1 m hmt h] at hc;cases hc
    ·exact h
   with_reducible refine aU ?_;simp (disch:=omega) only [push_cast,↓iC9,Nat.reduceBEq,Nat.reduceAdd,Nat.reduceLT,Nat.reduceEqDiff,reduceIte,reduceCtorEq,Nat.reduceLeDiff,Nat.reduceSub,List.reduceReplicate,Nat.reduceMul,Int.reduceToNat,Nat.reducePow]
   refine hK _ ?_;clear hK K;refine zA ?_;refine yC rfl ?_
   skip
   refine zJ (fun K hK=>?_);simp (disch:=omega) only [push_cast,↓iC9,Nat.reduceBEq,Nat.reduceAdd,Nat.reduceLT,Nat.reduceEqDiff,reduceIte,reduceCtorEq,Nat.reduceLeDiff,Nat.reduceSub,List.reduceReplicate,Nat.reduceMul,Int.reduceToNat,Nat.reducePow];refine hK _ ?_;clear hK K
   refine zB ?_;refine zA ?_;exact ⟨(i,m),rfl,⟨h1,this,by dsimp only;omega⟩,by dsimp only;omega⟩
 ·have hij:i=cL t p∧j=cL t p:=by omega
  obtain ⟨rfl,rfl⟩:=hij;refine zE ?_;refine zE ?_;refine zJ (fun K hK=>?_);simp (disch:=omega) only [push_cast,↓iC9,Nat.reduceBEq,Nat.reduceAdd,Nat.reduceLT,Nat.reduceEqDiff,reduceIte,reduceCtorEq,Nat.reduceLeDiff,Nat.reduceSub,List.reduceReplicate,Nat.reduceMul,Int.reduceToNat,Nat.reducePow];refine hK _ ?_;clear hK K
  refine zA ?_;refine yC rfl ?_;refine zT ?_;refine zG ?_;refine zG ?_;refine zH ?_;refine zE ?_
  have th:=lN hr p
  by_cases hp:cL t p < t.length
  ·have hb:=zNq t[cL t p].1 p
   by_cases hc:t[cL t p].1=p
   ·rw [decide_eq_true hc,decide_eq_true_iff] at hb;rw [decide_eq_true ⟨hp,hc⟩] at th;rw [th];refine zJ (fun K hK=>?_);simp (disch:=omega) only [push_cast,↓iC9,Nat.reduceBEq,Nat.reduceAdd,Nat.reduceLT,Nat.reduceEqDiff,reduceIte,reduceCtorEq,Nat.reduceLeDiff,Nat.reduceSub,List.reduceReplicate,Nat.reduceMul,Int.reduceToNat,Nat.reducePow,yV,yU,yW hp]
    refine dJ zLi (qNk t[cL t p] p) (.cons (qKr _) (.cons (.v _) .nil)) ?_;with_reducible refine aU ?_;simp (disch:=omega) only [push_cast,↓iC9,Nat.reduceBEq,Nat.reduceAdd,Nat.reduceLT,Nat.reduceEqDiff,reduceIte,reduceCtorEq,Nat.reduceLeDiff,Nat.reduceSub,List.reduceReplicate,Nat.reduceMul,Int.reduceToNat,Nat.reducePow]
    refine hK _ ?_;clear hK K;refine zA ?_;refine zW ?_;simp only [yA,yM,yH,yE,aL,aV,yK,yJ,zS,zM,Nat.reduceEqDiff,reduceIte,reduceCtorEq];exact qHa rfl
   ·rw [decide_eq_false hc,decide_eq_false_iff_not] at hb;rw [decide_eq_false (fun ⟨_,h⟩=>hc h)] at th
    rw [th];refine zJ (fun K hK=>?_);simp (disch:=omega) only [push_cast,↓iC9,Nat.reduceBEq,Nat.reduceAdd,Nat.reduceLT,Nat.reduceEqDiff,reduceIte,reduceCtorEq,Nat.reduceLeDiff,Nat.reduceSub,List.reduceReplicate,Nat.reduceMul,Int.reduceToNat,Nat.reducePow,yV,yU,yW hp]
    refine dJ zLi (qNk t[cL t p] p) (.cons (qKr _) (.cons (.v _) .nil)) ?_;with_reducible refine aU ?_;simp (disch:=omega) only [push_cast,↓iC9,Nat.reduceBEq,Nat.reduceAdd,Nat.reduceLT,Nat.reduceEqDiff,reduceIte,reduceCtorEq,Nat.reduceLeDiff,Nat.reduceSub,List.reduceReplicate,Nat.reduceMul,Int.reduceToNat,Nat.reducePow]
    refine hK _ ?_;clear hK K;refine zA ?_;refine zW ?_;simp only [yA,yM,yH,yE,aL,aV,yK,yJ,zS,zM,Nat.reduceEqDiff,reduceIte,reduceCtorEq];exact qHa rfl
  ·rw [decide_eq_false (fun ⟨h,_⟩=>hp h)] at th
   rw [th];refine zJ (fun K hK=>?_);simp (disch:=omega) only [push_cast,↓iC9,Nat.reduceBEq,Nat.reduceAdd,Nat.reduceLT,Nat.reduceEqDiff,reduceIte,reduceCtorEq,Nat.reduceLeDiff,Nat.reduceSub,List.reduceReplicate,Nat.reduceMul,Int.reduceToNat,Nat.reducePow];refine hK _ ?_;clear hK K
   refine zA ?_;refine zW ?_;simp only [yA,yM,yH,yE,aL,aV,yK,yJ,zS,zM,Nat.reduceEqDiff,reduceIte,reduceCtorEq];exact qHa rfl
set_option maxHeartbeats 1000000 in
theorem zQv (t:List Ent) (p:ByteArray) (hr:rise t) (hl:t.length≤140737488355328):HFun Tryz.prog 90 [.lst false (bR t),.v (.string p)] (fun h st=>h=.tup [.v (.int .i64 (cL t p)),.v (.bool (gX t p))]):=by
 refine jP (N:=11) Tryz.func90 rfl Tryz.ntmps90 Tryz.results90 (by simp) ?_
 refine zE ?_;refine zJ (fun K hK=>?_);simp (disch:=omega) only [push_cast,↓iC9,Nat.reduceBEq,Nat.reduceAdd,Nat.reduceLT,Nat.reduceEqDiff,reduceIte,reduceCtorEq,Nat.reduceLeDiff,Nat.reduceSub,List.reduceReplicate,Nat.reduceMul,Int.reduceToNat,Nat.reducePow];refine hK _ ?_;clear hK K
 refine zE ?_;refine zJ (fun K hK=>?_);simp (disch:=omega) only [push_cast,↓iC9,Nat.reduceBEq,Nat.reduceAdd,Nat.reduceLT,Nat.reduceEqDiff,reduceIte,reduceCtorEq,Nat.reduceLeDiff,Nat.reduceSub,List.reduceReplicate,Nat.reduceMul,Int.reduceToNat,Nat.reducePow]
 refine zM7 (xs:=[.int .i64 (cL t p),.bool (gX t p)]) zTn (zE7 t p hr hl) (.cons (iE (yT _)) (.cons (.v _) (.cons (.v _) .nil))) ?_;with_reducible refine aU ?_;simp (disch:=omega) only [push_cast,↓iC9,Nat.reduceBEq,Nat.reduceAdd,Nat.reduceLT,Nat.reduceEqDiff,reduceIte,reduceCtorEq,Nat.reduceLeDiff,Nat.reduceSub,List.reduceReplicate,Nat.reduceMul,Int.reduceToNat,Nat.reducePow]
 refine hK _ ?_;clear hK K;refine zA ?_;refine zW ?_;simp only [yA,yM,yH,yE,aL,aV,yK,yJ,zS,zM,Nat.reduceEqDiff,reduceIte,reduceCtorEq];exact qHa rfl
set_option maxHeartbeats 1000000 in
theorem zPr (t:List Ent) (p:ByteArray) (hr:rise t) (hl:t.length≤140737488355328):HFun Tryz.prog 53 [.lst false (bR t),.v (.string p)] (fun h st=>h=uX (bP t p)∧st=[]):=by
 refine jP (N:=20) Tryz.func53 rfl Tryz.ntmps53 Tryz.results53 (by simp) ?_
 rw [qZp hr p];refine zE ?_;refine zJ (fun K hK=>?_);simp (disch:=omega) only [push_cast,↓iC9,Nat.reduceBEq,Nat.reduceAdd,Nat.reduceLT,Nat.reduceEqDiff,reduceIte,reduceCtorEq,Nat.reduceLeDiff,Nat.reduceSub,List.reduceReplicate,Nat.reduceMul,Int.reduceToNat,Nat.reducePow];refine hK _ ?_;clear hK K
 refine zE ?_;refine zE ?_;refine zJ (fun K hK=>?_);simp (disch:=omega) only [push_cast,↓iC9,Nat.reduceBEq,Nat.reduceAdd,Nat.reduceLT,Nat.reduceEqDiff,reduceIte,reduceCtorEq,Nat.reduceLeDiff,Nat.reduceSub,List.reduceReplicate,Nat.reduceMul,Int.reduceToNat,Nat.reducePow]
 refine zM7 (xs:=[.int .i64 (cL t p),.bool (gX t p)]) zUa (zQv t p hr hl) (.cons (iE (yT _)) (.cons (.v _) .nil)) ?_;with_reducible refine aU ?_;simp (disch:=omega) only [push_cast,↓iC9,Nat.reduceBEq,Nat.reduceAdd,Nat.reduceLT,Nat.reduceEqDiff,reduceIte,reduceCtorEq,Nat.reduceLeDiff,Nat.reduceSub,List.reduceReplicate,Nat.reduceMul,Int.reduceToNat,Nat.reducePow]
 refine hK _ ?_;clear hK K;refine zE ?_;refine zJ (fun K hK=>?_);simp (disch:=omega) only [push_cast,↓iC9,Nat.reduceBEq,Nat.reduceAdd,Nat.reduceLT,Nat.reduceEqDiff,reduceIte,reduceCtorEq,Nat.reduceLeDiff,Nat.reduceSub,List.reduceReplicate,Nat.reduceMul,Int.reduceToNat,Nat.reducePow];refine hK _ ?_;clear hK K
 have tp:=lN hr p
 by_cases h:cL t p < t.length∧gX t p=true
 ·rw [dif_pos h]
  have hlt:=h.1
  have ht:=h.2
  refine lM rfl (fun _=>?_) (fun e=>by rw [ht] at e;cases e)
  refine zE ?_;refine zJ (fun K hK=>?_);simp (disch:=omega) only [push_cast,↓iC9,Nat.reduceBEq,Nat.reduceAdd,Nat.reduceLT,Nat.reduceEqDiff,reduceIte,reduceCtorEq,Nat.reduceLeDiff,Nat.reduceSub,List.reduceReplicate,Nat.reduceMul,Int.reduceToNat,Nat.reducePow,yV,yU,yW hlt];refine hK _ ?_;clear hK K
  refine zA ?_;refine zW ?_;refine zK ?_;simp (disch:=omega) only [yA,yM,yH,yE,aL,aV,yK,yJ,push_cast,↓iC9,Nat.reduceBEq,Nat.reduceAdd,Nat.reduceLT,Nat.reduceEqDiff,reduceIte,reduceCtorEq,Nat.reduceLeDiff,Nat.reduceSub,List.reduceReplicate,Nat.reduceMul,Int.reduceToNat,Int.toNat_natCast,Nat.reducePow,reduceIte];exact qAd (n:=t[cL t p].2) ⟨rfl,rfl⟩
 ·rw [dif_neg h]
  have ht:gX t p=false:=by
   cases e:gX t p with
  |false=>rfl
  |true =>
    have tp:=lN hr p
    rw [e] at tp;exact (h ⟨(decide_eq_true_iff.1 tp.symm).1,e⟩).elim
  refine lM rfl (fun e=>by rw [ht] at e;cases e) (fun _=>?_)
  refine zC ?_;refine zE ?_;refine zJ (fun K hK=>?_);simp (disch:=omega) only [push_cast,↓iC9,Nat.reduceBEq,Nat.reduceAdd,Nat.reduceLT,Nat.reduceEqDiff,reduceIte,reduceCtorEq,Nat.reduceLeDiff,Nat.reduceSub,List.reduceReplicate,Nat.reduceMul,Int.reduceToNat,Nat.reducePow];refine hK _ ?_;clear hK K
  refine zA ?_;refine zW ?_;simp (disch:=omega) only [yA,yM,yH,yE,aL,aV,yK,yJ,push_cast,↓iC9,Nat.reduceBEq,Nat.reduceAdd,Nat.reduceLT,Nat.reduceEqDiff,reduceIte,reduceCtorEq,Nat.reduceLeDiff,Nat.reduceSub,List.reduceReplicate,Nat.reduceMul,Int.reduceToNat,Int.toNat_natCast,Nat.reducePow,reduceIte];exact qAd (n:=qBa) ⟨rfl,rfl⟩
end Go.Proofs.YtlihpgmgiehjkaaGreatDoor
end
