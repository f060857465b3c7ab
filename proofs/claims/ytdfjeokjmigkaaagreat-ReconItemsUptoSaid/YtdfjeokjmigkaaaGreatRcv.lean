/-
  A function that is handed a variable by pointer, with plain values in it: its body.
-/
import Derived.Test.YtdfjeokjmigkaaaGreatTrC
import Derived.Test.YtdfjeokjmigkaaaGreatMt
import Derived.Test.YtdfjeokjmigkaaaGreatApd
import Derived.Laws.RangeAny
import Derived.Test.YtdfjeokjmigkaaaGreatGc
set_option linter.unusedSimpArgs false
set_option linter.unusedVariables false
section
namespace Go.Dk
open Go Go.Tr Go.Eng
structure Itm where
 dir:Bool
 data:ByteArray
 kept:ByteArray
 loose:Bool
 anew:Bool
 stamp:Int
def Itm.val (x:Itm):Value:=.agg #[.bool x.dir,.string x.data,.string x.kept,.bool x.loose,.bool x.anew,.int .i64 x.stamp]
def Itm.hv (x:Itm):HV:=.agg [.v (.bool x.dir),.v (.string x.data),.v (.string x.kept),.v (.bool x.loose),.v (.bool x.anew),.v (.int .i64 x.stamp)]
def zXs:Itm:=⟨false,ByteArray.empty,ByteArray.empty,false,false,0⟩
section
variable {α:Type}
def jJ:List (ByteArray × α)→ByteArray→Option α
|[],_=>none
|(t,x) :: r,s=>if t=s then some x else jJ r s
def zUd (a b:ByteArray):Bool:=Op.bytesLess a.data.toList b.data.toList
theorem zCh (a b:ByteArray):zUd a b=blt a b:=by rw [blt,zUd,Lib.toList_data,Lib.toList_data]
def put (s:ByteArray) (x:α):List (ByteArray × α)→List (ByteArray × α)
|[]=>[(s,x)]
|(t,y) :: r=>if t=s then (s,x) :: r else if zUd s t then (s,x) :: (t,y) :: r else (t,y) :: put s x r
theorem qUf (s:ByteArray) (x:α) (u:ByteArray):∀ (L:List (ByteArray × α)),jJ (put s x L) u=if u=s then some x else jJ L u
|[]=>by
  simp only [put,jJ]
  by_cases e:u=s
  ·subst e;simp
  ·rw [if_neg (fun h=>e h.symm),if_neg e]
|(t,y) :: r=>by
  simp only [put]
  by_cases h1:t=s
  ·subst h1;rw [if_pos rfl];simp only [jJ]
   by_cases e:t=u
   ·subst e;simp
   ·rw [if_neg e,if_neg (fun h=>e h.symm),if_neg e]
  ·rw [if_neg h1];split
   ·simp only [jJ]
    by_cases e:s=u
    ·subst e;simp
    ·rw [if_neg e,if_neg (show ¬ u=s from fun h=>e h.symm)]
   ·simp only [jJ];rw [qUf s x u r]
    by_cases e:t=u
    ·subst e;simp [h1]
    ·rw [if_neg e,if_neg e]
def tab (f:α→Value) (L:List (ByteArray × α)):MTab:=fun s=>(jJ L (mkB s)).map f
theorem zRn (f:α→Value) (L:List (ByteArray × α)) (s:ByteArray):tab f L s.data.toList=(jJ L s).map f:=by rw [tab,qV]
theorem qYb {q:List UInt8} {s:ByteArray}:mkB q=s↔q=s.data.toList:=by
 constructor
 ·rintro rfl;rfl
 ·rintro rfl;exact qV s
theorem zMy (f:α→Value) (L:List (ByteArray × α)) (s:ByteArray) (x:α):(tab f L).put s.data.toList (f x)=tab f (put s x L):=by
 funext q
 simp only [MTab.put,tab,qUf]
 by_cases e:q=s.data.toList
 ·rw [if_pos e,if_pos (qYb.2 e)];rfl
 ·rw [if_neg e,if_neg (fun h=>e (qYb.1 h))]
end
def zNt (n:Int):Value:=.int .i64 n
theorem zJm (L:List (ByteArray × Int)) (s:ByteArray):qYp ((tab zNt L s.data.toList).getD (.int .i64 0))=.v (.int .i64 ((jJ L s).getD 0)):=by
 rw [zRn]
 cases jJ L s <;> rfl
structure Dk where
 L:List (ByteArray × Itm)
 R:List (ByteArray × Int)
 steps:Int
 stamps:Int
 armed:Int
 down:Bool
 n:Nat
 m:Nat
def Dk.new:Dk:=⟨[],[],0,0,-1,false,0,0⟩
def Dk.cells (d:Dk) (r1 r2:Nat):List HV:=[.v (.map (some r1)),.v (.map (some r2)),.v (.int .i64 d.steps),.v (.int .i64 d.stamps),.v (.int .i64 d.armed),.v (.bool d.down)]
def Dk.maps (d:Dk) (k r1 r2:Nat):MS:=[.map r1 k d.n (tab Itm.val d.L),.map r2 k d.m (tab zNt d.R)]
def zQe (p:ByteArray):Int:=if p={ data:=#[] } then 0 else (p.data.toList.count 47:Nat) + 1
def may (d:Dk) (p:ByteArray) (names:Int):Int:=if d.down then 14 else if pOk p 6=false∨zQe p≤names then 10 else 0
def qN9 (d:Dk):Int × Dk:=if d.armed=0 then (14,{ d with down:=true,armed:=-1 }) else (0,{ d with armed:=if 0 < d.armed then d.armed - 1 else d.armed,steps:=d.steps + 1 })
def qUp (d:Dk) (p:ByteArray):Itm:=(jJ d.L p).getD zXs
def has (d:Dk) (p:ByteArray):Bool:=(jJ d.L p).isSome
def zRb (d:Dk) (p:ByteArray):Bool:=decide (zQe p=1) || (qUp d (par p)).dir
def zU1 (d:Dk) (p:ByteArray) (x:Itm):Dk:={ d with stamps:=d.stamps + 1,L:=put p { x with stamp:=d.stamps + 1 } d.L,n:=d.n + 1 }
def oX:List UInt8→Nat
|[]=>0
|c :: r=>if c=47 then 0 else oX r + 1
def vol (p:ByteArray):ByteArray:=p.extract 0 (oX p.data.toList)
def zQ9 (v:ByteArray):List (ByteArray × Itm)→Int
|[]=>0
|(p,x) :: r=>(if vol p=v then (x.data.size:Int) else 0) + zQ9 v r
def zWz (d:Dk) (v:ByteArray):Int:=zQ9 v d.L
def zRt (d:Dk) (p:ByteArray) (more:Int):Bool:=match jJ d.R (vol p) with
|none=>true
|some n=>decide (more≤0) || decide (zWz d (vol p) + more≤n)
def zQ7 (d:Dk) (p s:ByteArray):Int × Dk :=
 if may d p 1≠0 then (may d p 1,d) else if zRb d p=false then (11,d) else if (qUp d p).dir=true then (12,d) else if zRt d p ((s.size:Int) - (qUp d p).data.size)=false then (13,d) else
  if (qN9 d).1≠0 then qN9 d else (0,zU1 (qN9 d).2 p { qUp d p with data:=s,loose:=true,anew:=true })
def zTx (d:Dk) (p:ByteArray):Int:=if may d p 1≠0 then may d p 1 else if has d p=false then 11 else if (qUp d p).dir=true then 12 else 0
def append (d:Dk) (p s:ByteArray):Int × Dk :=
 if zTx d p≠0 then (zTx d p,d) else if zRt d p s.size=false then (13,d) else if (qN9 d).1≠0 then qN9 d else
  (0,zU1 (qN9 d).2 p { qUp d p with data:=(qUp d p).data ++ s,loose:=true })
def zXr (d:Dk) (p:ByteArray):Int:=if has d p=false then 0 else if (qUp d p).dir=true then 1 else 2
section
variable {α:Type}
def qJ0 (L:List (ByteArray × α)):Prop:=L.Pairwise fun a b=>blt a.1 b.1=true
theorem qJ3 {s:ByteArray} {x:α} {e:ByteArray × α}:∀ {L:List (ByteArray × α)},e ∈ put s x L→e=(s,x)∨e ∈ L
|[],h=>by simp only [put,List.mem_singleton] at h;exact .inl h
|(t,y) :: r,h=>by
  simp only [put] at h;split at h
  ·rcases List.mem_cons.1 h with h|h
   ·exact .inl h
   ·exact .inr (List.mem_cons_of_mem _ h)
  ·split at h
   ·rcases List.mem_cons.1 h with h|h
    ·exact .inl h
    ·exact .inr h
   ·rcases List.mem_cons.1 h with h|h
    ·exact .inr (by simp [h])
    ·rcases qJ3 h with h|h
     ·exact .inl h
     ·exact .inr (List.mem_cons_of_mem _ h)
theorem qTj (s:ByteArray) (x:α):∀ {L:List (ByteArray × α)},qJ0 L→qJ0 (put s x L)
|[],_=>by simp [put,qJ0]
|(t,y) :: r,h=>by
  obtain ⟨h1,h2⟩:=List.pairwise_cons.1 h;simp only [put];split
  ·rename_i e;subst e;exact List.pairwise_cons.2 ⟨h1,h2⟩
  ·rename_i hne;split
   ·rename_i hb;refine List.pairwise_cons.2 ⟨fun e he=>?_,h⟩
    rw [zCh] at hb
    rcases List.mem_cons.1 he with rfl|he
    ·exact hb
    ·exact pX hb (h1 e he)
   ·rename_i hb;rw [zCh] at hb;refine List.pairwise_cons.2 ⟨fun e he=>?_,qTj s x h2⟩
    rcases qJ3 he with rfl|he
    ·rcases qEa t s with h|h|h
     ·exact h
     ·exact absurd h hne
     ·exact absurd h hb
    ·exact h1 e he
theorem qHo {s:ByteArray} {x:α}:∀ {L:List (ByteArray × α)},jJ L s=some x→(s,x) ∈ L
|[],h=>by simp [jJ] at h
|(t,y) :: r,h=>by
  simp only [jJ] at h;split at h
  ·rename_i e;subst e;simp only [Option.some.injEq] at h;simp [h]
  ·exact List.mem_cons_of_mem _ (qHo h)
theorem qPz {s:ByteArray} {x:α}:∀ {L:List (ByteArray × α)},qJ0 L→(s,x) ∈ L→jJ L s=some x
|[],_,h=>by simp at h
|(t,y) :: r,hR,h=>by
  obtain ⟨h1,h2⟩:=List.pairwise_cons.1 hR;simp only [jJ]
  rcases List.mem_cons.1 h with h|h
  ·cases h;rw [if_pos rfl]
  ·rw [if_neg (fun e=>by subst e;have:=h1 _ h;rw [qBq] at this;cases this)]
   exact qPz h2 h
end
def tot:List (ByteArray × Itm)→Int
|[]=>0
|(_,x) :: r=>(x.data.size:Int) + tot r
theorem jF {a b:ByteArray} (h:a.data.toList=b.data.toList):a=b:=by rw [← qV a,← qV b,h]
structure Dk.Ok (d:Dk) (B:Int):Prop where
 rise:qJ0 d.L
 keys:∀ e ∈ d.L,e.1.size≤1048576
 size:tot d.L≤B
 n:(d.n:Int)≤B
 m:(d.m:Int)≤B
 steps:0≤d.steps∧d.steps≤B
 stamps:0≤d.stamps∧d.stamps≤B
 armed:-1≤d.armed∧d.armed≤9223372036854775807
end Go.Dk
end
section
set_option maxRecDepth 20000
namespace Go.Tr
open Go Go.Eng Go.RowKit Go.Lib
theorem zDx (s:ByteArray):(parts s).length=s.data.toList.count 47 + 1:=by
 rw [← qQz,splitB_all stroke (by decide) 0 _ s rfl]
 exact congrArg (· + 1) (count_one 47 _)
theorem qRo (s:ByteArray):(parts s).length≤s.size + 1:=by
 rw [zDx]
 have:=List.count_le_length (a:=(47:UInt8)) (l:=s.data.toList)
 rw [Lib.size_eq];omega
end Go.Tr
namespace Go.Proofs.YtdfjeokjmigkaaaGreat
open Go Go.Eng Go.RowKit Go.Tr
theorem qUr (s:ByteArray):HFun Tryz.prog 90 [.v (.string s),.v (.int .u8 47)] (fun h st=>h=.v (.int .i64 (Lib.indexByte s.data.toList 47))):=by
 refine (qAl fun w vs R=>?_).mono fun h st q=>q.1
 obtain ⟨r1,r2⟩:=R
 match vs,r1 with
|[a,b],_ =>
 have ha:=bK (r2 0 (by simp) (by simp))
 have hb:=bK (r2 1 (by simp) (by simp))
 simp only [List.getElem_cons_zero,List.getElem_cons_succ] at ha hb;subst ha;subst hb;refine (Tryz.stringslite_IndexByte s 47 w).mono ?_;rintro e w' ⟨rfl,rfl⟩;exact rE ⟨rfl,Below.refl _ _⟩
theorem qB5:(({ data:=#[47] }:ByteArray).size:Int)=1:=rfl
theorem zC3:dX { data:=#[47] } 0=47:=rfl
set_option maxHeartbeats 4000000 in
theorem zHj (s:ByteArray):HFun Tryz.prog 74 [.v (.string s),.v (.string { data:=#[47] })] (fun h st=>h=.v (.int .i64 (Lib.indexByte s.data.toList 47))):=by
 refine eF (N:=143) Tryz.func74 rfl Tryz.ntmps74 Tryz.results74 (by simp) ?_
 refine zE ?_;refine zJ (fun K hK=>?_);simp (disch:=omega) only [push_cast,↓Int.cast_ofNat_Int,Nat.reduceBEq,Nat.reduceAdd,Nat.reduceLT,Nat.reduceEqDiff,reduceIte,reduceCtorEq,Nat.reduceLeDiff,Nat.reduceSub,List.reduceReplicate,Nat.reduceMul,Int.reduceToNat,Nat.reducePow];refine hK _ ?_
 refine zE ?_;refine zJ (fun K hK=>?_);simp (disch:=omega) only [push_cast,↓Int.cast_ofNat_Int,Nat.reduceBEq,Nat.reduceAdd,Nat.reduceLT,Nat.reduceEqDiff,reduceIte,reduceCtorEq,Nat.reduceLeDiff,Nat.reduceSub,List.reduceReplicate,Nat.reduceMul,Int.reduceToNat,Nat.reducePow,qB5];refine hK _ ?_
 refine zE ?_;refine zD ?_;refine zE ?_
 by_cases h0:({ data:=#[47] }:ByteArray)=s
 ·have hd:decide (({ data:=#[47] }:ByteArray)=s)=true:=decide_eq_true h0
  refine zJ (fun K hK=>?_);simp (disch:=omega) only [push_cast,↓Int.cast_ofNat_Int,Nat.reduceBEq,Nat.reduceAdd,Nat.reduceLT,Nat.reduceEqDiff,reduceIte,reduceCtorEq,Nat.reduceLeDiff,Nat.reduceSub,List.reduceReplicate,Nat.reduceMul,Int.reduceToNat,Nat.reducePow,hd];refine hK _ ?_
  refine yD rfl ?_;refine zE ?_;refine zJ (fun K hK=>?_);simp (disch:=omega) only [push_cast,↓Int.cast_ofNat_Int,Nat.reduceBEq,Nat.reduceAdd,Nat.reduceLT,Nat.reduceEqDiff,reduceIte,reduceCtorEq,Nat.reduceLeDiff,Nat.reduceSub,List.reduceReplicate,Nat.reduceMul,Int.reduceToNat,Nat.reducePow];refine hK _ ?_
  refine zA ?_;refine zW ?_;refine zL ?_;refine zK ?_;simp only [yA,yM,yH,yE,aA,aC,yK,yJ,zS,zM,Nat.reduceEqDiff,reduceIte,reduceCtorEq];refine aL ?_;rw [← h0];rfl
 ·have hd:decide (({ data:=#[47] }:ByteArray)=s)=false:=decide_eq_false h0
  refine zJ (fun K hK=>?_);simp (disch:=omega) only [push_cast,↓Int.cast_ofNat_Int,Nat.reduceBEq,Nat.reduceAdd,Nat.reduceLT,Nat.reduceEqDiff,reduceIte,reduceCtorEq,Nat.reduceLeDiff,Nat.reduceSub,List.reduceReplicate,Nat.reduceMul,Int.reduceToNat,Nat.reducePow,hd];refine hK _ ?_
  refine yC rfl ?_;refine zE ?_;refine zJ (fun K hK=>?_);simp (disch:=omega) only [push_cast,↓Int.cast_ofNat_Int,Nat.reduceBEq,Nat.reduceAdd,Nat.reduceLT,Nat.reduceEqDiff,reduceIte,reduceCtorEq,Nat.reduceLeDiff,Nat.reduceSub,List.reduceReplicate,Nat.reduceMul,Int.reduceToNat,Nat.reducePow];refine hK _ ?_
  refine zA ?_;refine yD rfl ?_;refine zE ?_;refine zJ (fun K hK=>?_);simp (disch:=omega) only [push_cast,↓Int.cast_ofNat_Int,Nat.reduceBEq,Nat.reduceAdd,Nat.reduceLT,Nat.reduceEqDiff,reduceIte,reduceCtorEq,Nat.reduceLeDiff,Nat.reduceSub,List.reduceReplicate,Nat.reduceMul,Int.reduceToNat,Nat.reducePow,qB5,zC3]
  refine ⟨by first|omega|decide|((repeat' apply And.intro) <;> first|omega|decide),?_⟩
  refine aW zXv (qUr s) (.cons (.v _) (.cons (.v _) .nil)) ?_;with_reducible refine aB ?_;simp (disch:=omega) only [push_cast,↓Int.cast_ofNat_Int,Nat.reduceBEq,Nat.reduceAdd,Nat.reduceLT,Nat.reduceEqDiff,reduceIte,reduceCtorEq,Nat.reduceLeDiff,Nat.reduceSub,List.reduceReplicate,Nat.reduceMul,Int.reduceToNat,Nat.reducePow]
  refine hK _ ?_;refine zA ?_;refine zW ?_;refine zL ?_;refine zK ?_;simp only [yA,yM,yH,yE,aA,aC,yK,yJ,zS,zM,Nat.reduceEqDiff,reduceIte,reduceCtorEq];exact aL rfl
end Go.Proofs.YtdfjeokjmigkaaaGreat
end
section
set_option maxRecDepth 20000
namespace Go.Tr
open Go
theorem zNs (c:UInt8):okC c=(decide (97≤c.toNat∧c.toNat≤122) || decide (48≤c.toNat∧c.toNat≤57) || decide (c.toNat=95)):=by
 have e:∀ a b:UInt8,decide (a≤b)=decide (a.toNat≤b.toNat):=fun a b=>rfl
 have e2:decide (c=95)=decide (c.toNat=95):=by
  rw [decide_eq_decide];exact ⟨fun h=>by rw [h];rfl,fun h=>UInt8.toNat_inj.1 h⟩
 rw [okC,e2,Bool.decide_and,Bool.decide_and,e,e,e,e];rfl
def qN0 (r:Int):Bool:=((decide (r < 97) || decide (122 < r)) && (decide (r < 48) || decide (57 < r))) && !decide (r=95)
theorem zQr (c:UInt8):qN0 (c.toNat:Int)=!okC c:=by
 rw [zNs,qN0];rw [Bool.eq_iff_iff];simp;omega
end Go.Tr
namespace Go.Proofs.YtdfjeokjmigkaaaGreat
open Go Go.Eng Go.RowKit Go.Tr
attribute [local push_cast] qRu qJ4 qMl qCz qAq qGp qGo qCy qB6 qB7 qC5 qAw qA0 vF uN tZ uF uD uC uM qAc tY mF uL uE uG uH uJ uK uB uA tE tD sV sW sX sY sZ qR qL qT qS qQ qP qN qM qU qAu qAt tN tP tL oH oG oF jP jQ qJ xY xX mB oE xM tQ xN xL xK xP tR qFr xS qFq qLj qTy qFt qCg tT qCh qCf qCe qCc qLh tU qFu qFs qCb qCj qLi qCi xR qCd qGs qC1 qC3 qAr qC2 qMo qGt qMn qGq qC0 qGr qMm xU tV xW xV vA uZ qLo qFx qCk qFy qCq qAh qAg qGa qAd qAf qCr qGb uQ qAi qCs uP qAe qKl qFj qKj qFh qB3
attribute [local push_cast] List.take_succ_cons List.take_zero List.drop_succ_cons List.drop_zero true_and and_true Option.isSome_some List.getElem?_cons_zero List.getElem?_cons_succ List.length_cons List.length_nil cond_true cond_false Int.toNat_natCast Nat.mul_one Nat.add_zero Nat.zero_add Addr.add_lit bne_self_eq_false beq_self_eq_true Bool.not_true Bool.not_false List.size_toArray Array.getD_eq_getD_getElem? List.getElem?_toArray Option.getD_some decide_true decide_false eq_self Bool.true_beq Bool.false_beq
end Go.Proofs.YtdfjeokjmigkaaaGreat
end
section
set_option maxRecDepth 20000
namespace Go.Tr
open Go
end Go.Tr
namespace Go.Proofs.YtdfjeokjmigkaaaGreat
open Go Go.Eng Go.RowKit Go.Tr
theorem zUe (s:ByteArray) (i:Nat) (h:i < s.size):decide (dX s i=47)=decide (s.data.toList[i]?=some 47):=by
 have h':i < s.data.size:=h
 rw [Array.getElem?_toList,Array.getElem?_eq_getElem h',decide_eq_decide];unfold dX;rw [Array.getD_eq_getD_getElem?,Array.getElem?_eq_getElem h'];simp only [Option.getD_some,Option.some.injEq];constructor
 ·intro h;apply UInt8.toNat_inj.1;have e:(47:UInt8).toNat=47:=rfl;omega
 ·intro h;rw [h];rfl
def pre (s p:ByteArray):Bool:=p.data.toList.isPrefixOf s.data.toList
theorem zBq (s p:ByteArray) (h:p.size≤s.size):decide (s.extract 0 p.size=p)=pre s p:=by
 rw [pre,Bool.eq_iff_iff,decide_eq_true_iff,List.isPrefixOf_iff_prefix]
 have e:(s.extract 0 p.size).data.toList=s.data.toList.take p.data.toList.length:=by rw [Lib.extract_from_zero,← Lib.size_eq]
 rw [List.prefix_iff_eq_take];constructor
 ·intro h;rw [← e,h]
 ·intro h
  apply toList_inj
  rw [Lib.toList_data,Lib.toList_data,e];exact h.symm
theorem qPr {s p:ByteArray} (h:¬ p.size≤s.size):pre s p=false:=by
 rw [pre,Bool.eq_false_iff];intro hp
 have:=(List.isPrefixOf_iff_prefix.1 hp).length_le
 rw [← Lib.size_eq,← Lib.size_eq] at this;exact h this
set_option maxHeartbeats 1000000 in
theorem qP6 (s p:ByteArray):HFun Tryz.prog 73 [.v (.string s),.v (.string p)] (fun h st=>h=.v (.bool (pre s p))):=by
 refine eF (N:=18) Tryz.func73 rfl Tryz.ntmps73 Tryz.results73 (by simp) ?_
 refine zE ?_;refine zJ (fun K hK=>?_);simp (disch:=omega) only [push_cast,↓Int.cast_ofNat_Int,simprocAttr];refine hK _ ?_
 by_cases h:p.size≤s.size
 ·have e:=zBq s p h
  refine zE ?_;refine zJ (fun K hK=>?_);simp (disch:=omega) only [push_cast,↓Int.cast_ofNat_Int,simprocAttr,e]
  refine ⟨by first|omega|decide|((repeat' apply And.intro) <;> first|omega|decide),?_⟩
  refine hK _ ?_;refine zA ?_;refine zW ?_;simp only [yA,yM,yH,yE,aA,aC,yK,yJ,zS,zM,Nat.reduceEqDiff,reduceIte,reduceCtorEq];exact aL rfl
 ·rw [qPr h];refine zE ?_;refine zJ (fun K hK=>?_);simp (disch:=omega) only [push_cast,↓Int.cast_ofNat_Int,simprocAttr];refine hK _ ?_
  refine zA ?_;refine zW ?_;simp only [yA,yM,yH,yE,aA,aC,yK,yJ,zS,zM,Nat.reduceEqDiff,reduceIte,reduceCtorEq];exact aL rfl
set_option maxHeartbeats 1000000 in
theorem zK4 (s p:ByteArray):HFun Tryz.prog 53 [.v (.string s),.v (.string p)] (fun h st=>h=.v (.bool (pre s p))):=by
 refine eF (N:=8) Tryz.func53 rfl Tryz.ntmps53 Tryz.results53 (by simp) ?_
 refine zE ?_;refine zJ (fun K hK=>?_);simp (disch:=omega) only [push_cast,↓Int.cast_ofNat_Int,simprocAttr];refine hK _ ?_
 refine zE ?_;refine zJ (fun K hK=>?_);simp (disch:=omega) only [push_cast,↓Int.cast_ofNat_Int,simprocAttr]
 refine aW zT0 (qP6 s p) (.cons (.v _) (.cons (.v _) .nil)) ?_;with_reducible refine aB ?_;simp (disch:=omega) only [push_cast,↓Int.cast_ofNat_Int,simprocAttr]
 refine hK _ ?_;refine zA ?_;refine zW ?_;simp only [yA,yM,yH,yE,aA,aC,yK,yJ,zS,zM,Nat.reduceEqDiff,reduceIte,reduceCtorEq];exact aL rfl
theorem qSq (p t:ByteArray):gF p t=(decide (t={ data:=#[] }) || decide (p=t) || pre p (t ++ { data:=#[47] })):=rfl
set_option maxHeartbeats 1000000 in
theorem zBd (p t:ByteArray) (hp:p.size≤1048576) (ht:t.size≤1048576):HFun Tryz.prog 37 [.v (.string p),.v (.string t)] (fun h st=>h=.v (.bool (gF p t))):=by
 refine eF (N:=18) Tryz.func37 rfl Tryz.ntmps37 Tryz.results37 (by simp) ?_
 rw [qSq]
 have c:=zK4 p (t ++ { data:=#[47] })
 refine zE ?_;refine zJ (fun K hK=>?_);simp (disch:=omega) only [push_cast,↓Int.cast_ofNat_Int,simprocAttr];refine hK _ ?_
 cases e1:decide (t={ data:=#[] }) with
|true =>
  refine zE ?_;refine zJ (fun K hK=>?_);simp (disch:=omega) only [push_cast,↓Int.cast_ofNat_Int,simprocAttr,e1];refine hK _ ?_
  refine zA ?_;refine zW ?_;simp only [yA,yM,yH,yE,aA,aC,yK,yJ,zS,zM,Nat.reduceEqDiff,reduceIte,reduceCtorEq];exact aL rfl
|false =>
  cases e2:decide (p=t) with
 |true =>
   refine zE ?_;refine zJ (fun K hK=>?_);simp (disch:=omega) only [push_cast,↓Int.cast_ofNat_Int,simprocAttr,e1,e2];refine hK _ ?_
   refine zA ?_;refine zW ?_;simp only [yA,yM,yH,yE,aA,aC,yK,yJ,zS,zM,Nat.reduceEqDiff,reduceIte,reduceCtorEq];exact aL rfl
 |false =>
   have hsz:t.size + ({ data:=#[47] }:ByteArray).size≤9223372036854775807:=by have:({ data:=#[47] }:ByteArray).size=1:=rfl;omega
   refine zE ?_;refine zJ (fun K hK=>?_);simp (disch:=omega) only [push_cast,↓Int.cast_ofNat_Int,simprocAttr,e1,e2]
   refine ⟨hsz,?_⟩;refine aW zX7 c (.cons (.v _) (.cons (.v _) .nil)) ?_;with_reducible refine aB ?_;simp (disch:=omega) only [push_cast,↓Int.cast_ofNat_Int,simprocAttr]
   refine hK _ ?_;refine zA ?_;refine zW ?_;simp only [yA,yM,yH,yE,aA,aC,yK,yJ,zS,zM,Nat.reduceEqDiff,reduceIte,reduceCtorEq];exact aL rfl
def okN (b:Bool):Int:=bif b then 0 else 10
end Go.Proofs.YtdfjeokjmigkaaaGreat
end
section
set_option maxRecDepth 20000
namespace Go.Proofs.YtdfjeokjmigkaaaGreat
open Go Go.Eng Go.RowKit Go.Tr Go.Dk
abbrev kS:TypeId:=9
theorem mtL:MapTy Tryz.prog 64 9 3 (.int .i64 0):=⟨by kernel_rfl,by kernel_rfl,fun w=>by kernel_rfl⟩
end Go.Proofs.YtdfjeokjmigkaaaGreat
end
section
namespace Go.Eng
open Go Go.RowKit Go.Maps
structure HeadM (P:Program) (N:Nat) (ops:List Oper) (E0:aM) (st:aD) (g:MS) (hs:Nat→HV) (i:Nat) (o:Oper):Prop where
 lt:kY N o.dst
 head:∃ T:aM,FrOk ops E0 hs i T∧(∀ t h,hlk T t=some h→t ∈ o.looksAt ops.toArray)∧∀ (c:Ctx) (l:Env) (w:World) (ρ:Nat→Value) (xs:Nat→List Value),Good c ⟨T,st⟩ (lk l) w ρ xs→MsOk P c w g →
  ∃ b,gd l (cT ops) o.guard (·=b)∧(b=true→Yields P (execOp (evD l) o) w fun u w'=>RepH w' (c.A ρ st) c.n0 ρ u (hs i)∧Below w.heap.size w w')∧(b=false→hs i=.v undef)
theorem HeadM.congr {P:Program} {N:Nat} {ops:List Oper} {E0:aM} {st:aD} {g:MS} {hs hs':Nat→HV} {i:Nat} {o:Oper} (h:HeadM P N ops E0 st g hs i o) (he:∀ j,j≤i→hs' j=hs j):HeadM P N ops E0 st g hs' i o:=by
 obtain ⟨T,TF,TS,run⟩:=h.head;refine ⟨h.lt,T,TF.congr fun j hj=>he j (by omega),TS,?_⟩
 rw [he i (Nat.le_refl _)];exact run
section
variable {P:Program} {N:Nat} {all:List Oper} {g:MS} {K:HS→Prop} {n i:Nat} {S:HS} {Q:wN}
end
end Go.Eng
end
section
namespace Go.Eng
open Go Go.RowKit
inductive PlainH:HV→Prop
|v (x:Value):PlainH (.v x)
|tup (xs:List Value):PlainH (.tup (xs.map .v))
section
variable {P:Program} {N:Nat} {w w':World} {A A':Nat→Prop} {n0 n1:Nat} {ρ ρ':Nat→Value}
theorem RepH.plain {v:Value} {h:HV} (hr:RepH w A n0 ρ v h) (hp:PlainH h):RepH w' A' n1 ρ' v h:=by
 cases hp with
|v x=>have:=bK hr;subst this;exact .v _
|tup xs =>
  cases hr with
 |tup hn h =>
  refine .tup hn fun j a b=>?_
  have:=h j a b
  simp only [List.getElem_map] at this ⊢
  have e:=bK this
  rw [e];exact .v _
end
end Go.Eng
end
