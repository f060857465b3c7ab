/-
  Regions that draw their order, look-ups among their heads.
-/
import Derived.Test.YtbdomkfdkfdfgaaGreatDoorPaB
import Derived.Test.YtbdomkfdkfdfgaaGreatDoorOne
import Derived.Test.YtbdomkfdkfdfgaaGreatDoorBir
import Derived.Test.YtbdomkfdkfdfgaaGreatDoorRng
import Derived.Test.YtbdomkfdkfdfgaaGreatDoorTrC
import Derived.Test.YtbdomkfdkfdfgaaGreatDoorMr
import Derived.Test.YtbdomkfdkfdfgaaGreatDoorTrH
set_option linter.unusedSimpArgs false
set_option linter.unusedVariables false
section
set_option maxRecDepth 20000
namespace Go.Tr
open Go Go.Eng Go.RowKit
abbrev zUx (p:ByteArray) (n:Int):HV:=.agg [.v (.string p),.v (.int .i64 n)]
theorem zEz (t:TypeId) (n:Nat) (ps:Array (Nat × Operand)):jY (.buildSlice t n ps)=mP ps.toList:=oD t n ps
end Go.Tr
namespace Go.Proofs.YtbdomkfdkfdfgaaGreatDoor
open Go Go.Eng Go.RowKit Go.Tr
set_option maxHeartbeats 8000000 in
theorem zL9 (p:ByteArray) (A H S:List Ent) (v:Value) (x:T3) (sp:p.size≤1048576) (hA:B3 A) (hH:B3 H) (hS:B3 S) (rA:rise A) (rH:rise H) (rS:rise S) (hx:BT x) :
  HFunS Tryz.prog 31 [.ptr 0 4 0 0,zUx p 2,.lst false (aL A),.lst false (aL H),.lst false (aL S)] (qZs (.v v) x false true true true) (fun h st=>h=.v (.int .i64 (pR p (H.filter fun e=>eK e.1 p) [1,2] x).2)∧st=qZs (.v v) (pR p (H.filter fun e=>eK e.1 p) [1,2] x).1 false true true true):=by
 refine qW2 (N:=135) Tryz.func31 rfl Tryz.ntmps31 Tryz.results31 (by simp) ?_
 have gA:=oQ A p rA (by have:=hA.len;omega)
 have gH:=oQ H p rH (by have:=hH.len;omega)
 have gS:=oQ S p rS (by have:=hS.len;omega)
 have sH:=qUy H p hH.len hH.sz sp
 have sS:=qUy S p hS.len hS.sz sp
 have hu:B3 (H.filter fun e=>eK e.1 p):=⟨Nat.le_trans (List.length_filter_le ..) hH.len,fun e he=>hH.sz e (List.mem_filter.1 he).1⟩
 have cp:=zQ2 p _ [1,2] (by simp) (by decide) v x sp hu hx
 rw [show pT [1,2]=[[.ptr 0 4 0 1],[.ptr 0 4 0 2]] from rfl] at cp
 generalize (H.filter fun e=>eK e.1 p)=u at *
 generalize (S.filter fun e=>eK e.1 p)=us at *
 generalize aF A p=nA at gA;generalize aF H p=nH at gH;generalize aF S p=nS at gS;obtain ⟨a1,a2⟩:=nA;obtain ⟨b1,b2⟩:=nH;obtain ⟨d1,d2⟩:=nS;refine zE ?_;refine zJ (fun K hK=>?_);simp (disch:=omega) only [push_cast,↓Int.cast_ofNat_Int,simprocAttr];refine hK _ ?_;clear hK K
 refine zE ?_;refine zJ (fun K hK=>?_);simp (disch:=omega) only [push_cast,↓Int.cast_ofNat_Int,simprocAttr];refine hK _ ?_;clear hK K
 refine zE ?_;refine zJ (fun K hK=>?_);simp (disch:=omega) only [push_cast,↓Int.cast_ofNat_Int,simprocAttr]
 refine hat 216 uW gA (.cons (aT (yT _)) (.cons (.v _) .nil)) ?_;rintro _ _ ⟨rfl,rfl⟩;with_reducible refine aC ?_;simp (disch:=omega) only [push_cast,↓Int.cast_ofNat_Int,simprocAttr]
 refine hat 240 uW gH (.cons (aT (yT _)) (.cons (.v _) .nil)) ?_;rintro _ _ ⟨rfl,rfl⟩;with_reducible refine aC ?_;simp (disch:=omega) only [push_cast,↓Int.cast_ofNat_Int,simprocAttr]
 refine hat 264 uW gS (.cons (aT (yT _)) (.cons (.v _) .nil)) ?_;rintro _ _ ⟨rfl,rfl⟩;with_reducible refine aC ?_;simp (disch:=omega) only [push_cast,↓Int.cast_ofNat_Int,simprocAttr]
 refine hK _ ?_;clear hK K;refine zE ?_;refine zJ (fun K hK=>?_);simp (disch:=omega) only [push_cast,↓Int.cast_ofNat_Int,simprocAttr]
 refine hat 288 zK5 sH (.cons (aT (yT _)) (.cons (.v _) .nil)) ?_;rintro _ _ ⟨rfl,rfl⟩;with_reducible refine aC ?_;simp (disch:=omega) only [push_cast,↓Int.cast_ofNat_Int,simprocAttr]
 refine hat 312 zK5 sS (.cons (aT (yT _)) (.cons (.v _) .nil)) ?_;rintro _ _ ⟨rfl,rfl⟩;with_reducible refine aC ?_;simp (disch:=omega) only [push_cast,↓Int.cast_ofNat_Int,simprocAttr]
 refine hK _ ?_;clear hK K;refine yB [0,6,11,15] [0,1,2,3,48,288] (by simp only [zZ,zR,zP,zQ,zN,zS,zM,zX,zU,Nat.reduceEqDiff,reduceIte];exact rfl) ?_
 refine zE ?_;refine zE ?_;refine zJ (fun K hK=>?_);simp (disch:=omega) only [push_cast,↓Int.cast_ofNat_Int,simprocAttr];refine hK _ ?_;clear hK K
 refine zA ?_;refine zD ?_;refine zE ?_;refine zJ (fun K hK=>?_);simp (disch:=omega) only [push_cast,↓Int.cast_ofNat_Int,simprocAttr];refine hK _ ?_;clear hK K
 refine yC rfl ?_;refine zE ?_;refine zJ (fun K hK=>?_);simp (disch:=omega) only [push_cast,↓Int.cast_ofNat_Int,simprocAttr];refine hK _ ?_;clear hK K
 refine yD rfl ?_;refine yB [0,11,15] [0,1,2,3,288] (by simp only [zZ,zR,zP,zQ,zN,zS,zM,zX,zU,Nat.reduceEqDiff,reduceIte];exact rfl) ?_
 refine zE ?_;refine nP 9 [(8,some 552)] [qZs (.v v) x false true true true ++ [(288,.sl true 67 3 (aL u))],(552,.hl true 96 1 [[.ptr 0 4 0 1],[.ptr 0 4 0 2]]) :: (qZs (.v v) x false true true true ++ [(288,.sl true 67 3 (aL u))])] [] mixed (by kernel_rfl) (by kernel_rfl) rfl (fun K hK K1 hK1=>?_);simp (disch:=omega) only [push_cast,↓Int.cast_ofNat_Int,simprocAttr,bZ,bP,cT,bY,dR,iS,bX,bN,aN,aU,bC,aP,aQ,dT,cA,cG,cW,cV,bQ,aV,bD,dW,dV,dU,cB,cC,cF,cE,dX,bV,cD,cU,List.tail_cons,List.take_nil,List.drop_nil,zEz]
 refine hK1 _ ?_;(try clear hK1 K1);with_reducible refine aC ?_;simp (disch:=omega) only [push_cast,↓Int.cast_ofNat_Int,simprocAttr]
 refine qHf 560 [0,1,2,3,552,288] zVh (cp) rfl (by decide) (by decide) (by simp only [push_cast,simprocAttr];try rfl) (by simp only [push_cast,simprocAttr];try rfl) ?_
 rintro _ _ ⟨rfl,rfl⟩;refine aC ?_;simp (disch:=omega) only [push_cast,↓Int.cast_ofNat_Int,simprocAttr];refine hK _ ?_;clear hK K;refine zA ?_;refine zW ?_;refine zL ?_;refine zK ?_;simp only [bT,dE,yH,yE,yK,yJ,fF,zS,zM,Nat.reduceEqDiff,reduceIte,reduceCtorEq];refine oL [0,1,2,3] (by decide) (by decide) (by simp only [push_cast,simprocAttr]) (by simp only [push_cast,simprocAttr]) (by simp only [push_cast,simprocAttr];rfl) (by simp only [push_cast,simprocAttr];rfl) ?_
 exact ⟨rfl,rfl⟩
end Go.Proofs.YtbdomkfdkfdfgaaGreatDoor
end
section
namespace Go.Eng
open Go Go.RowKit Go.Maps
theorem uA (v:Option Value) (z:Value):zB9 v z true=.tup [qZ8 (v.getD z),.v (.bool v.isSome)]:=nr rfl
theorem pW (v:Option Value) (z:Value):zB9 v z false=qZ8 (v.getD z):=nr rfl
end Go.Eng
end
section
namespace Go.Dk
open Go Go.Tr Go.Eng
structure Itm where
 dir:Bool
 data:ByteArray
 kept:ByteArray
 loose:Bool
 anew:Bool
 stamp:Int
def Itm.val (x:Itm):Value:=.agg #[.bool x.dir,.string x.data,.string x.kept,.bool x.loose,.bool x.anew,.int .i64 x.stamp]
def Itm.hv (x:Itm):HV:=.agg [.v (.bool x.dir),.v (.string x.data),.v (.string x.kept),.v (.bool x.loose),.v (.bool x.anew),.v (.int .i64 x.stamp)]
def zUy:Itm:=⟨false,ByteArray.empty,ByteArray.empty,false,false,0⟩
section
variable {α:Type}
def gF:List (ByteArray × α)→ByteArray→Option α
|[],_=>none
|(t,x) :: r,s=>if t=s then some x else gF r s
def zRq (a b:ByteArray):Bool:=Op.bytesLess a.data.toList b.data.toList
theorem zD8 (a b:ByteArray):zRq a b=blt a b:=by rw [blt,zRq,Lib.toList_data,Lib.toList_data]
def put (s:ByteArray) (x:α):List (ByteArray × α)→List (ByteArray × α)
|[]=>[(s,x)]
|(t,y) :: r=>if t=s then (s,x) :: r else if zRq s t then (s,x) :: (t,y) :: r else (t,y) :: put s x r
theorem qV0 (s:ByteArray) (x:α) (u:ByteArray):∀ (L:List (ByteArray × α)),gF (put s x L) u=if u=s then some x else gF L u
|[]=>by
  simp only [put,gF]
  by_cases e:u=s
  ·subst e;simp
  ·rw [if_neg (fun h=>e h.symm),if_neg e]
|(t,y) :: r=>by
  simp only [put]
  by_cases h1:t=s
  ·subst h1;rw [if_pos rfl];simp only [gF]
   by_cases e:t=u
   ·subst e;simp
   ·rw [if_neg e,if_neg (fun h=>e h.symm),if_neg e]
  ·rw [if_neg h1];split
   ·simp only [gF]
    by_cases e:s=u
    ·subst e;simp
    ·rw [if_neg e,if_neg (show ¬ u=s from fun h=>e h.symm)]
   ·simp only [gF];rw [qV0 s x u r]
    by_cases e:t=u
    ·subst e;simp [h1]
    ·rw [if_neg e,if_neg e]
def tab (f:α→Value) (L:List (ByteArray × α)):MTab:=fun s=>(gF L (mkB s)).map f
theorem zQw (f:α→Value) (L:List (ByteArray × α)) (s:ByteArray):tab f L s.data.toList=(gF L s).map f:=by rw [tab,mB]
theorem qZv {q:List UInt8} {s:ByteArray}:mkB q=s↔q=s.data.toList:=by
 constructor
 ·rintro rfl;rfl
 ·rintro rfl;exact mB s
theorem zL8 (f:α→Value) (L:List (ByteArray × α)) (s:ByteArray) (x:α):(tab f L).put s.data.toList (f x)=tab f (put s x L):=by
 funext q
 simp only [MTab.put,tab,qV0]
 by_cases e:q=s.data.toList
 ·rw [if_pos e,if_pos (qZv.2 e)];rfl
 ·rw [if_neg e,if_neg (fun h=>e (qZv.1 h))]
end
def zMs (n:Int):Value:=.int .i64 n
theorem zH7 (L:List (ByteArray × Int)) (s:ByteArray):qZ8 ((tab zMs L s.data.toList).getD (.int .i64 0))=.v (.int .i64 ((gF L s).getD 0)):=by
 rw [zQw]
 cases gF L s <;> rfl
structure Dk where
 L:List (ByteArray × Itm)
 R:List (ByteArray × Int)
 steps:Int
 stamps:Int
 armed:Int
 down:Bool
 n:Nat
 m:Nat
def Dk.new:Dk:=⟨[],[],0,0,-1,false,0,0⟩
def Dk.cells (d:Dk) (r1 r2:Nat):List HV:=[.v (.map (some r1)),.v (.map (some r2)),.v (.int .i64 d.steps),.v (.int .i64 d.stamps),.v (.int .i64 d.armed),.v (.bool d.down)]
def Dk.maps (d:Dk) (k r1 r2:Nat):MS:=[.map r1 k d.n (tab Itm.val d.L),.map r2 k d.m (tab zMs d.R)]
def zNa (p:ByteArray):Int:=if p={ data:=#[] } then 0 else (p.data.toList.count 47:Nat) + 1
def may (d:Dk) (p:ByteArray) (names:Int):Int:=if d.down then 14 else if pOk p 6=false∨zNa p≤names then 10 else 0
def qP1 (d:Dk):Int × Dk:=if d.armed=0 then (14,{ d with down:=true,armed:=-1 }) else (0,{ d with armed:=if 0 < d.armed then d.armed - 1 else d.armed,steps:=d.steps + 1 })
def qPn (d:Dk) (p:ByteArray):Itm:=(gF d.L p).getD zUy
def has (d:Dk) (p:ByteArray):Bool:=(gF d.L p).isSome
def under (d:Dk) (p:ByteArray):Bool:=decide (zNa p=1) || (qPn d (par p)).dir
def zSv (d:Dk) (p:ByteArray) (x:Itm):Dk:={ d with stamps:=d.stamps + 1,L:=put p { x with stamp:=d.stamps + 1 } d.L,n:=d.n + 1 }
def uT:List UInt8→Nat
|[]=>0
|c :: r=>if c=47 then 0 else uT r + 1
def vol (p:ByteArray):ByteArray:=p.extract 0 (uT p.data.toList)
def zN3 (v:ByteArray):List (ByteArray × Itm)→Int
|[]=>0
|(p,x) :: r=>(if vol p=v then (x.data.size:Int) else 0) + zN3 v r
def zUp (d:Dk) (v:ByteArray):Int:=zN3 v d.L
def zQ0 (d:Dk) (p:ByteArray) (more:Int):Bool:=match gF d.R (vol p) with
|none=>true
|some n=>decide (more≤0) || decide (zUp d (vol p) + more≤n)
def zN2 (d:Dk) (p s:ByteArray):Int × Dk :=
 if may d p 1≠0 then (may d p 1,d) else if under d p=false then (11,d) else if (qPn d p).dir=true then (12,d) else if zQ0 d p ((s.size:Int) - (qPn d p).data.size)=false then (13,d) else
  if (qP1 d).1≠0 then qP1 d else (0,zSv (qP1 d).2 p { qPn d p with data:=s,loose:=true,anew:=true })
def zRi (d:Dk) (p:ByteArray):Int:=if may d p 1≠0 then may d p 1 else if has d p=false then 11 else if (qPn d p).dir=true then 12 else 0
def append (d:Dk) (p s:ByteArray):Int × Dk :=
 if zRi d p≠0 then (zRi d p,d) else if zQ0 d p s.size=false then (13,d) else if (qP1 d).1≠0 then qP1 d else
  (0,zSv (qP1 d).2 p { qPn d p with data:=(qPn d p).data ++ s,loose:=true })
def zUw (d:Dk) (p:ByteArray):Int:=if has d p=false then 0 else if (qPn d p).dir=true then 1 else 2
section
variable {α:Type}
def qHh (L:List (ByteArray × α)):Prop:=L.Pairwise fun a b=>blt a.1 b.1=true
theorem qHn {s:ByteArray} {x:α} {e:ByteArray × α}:∀ {L:List (ByteArray × α)},e ∈ put s x L→e=(s,x)∨e ∈ L
|[],h=>by simp only [put,List.mem_singleton] at h;exact .inl h
|(t,y) :: r,h=>by
  simp only [put] at h;split at h
  ·rcases List.mem_cons.1 h with h|h
   ·exact .inl h
   ·exact .inr (List.mem_cons_of_mem _ h)
  ·split at h
   ·rcases List.mem_cons.1 h with h|h
    ·exact .inl h
    ·exact .inr h
   ·rcases List.mem_cons.1 h with h|h
    ·exact .inr (by simp [h])
    ·rcases qHn h with h|h
     ·exact .inl h
     ·exact .inr (List.mem_cons_of_mem _ h)
theorem qVe (s:ByteArray) (x:α):∀ {L:List (ByteArray × α)},qHh L→qHh (put s x L)
|[],_=>by simp [put,qHh]
|(t,y) :: r,h=>by
  obtain ⟨h1,h2⟩:=List.pairwise_cons.1 h;simp only [put];split
  ·rename_i e;subst e;exact List.pairwise_cons.2 ⟨h1,h2⟩
  ·rename_i hne;split
   ·rename_i hb;refine List.pairwise_cons.2 ⟨fun e he=>?_,h⟩
    rw [zD8] at hb
    rcases List.mem_cons.1 he with rfl|he
    ·exact hb
    ·exact iP hb (h1 e he)
   ·rename_i hb;rw [zD8] at hb;refine List.pairwise_cons.2 ⟨fun e he=>?_,qVe s x h2⟩
    rcases qHn he with rfl|he
    ·rcases jJ t s with h|h|h
     ·exact h
     ·exact absurd h hne
     ·exact absurd h hb
    ·exact h1 e he
theorem qEq {s:ByteArray} {x:α}:∀ {L:List (ByteArray × α)},gF L s=some x→(s,x) ∈ L
|[],h=>by simp [gF] at h
|(t,y) :: r,h=>by
  simp only [gF] at h;split at h
  ·rename_i e;subst e;simp only [Option.some.injEq] at h;simp [h]
  ·exact List.mem_cons_of_mem _ (qEq h)
theorem qQ2 {s:ByteArray} {x:α}:∀ {L:List (ByteArray × α)},qHh L→(s,x) ∈ L→gF L s=some x
|[],_,h=>by simp at h
|(t,y) :: r,hR,h=>by
  obtain ⟨h1,h2⟩:=List.pairwise_cons.1 hR;simp only [gF]
  rcases List.mem_cons.1 h with h|h
  ·cases h;rw [if_pos rfl]
  ·rw [if_neg (fun e=>by subst e;have:=h1 _ h;rw [fP] at this;cases this)]
   exact qQ2 h2 h
end
def tot:List (ByteArray × Itm)→Int
|[]=>0
|(_,x) :: r=>(x.data.size:Int) + tot r
theorem oV {a b:ByteArray} (h:a.data.toList=b.data.toList):a=b:=by rw [← mB a,← mB b,h]
structure Dk.Ok (d:Dk) (B:Int):Prop where
 rise:qHh d.L
 keys:∀ e ∈ d.L,e.1.size≤1048576
 size:tot d.L≤B
 n:(d.n:Int)≤B
 m:(d.m:Int)≤B
 steps:0≤d.steps∧d.steps≤B
 stamps:0≤d.stamps∧d.stamps≤B
 armed:-1≤d.armed∧d.armed≤9223372036854775807
end Go.Dk
end
section
set_option maxRecDepth 20000
namespace Go.Proofs.YtbdomkfdkfdfgaaGreatDoor
open Go Go.Eng Go.RowKit Go.Tr Go.Dk
abbrev kS:TypeId:=9
theorem mtL:MapTy Tryz.prog 90 9 3 (.int .i64 0):=⟨by kernel_rfl,by kernel_rfl,fun w=>by kernel_rfl⟩
end Go.Proofs.YtbdomkfdkfdfgaaGreatDoor
end
section
namespace Go.Eng
open Go Go.RowKit Go.Maps
structure HeadM (P:Program) (N:Nat) (ops:List Oper) (E0:aJ) (st:aB) (g:MS) (hs:Nat→HV) (i:Nat) (o:Oper):Prop where
 lt:hU N o.dst
 head:∃ T:aJ,FrOk ops E0 hs i T∧(∀ t h,hlk T t=some h→t ∈ o.looksAt ops.toArray)∧∀ (c:Ctx) (l:Env) (w:World) (ρ:Nat→Value) (xs:Nat→List Value),Good c ⟨T,st⟩ (lk l) w ρ xs→MsOk P c w g →
  ∃ b,gd l (bW ops) o.guard (·=b)∧(b=true→Yields P (execOp (evD l) o) w fun u w'=>RepH w' (c.A ρ st) c.n0 ρ u (hs i)∧Below w.heap.size w w')∧(b=false→hs i=.v undef)
theorem HeadM.congr {P:Program} {N:Nat} {ops:List Oper} {E0:aJ} {st:aB} {g:MS} {hs hs':Nat→HV} {i:Nat} {o:Oper} (h:HeadM P N ops E0 st g hs i o) (he:∀ j,j≤i→hs' j=hs j):HeadM P N ops E0 st g hs' i o:=by
 obtain ⟨T,TF,TS,run⟩:=h.head;refine ⟨h.lt,T,TF.congr fun j hj=>he j (by omega),TS,?_⟩
 rw [he i (Nat.le_refl _)];exact run
section
variable {P:Program} {N:Nat} {all:List Oper} {g:MS} {K:HS→Prop} {n i:Nat} {S:HS} {Q:qQ}
end
end Go.Eng
end
