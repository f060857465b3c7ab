/-
  The disk's functions: the volume of a path; is aU a folder; a file's new state.
-/
import Derived.Test.YtbdomkfdkfdfgaaGreatDoorPaB
import Derived.Test.YtbdomkfdkfdfgaaGreatDoorTfl
import Derived.Test.YtbdomkfdkfdfgaaGreatDoorBir
import Derived.Test.YtbdomkfdkfdfgaaGreatDoorMs
import Derived.Test.YtbdomkfdkfdfgaaGreatDoorTrC
import Derived.Test.YtbdomkfdkfdfgaaGreatDoorTrH
import Derived.Test.YtbdomkfdkfdfgaaGreatDoorTrE
set_option linter.unusedSimpArgs false
set_option linter.unusedVariables false
section
set_option maxRecDepth 20000
namespace Go.Tr
open Go Go.Eng Go.RowKit
abbrev zWy (p:ByteArray) (n:Int):HV:=.agg [.v (.string p),.v (.int .i64 n)]
theorem zHe (t:TypeId) (n:Nat) (ps:Array (Nat × Operand)):mV (.buildSlice t n ps)=pJ ps.toList:=rD t n ps
end Go.Tr
namespace Go.Proofs.YtbdomkfdkfdfgaaGreatDoor
open Go Go.Eng Go.RowKit Go.Tr
set_option maxHeartbeats 8000000 in
theorem zPe (p:ByteArray) (A H S:List Ent) (v:Value) (x:T3) (sp:p.size≤1048576) (hA:B3 A) (hH:B3 H) (hS:B3 S) (rA:rise A) (rH:rise H) (rS:rise S) (hx:BT x) :
  HFunS Tryz.prog 31 [.ptr 0 4 0 0,zWy p 2,.lst false (aG A),.lst false (aG H),.lst false (aG S)] (zBz (.v v) x false true true true) (fun h st=>h=.v (.int .i64 (tX p (H.filter fun e=>dY e.1 p) [1,2] x).2)∧st=zBz (.v v) (tX p (H.filter fun e=>dY e.1 p) [1,2] x).1 false true true true):=by
 refine qT0 (N:=135) Tryz.func31 rfl Tryz.ntmps31 Tryz.results31 (by simp) ?_
 have gA:=qDm A p rA (by have:=hA.len;omega)
 have gH:=qDm H p rH (by have:=hH.len;omega)
 have gS:=qDm S p rS (by have:=hS.len;omega)
 have sH:=qRv H p hH.len hH.sz sp
 have sS:=qRv S p hS.len hS.sz sp
 have hu:B3 (H.filter fun e=>dY e.1 p):=⟨Nat.le_trans (List.length_filter_le ..) hH.len,fun e he=>hH.sz e (List.mem_filter.1 he).1⟩
 have cp:=zTb p _ [1,2] (by simp) (by decide) v x sp hu hx
 rw [show tY [1,2]=[[.ptr 0 4 0 1],[.ptr 0 4 0 2]] from rfl] at cp
 generalize (H.filter fun e=>dY e.1 p)=u at *
 generalize (S.filter fun e=>dY e.1 p)=us at *
 generalize aN A p=nA at gA;generalize aN H p=nH at gH;generalize aN S p=nS at gS;obtain ⟨a1,a2⟩:=nA;obtain ⟨b1,b2⟩:=nH;obtain ⟨d1,d2⟩:=nS;refine zE ?_;refine zJ (fun K hK=>?_);simp (disch:=omega) only [push_cast,↓Int.cast_ofNat_Int,simprocAttr];refine hK _ ?_;clear hK K
 refine zE ?_;refine zJ (fun K hK=>?_);simp (disch:=omega) only [push_cast,↓Int.cast_ofNat_Int,simprocAttr];refine hK _ ?_;clear hK K
 refine zE ?_;refine zJ (fun K hK=>?_);simp (disch:=omega) only [push_cast,↓Int.cast_ofNat_Int,simprocAttr]
 refine hat 216 qGo gA (.cons (aL (yT _)) (.cons (.v _) .nil)) ?_;rintro _ _ ⟨rfl,rfl⟩;with_reducible refine aB ?_;simp (disch:=omega) only [push_cast,↓Int.cast_ofNat_Int,simprocAttr]
 refine hat 240 qGo gH (.cons (aL (yT _)) (.cons (.v _) .nil)) ?_;rintro _ _ ⟨rfl,rfl⟩;with_reducible refine aB ?_;simp (disch:=omega) only [push_cast,↓Int.cast_ofNat_Int,simprocAttr]
 refine hat 264 qGo gS (.cons (aL (yT _)) (.cons (.v _) .nil)) ?_;rintro _ _ ⟨rfl,rfl⟩;with_reducible refine aB ?_;simp (disch:=omega) only [push_cast,↓Int.cast_ofNat_Int,simprocAttr]
 refine hK _ ?_;clear hK K;refine zE ?_;refine zJ (fun K hK=>?_);simp (disch:=omega) only [push_cast,↓Int.cast_ofNat_Int,simprocAttr]
 refine hat 288 zCs sH (.cons (aL (yT _)) (.cons (.v _) .nil)) ?_;rintro _ _ ⟨rfl,rfl⟩;with_reducible refine aB ?_;simp (disch:=omega) only [push_cast,↓Int.cast_ofNat_Int,simprocAttr]
 refine hat 312 zCs sS (.cons (aL (yT _)) (.cons (.v _) .nil)) ?_;rintro _ _ ⟨rfl,rfl⟩;with_reducible refine aB ?_;simp (disch:=omega) only [push_cast,↓Int.cast_ofNat_Int,simprocAttr]
 refine hK _ ?_;clear hK K;refine yB [0,6,11,15] [0,1,2,3,48,288] (by simp only [zZ,zR,zP,zQ,zN,zS,zM,zX,zU,Nat.reduceEqDiff,reduceIte];exact rfl) ?_
 refine zE ?_;refine zE ?_;refine zJ (fun K hK=>?_);simp (disch:=omega) only [push_cast,↓Int.cast_ofNat_Int,simprocAttr];refine hK _ ?_;clear hK K
 refine zA ?_;refine zD ?_;refine zE ?_;refine zJ (fun K hK=>?_);simp (disch:=omega) only [push_cast,↓Int.cast_ofNat_Int,simprocAttr];refine hK _ ?_;clear hK K
 refine yC rfl ?_;refine zE ?_;refine zJ (fun K hK=>?_);simp (disch:=omega) only [push_cast,↓Int.cast_ofNat_Int,simprocAttr];refine hK _ ?_;clear hK K
 refine yD rfl ?_;refine yB [0,11,15] [0,1,2,3,288] (by simp only [zZ,zR,zP,zQ,zN,zS,zM,zX,zU,Nat.reduceEqDiff,reduceIte];exact rfl) ?_
 refine zE ?_;refine qAd 9 [(8,some 552)] [zBz (.v v) x false true true true ++ [(288,.sl true 67 3 (aG u))],(552,.hl true 96 1 [[.ptr 0 4 0 1],[.ptr 0 4 0 2]]) :: (zBz (.v v) x false true true true ++ [(288,.sl true 67 3 (aG u))])] [] mixed (by kernel_rfl) (by kernel_rfl) rfl (fun K hK K1 hK1=>?_);simp (disch:=omega) only [push_cast,↓Int.cast_ofNat_Int,simprocAttr,eD,dN,fE,eC,gT,pE,eB,dL,bR,cG,cU,bS,bT,gU,eE,eM,fJ,fH,dQ,cH,cV,gX,gW,gV,eF,eG,eK,eJ,gY,dU,eH,fG,List.tail_cons,List.take_nil,List.drop_nil,zHe]
 refine hK1 _ ?_;(try clear hK1 K1);with_reducible refine aB ?_;simp (disch:=omega) only [push_cast,↓Int.cast_ofNat_Int,simprocAttr]
 refine qD7 560 [0,1,2,3,552,288] zXj (cp) rfl (by decide) (by decide) (by simp only [push_cast,simprocAttr];try rfl) (by simp only [push_cast,simprocAttr];try rfl) ?_
 rintro _ _ ⟨rfl,rfl⟩;refine aB ?_;simp (disch:=omega) only [push_cast,↓Int.cast_ofNat_Int,simprocAttr];refine hK _ ?_;clear hK K;refine zA ?_;refine zW ?_;refine zL ?_;refine zK ?_;simp only [cB,dR,yH,yE,yK,yJ,fQ,zS,zM,Nat.reduceEqDiff,reduceIte,reduceCtorEq];refine pT [0,1,2,3] (by decide) (by decide) (by simp only [push_cast,simprocAttr]) (by simp only [push_cast,simprocAttr]) (by simp only [push_cast,simprocAttr];rfl) (by simp only [push_cast,simprocAttr];rfl) ?_
 exact ⟨rfl,rfl⟩
end Go.Proofs.YtbdomkfdkfdfgaaGreatDoor
end
section
namespace Go.Eng
open Go Go.RowKit Go.Maps
theorem jZ (v:Option Value) (z:Value):qS6 v z true=.tup [zCd (v.getD z),.v (.bool v.isSome)]:=nr rfl
theorem iP (v:Option Value) (z:Value):qS6 v z false=zCd (v.getD z):=nr rfl
end Go.Eng
end
section
namespace Go.Dk
open Go Go.Tr Go.Eng
structure Itm where
 dir:Bool
 data:ByteArray
 kept:ByteArray
 loose:Bool
 anew:Bool
 stamp:Int
def Itm.val (x:Itm):Value:=.agg #[.bool x.dir,.string x.data,.string x.kept,.bool x.loose,.bool x.anew,.int .i64 x.stamp]
def Itm.hv (x:Itm):HV:=.agg [.v (.bool x.dir),.v (.string x.data),.v (.string x.kept),.v (.bool x.loose),.v (.bool x.anew),.v (.int .i64 x.stamp)]
def zWz:Itm:=⟨false,ByteArray.empty,ByteArray.empty,false,false,0⟩
section
variable {α:Type}
def iQ:List (ByteArray × α)→ByteArray→Option α
|[],_=>none
|(t,x) :: r,s=>if t=s then some x else iQ r s
def zTz (a b:ByteArray):Bool:=Op.bytesLess a.data.toList b.data.toList
theorem zGl (a b:ByteArray):zTz a b=blt a b:=by rw [blt,zTz,Lib.toList_data,Lib.toList_data]
def put (s:ByteArray) (x:α):List (ByteArray × α)→List (ByteArray × α)
|[]=>[(s,x)]
|(t,y) :: r=>if t=s then (s,x) :: r else if zTz s t then (s,x) :: (t,y) :: r else (t,y) :: put s x r
theorem qX2 (s:ByteArray) (x:α) (u:ByteArray):∀ (L:List (ByteArray × α)),iQ (put s x L) u=if u=s then some x else iQ L u
|[]=>by
  simp only [put,iQ]
  by_cases e:u=s
  ·subst e;simp
  ·rw [if_neg (fun h=>e h.symm),if_neg e]
|(t,y) :: r=>by
  simp only [put]
  by_cases h1:t=s
  ·subst h1;rw [if_pos rfl];simp only [iQ]
   by_cases e:t=u
   ·subst e;simp
   ·rw [if_neg e,if_neg (fun h=>e h.symm),if_neg e]
  ·rw [if_neg h1];split
   ·simp only [iQ]
    by_cases e:s=u
    ·subst e;simp
    ·rw [if_neg e,if_neg (show ¬ u=s from fun h=>e h.symm)]
   ·simp only [iQ];rw [qX2 s x u r]
    by_cases e:t=u
    ·subst e;simp [h1]
    ·rw [if_neg e,if_neg e]
def tab (f:α→Value) (L:List (ByteArray × α)):MTab:=fun s=>(iQ L (mkB s)).map f
theorem zS4 (f:α→Value) (L:List (ByteArray × α)) (s:ByteArray):tab f L s.data.toList=(iQ L s).map f:=by rw [tab,pC]
theorem zB2 {q:List UInt8} {s:ByteArray}:mkB q=s↔q=s.data.toList:=by
 constructor
 ·rintro rfl;rfl
 ·rintro rfl;exact pC s
theorem zPd (f:α→Value) (L:List (ByteArray × α)) (s:ByteArray) (x:α):(tab f L).put s.data.toList (f x)=tab f (put s x L):=by
 funext q
 simp only [MTab.put,tab,qX2]
 by_cases e:q=s.data.toList
 ·rw [if_pos e,if_pos (zB2.2 e)];rfl
 ·rw [if_neg e,if_neg (fun h=>e (zB2.1 h))]
end
def zPu (n:Int):Value:=.int .i64 n
theorem zLb (L:List (ByteArray × Int)) (s:ByteArray):zCd ((tab zPu L s.data.toList).getD (.int .i64 0))=.v (.int .i64 ((iQ L s).getD 0)):=by
 rw [zS4]
 cases iQ L s <;> rfl
structure Dk where
 L:List (ByteArray × Itm)
 R:List (ByteArray × Int)
 steps:Int
 stamps:Int
 armed:Int
 down:Bool
 n:Nat
 m:Nat
def Dk.new:Dk:=⟨[],[],0,0,-1,false,0,0⟩
def Dk.cells (d:Dk) (r1 r2:Nat):List HV:=[.v (.map (some r1)),.v (.map (some r2)),.v (.int .i64 d.steps),.v (.int .i64 d.stamps),.v (.int .i64 d.armed),.v (.bool d.down)]
def Dk.maps (d:Dk) (k r1 r2:Nat):MS:=[.map r1 k d.n (tab Itm.val d.L),.map r2 k d.m (tab zPu d.R)]
def zQg (p:ByteArray):Int:=if p={ data:=#[] } then 0 else (p.data.toList.count 47:Nat) + 1
def may (d:Dk) (p:ByteArray) (names:Int):Int:=if d.down then 14 else if pOk p 6=false∨zQg p≤names then 10 else 0
def qR0 (d:Dk):Int × Dk:=if d.armed=0 then (14,{ d with down:=true,armed:=-1 }) else (0,{ d with armed:=if 0 < d.armed then d.armed - 1 else d.armed,steps:=d.steps + 1 })
def qRh (d:Dk) (p:ByteArray):Itm:=(iQ d.L p).getD zWz
def has (d:Dk) (p:ByteArray):Bool:=(iQ d.L p).isSome
def under (d:Dk) (p:ByteArray):Bool:=decide (zQg p=1) || (qRh d (par p)).dir
def zU1 (d:Dk) (p:ByteArray) (x:Itm):Dk:={ d with stamps:=d.stamps + 1,L:=put p { x with stamp:=d.stamps + 1 } d.L,n:=d.n + 1 }
def qAm:List UInt8→Nat
|[]=>0
|c :: r=>if c=47 then 0 else qAm r + 1
def vol (p:ByteArray):ByteArray:=p.extract 0 (qAm p.data.toList)
def zRc (v:ByteArray):List (ByteArray × Itm)→Int
|[]=>0
|(p,x) :: r=>(if vol p=v then (x.data.size:Int) else 0) + zRc v r
def zWt (d:Dk) (v:ByteArray):Int:=zRc v d.L
def fA (d:Dk) (p:ByteArray) (more:Int):Bool:=match iQ d.R (vol p) with
|none=>true
|some n=>decide (more≤0) || decide (zWt d (vol p) + more≤n)
def zRb (d:Dk) (p s:ByteArray):Int × Dk :=
 if may d p 1≠0 then (may d p 1,d) else if under d p=false then (11,d) else if (qRh d p).dir=true then (12,d) else if fA d p ((s.size:Int) - (qRh d p).data.size)=false then (13,d) else
  if (qR0 d).1≠0 then qR0 d else (0,zU1 (qR0 d).2 p { qRh d p with data:=s,loose:=true,anew:=true })
def zTp (d:Dk) (p:ByteArray):Int:=if may d p 1≠0 then may d p 1 else if has d p=false then 11 else if (qRh d p).dir=true then 12 else 0
def append (d:Dk) (p s:ByteArray):Int × Dk :=
 if zTp d p≠0 then (zTp d p,d) else if fA d p s.size=false then (13,d) else if (qR0 d).1≠0 then qR0 d else
  (0,zU1 (qR0 d).2 p { qRh d p with data:=(qRh d p).data ++ s,loose:=true })
def zWx (d:Dk) (p:ByteArray):Int:=if has d p=false then 0 else if (qRh d p).dir=true then 1 else 2
section
variable {α:Type}
def qKm (L:List (ByteArray × α)):Prop:=L.Pairwise fun a b=>blt a.1 b.1=true
theorem qKu {s:ByteArray} {x:α} {e:ByteArray × α}:∀ {L:List (ByteArray × α)},e ∈ put s x L→e=(s,x)∨e ∈ L
|[],h=>by simp only [put,List.mem_singleton] at h;exact .inl h
|(t,y) :: r,h=>by
  simp only [put] at h;split at h
  ·rcases List.mem_cons.1 h with h|h
   ·exact .inl h
   ·exact .inr (List.mem_cons_of_mem _ h)
  ·split at h
   ·rcases List.mem_cons.1 h with h|h
    ·exact .inl h
    ·exact .inr h
   ·rcases List.mem_cons.1 h with h|h
    ·exact .inr (by simp [h])
    ·rcases qKu h with h|h
     ·exact .inl h
     ·exact .inr (List.mem_cons_of_mem _ h)
theorem qXd (s:ByteArray) (x:α):∀ {L:List (ByteArray × α)},qKm L→qKm (put s x L)
|[],_=>by simp [put,qKm]
|(t,y) :: r,h=>by
  obtain ⟨h1,h2⟩:=List.pairwise_cons.1 h;simp only [put];split
  ·rename_i e;subst e;exact List.pairwise_cons.2 ⟨h1,h2⟩
  ·rename_i hne;split
   ·rename_i hb;refine List.pairwise_cons.2 ⟨fun e he=>?_,h⟩
    rw [zGl] at hb
    rcases List.mem_cons.1 he with rfl|he
    ·exact hb
    ·exact kK hb (h1 e he)
   ·rename_i hb;rw [zGl] at hb;refine List.pairwise_cons.2 ⟨fun e he=>?_,qXd s x h2⟩
    rcases qKu he with rfl|he
    ·rcases uS t s with h|h|h
     ·exact h
     ·exact absurd h hne
     ·exact absurd h hb
    ·exact h1 e he
theorem qHe {s:ByteArray} {x:α}:∀ {L:List (ByteArray × α)},iQ L s=some x→(s,x) ∈ L
|[],h=>by simp [iQ] at h
|(t,y) :: r,h=>by
  simp only [iQ] at h;split at h
  ·rename_i e;subst e;simp only [Option.some.injEq] at h;simp [h]
  ·exact List.mem_cons_of_mem _ (qHe h)
theorem qS5 {s:ByteArray} {x:α}:∀ {L:List (ByteArray × α)},qKm L→(s,x) ∈ L→iQ L s=some x
|[],_,h=>by simp at h
|(t,y) :: r,hR,h=>by
  obtain ⟨h1,h2⟩:=List.pairwise_cons.1 hR;simp only [iQ]
  rcases List.mem_cons.1 h with h|h
  ·cases h;rw [if_pos rfl]
  ·rw [if_neg (fun e=>by subst e;have:=h1 _ h;rw [fD] at this;cases this)]
   exact qS5 h2 h
end
def tot:List (ByteArray × Itm)→Int
|[]=>0
|(_,x) :: r=>(x.data.size:Int) + tot r
theorem tF {a b:ByteArray} (h:a.data.toList=b.data.toList):a=b:=by rw [← pC a,← pC b,h]
structure Dk.Ok (d:Dk) (B:Int):Prop where
 rise:qKm d.L
 keys:∀ e ∈ d.L,e.1.size≤1048576
 size:tot d.L≤B
 n:(d.n:Int)≤B
 m:(d.m:Int)≤B
 steps:0≤d.steps∧d.steps≤B
 stamps:0≤d.stamps∧d.stamps≤B
 armed:-1≤d.armed∧d.armed≤9223372036854775807
end Go.Dk
end
section
set_option maxRecDepth 20000
namespace Go.Proofs.YtbdomkfdkfdfgaaGreatDoor
open Go Go.Eng Go.RowKit Go.Tr Go.Dk
abbrev kS:TypeId:=9
theorem mtL:MapTy Tryz.prog 90 9 3 (.int .i64 0):=⟨by kernel_rfl,by kernel_rfl,fun w=>by kernel_rfl⟩
end Go.Proofs.YtbdomkfdkfdfgaaGreatDoor
end
section
namespace Go.Eng
open Go Go.RowKit Go.Maps
structure HeadM (P:Program) (N:Nat) (ops:List Oper) (E0:aK) (st:aD) (g:MS) (hs:Nat→HV) (i:Nat) (o:Oper):Prop where
 lt:jT N o.dst
 head:∃ T:aK,FrOk ops E0 hs i T∧(∀ t h,hlk T t=some h→t ∈ o.looksAt ops.toArray)∧∀ (c:Ctx) (l:Env) (w:World) (ρ:Nat→Value) (xs:Nat→List Value),Good c ⟨T,st⟩ (lk l) w ρ xs→MsOk P c w g →
  ∃ b,gd l (cT ops) o.guard (·=b)∧(b=true→Yields P (execOp (evD l) o) w fun u w'=>RepH w' (c.A ρ st) c.n0 ρ u (hs i)∧Below w.heap.size w w')∧(b=false→hs i=.v undef)
theorem HeadM.congr {P:Program} {N:Nat} {ops:List Oper} {E0:aK} {st:aD} {g:MS} {hs hs':Nat→HV} {i:Nat} {o:Oper} (h:HeadM P N ops E0 st g hs i o) (he:∀ j,j≤i→hs' j=hs j):HeadM P N ops E0 st g hs' i o:=by
 obtain ⟨T,TF,TS,run⟩:=h.head;refine ⟨h.lt,T,TF.congr fun j hj=>he j (by omega),TS,?_⟩
 rw [he i (Nat.le_refl _)];exact run
section
variable {P:Program} {N:Nat} {all:List Oper} {g:MS} {K:HS→Prop} {n i:Nat} {S:HS} {Q:uT}
end
end Go.Eng
end
section
set_option maxRecDepth 20000
namespace Go.Proofs.YtbdomkfdkfdfgaaGreatDoor
open Go Go.Eng Go.RowKit Go.Tr Go.Dk
theorem qDq:∀ (l:List UInt8),(Lib.indexByte l 47=-1∧qAm l=l.length)∨(Lib.indexByte l 47=(qAm l:Int)∧qAm l < l.length)
|[]=>.inl ⟨rfl,rfl⟩
|c :: r=>by
  rw [Lib.indexByte,qAm]
  by_cases h:c=47
  ·subst h
   right
   simp
  ·have hc:(c == 47)=false:=beq_eq_false_iff_ne.2 h
   rw [hc,if_neg h]
   rcases qDq r with ⟨a,b⟩|⟨a,b⟩
   ·left
    rw [a,b];exact ⟨rfl,by simp⟩
   ·right
    rw [a]
    have:((qAm r:Int) == -1)=false:=beq_eq_false_iff_ne.2 (by omega)
    rw [this];simp only [Bool.false_eq_true,if_false,List.length_cons];exact ⟨rfl,by omega⟩
theorem zJv {p:ByteArray} (h:Lib.indexByte p.data.toList 47=-1):vol p=p:=by
 rcases qDq p.data.toList with ⟨a,b⟩|⟨a,b⟩
 ·rw [vol,b,← Lib.size_eq];exact ByteArray.extract_zero_size
 ·omega
def aft (p:ByteArray):ByteArray:=if qAm p.data.toList < p.size then p.extract (qAm p.data.toList + 1) p.size else { data:=#[] }
def fnd (p:ByteArray):Bool:=decide (qAm p.data.toList < p.size)
set_option maxHeartbeats 1000000 in
theorem zVx (s:ByteArray) (hs:s.size≤1048576):HFun Tryz.prog 104 [.v (.string s),.v (.string { data:=#[47] })] (fun h st=>h=.tup ([.string (vol s),.string (aft s),.bool (fnd s)].map .v)):=by
 refine eX (N:=23) Tryz.func104 rfl Tryz.ntmps104 Tryz.results104 (by simp) ?_
 have hc:=qW4 s
 unfold aft fnd
 rcases qDq s.data.toList with ⟨a,b⟩|⟨a,b⟩
 ·rw [a] at hc;rw [← Lib.size_eq] at b;refine zE ?_;refine zJ (fun K hK=>?_);simp (disch:=omega) only [push_cast,↓Int.cast_ofNat_Int,simprocAttr];refine hK _ ?_;clear hK K
  refine zE ?_;refine zE ?_;refine zJ (fun K hK=>?_);simp (disch:=omega) only [push_cast,↓Int.cast_ofNat_Int,simprocAttr]
  refine bE zNi hc (.cons (.v _) (.cons (.v _) .nil)) ?_;with_reducible refine aB ?_;simp (disch:=omega) only [push_cast,↓Int.cast_ofNat_Int,simprocAttr]
  refine hK _ ?_;clear hK K;refine zE ?_;refine zJ (fun K hK=>?_);simp (disch:=omega) only [push_cast,↓Int.cast_ofNat_Int,simprocAttr];refine hK _ ?_;clear hK K
  refine zA ?_;refine yC rfl ?_;refine zC ?_;refine zE ?_;refine zJ (fun K hK=>?_);simp (disch:=omega) only [push_cast,↓Int.cast_ofNat_Int,simprocAttr];refine hK _ ?_;clear hK K
  refine zA ?_;refine zW ?_;simp only [yA,yM,yH,yE,aA,aC,yK,yJ,zS,zM,Nat.reduceEqDiff,reduceIte,reduceCtorEq];refine qNe ?_;rw [zJv a,b];simp
 ·rw [a] at hc;rw [← Lib.size_eq] at b;obtain ⟨k,hk⟩:∃ k,qAm s.data.toList=k:=⟨_,rfl⟩
  have hv:vol s=s.extract 0 k:=by rw [vol,hk]
  rw [hk] at hc b ⊢;rw [hv,if_pos b];refine zE ?_;refine zJ (fun K hK=>?_);simp (disch:=omega) only [push_cast,↓Int.cast_ofNat_Int,simprocAttr];refine hK _ ?_;clear hK K
  refine zE ?_;refine zE ?_;refine zJ (fun K hK=>?_);simp (disch:=omega) only [push_cast,↓Int.cast_ofNat_Int,simprocAttr]
  refine bE zNi hc (.cons (.v _) (.cons (.v _) .nil)) ?_;with_reducible refine aB ?_;simp (disch:=omega) only [push_cast,↓Int.cast_ofNat_Int,simprocAttr]
  refine hK _ ?_;clear hK K;refine zE ?_;refine zJ (fun K hK=>?_);simp (disch:=omega) only [push_cast,↓Int.cast_ofNat_Int,simprocAttr];refine hK _ ?_;clear hK K
  refine zA ?_;refine qC5 rfl (fun _=>?_) (fun hf=>by simp at hf)
  refine zE ?_;refine HW_drw 10 mixed (by kernel_rfl) (fun K hK=>?_);simp (disch:=omega) only [push_cast,↓Int.cast_ofNat_Int,simprocAttr,tU]
  refine ⟨by omega,by omega,?_⟩
  with_reducible refine aB ?_;simp (disch:=omega) only [push_cast,↓Int.cast_ofNat_Int,simprocAttr]
  refine hK _ ?_;clear hK K;refine zA ?_;refine zW ?_;refine zK ?_;simp only [yA,yM,yH,yE,aA,aC,yK,yJ,zS,zM,Nat.reduceEqDiff,reduceIte,reduceCtorEq];refine qNe ?_;simp [b]
set_option maxHeartbeats 1000000 in
theorem zS7 (s:ByteArray) (hs:s.size≤1048576):HFun Tryz.prog 74 [.v (.string s),.v (.string { data:=#[47] })] (fun h st=>h=.tup ([.string (vol s),.string (aft s),.bool (fnd s)].map .v)):=by
 refine eX (N:=13) Tryz.func74 rfl Tryz.ntmps74 Tryz.results74 (by simp) ?_
 refine zE ?_;refine zJ (fun K hK=>?_);simp (disch:=omega) only [push_cast,↓Int.cast_ofNat_Int,simprocAttr];refine hK _ ?_;clear hK K
 refine zE ?_;refine zJ (fun K hK=>?_);simp (disch:=omega) only [push_cast,↓Int.cast_ofNat_Int,simprocAttr]
 refine zL6 zWb (zVx s hs) (.cons (.v _) (.cons (.v _) .nil)) ?_;with_reducible refine aB ?_;simp (disch:=omega) only [push_cast,↓Int.cast_ofNat_Int,simprocAttr]
 refine hK _ ?_;clear hK K;refine zA ?_;refine zW ?_;simp only [yA,yM,yH,yE,aA,aC,yK,yJ,zS,zM,Nat.reduceEqDiff,reduceIte,reduceCtorEq];exact qNe rfl
theorem mx {s:ByteArray} (h:s.size≤1048576):s.size≤maxLen:=Nat.le_trans h (by decide)
end Go.Proofs.YtbdomkfdkfdfgaaGreatDoor
end
