/-
  Plain: a disk: items by path, limits by volume; what its calls make of it.
-/
import Derived.Test.YtdmnijnogabchaaDoorTrC
import Derived.Test.YtdmnijnogabchaaDoorMq
set_option linter.unusedSimpArgs false
set_option linter.unusedVariables false
namespace Go.Dk
open Go Go.Tr Go.Eng
structure Itm where
 dir:Bool
 data:ByteArray
 kept:ByteArray
 loose:Bool
 anew:Bool
 stamp:Int
def Itm.val (x:Itm):Value:=.agg #[.bool x.dir,.string x.data,.string x.kept,.bool x.loose,.bool x.anew,.int .i64 x.stamp]
def Itm.hv (x:Itm):HV:=.agg [.v (.bool x.dir),.v (.string x.data),.v (.string x.kept),.v (.bool x.loose),.v (.bool x.anew),.v (.int .i64 x.stamp)]
def itm0:Itm:=⟨false,ByteArray.empty,ByteArray.empty,false,false,0⟩
def qS5:Itm:=⟨true,ByteArray.empty,ByteArray.empty,false,false,0⟩
section
variable {α:Type}
def bM:List (ByteArray × α)→ByteArray→Option α
|[],_=>none
|(t,x) :: r,s=>if t=s then some x else bM r s
def zJp (a b:ByteArray):Bool:=Op.bytesLess a.data.toList b.data.toList
theorem qAn (a b:ByteArray):zJp a b=blt a b:=by rw [blt,zJp,Lib.toList_data,Lib.toList_data]
def put (s:ByteArray) (x:α):List (ByteArray × α)→List (ByteArray × α)
|[]=>[(s,x)]
|(t,y) :: r=>if t=s then (s,x) :: r else if zJp s t then (s,x) :: (t,y) :: r else (t,y) :: put s x r
def del (s:ByteArray):List (ByteArray × α)→List (ByteArray × α)
|[]=>[]
|(t,y) :: r=>if t=s then del s r else (t,y) :: del s r
theorem qSv (s:ByteArray) (x:α) (u:ByteArray):∀ (L:List (ByteArray × α)),bM (put s x L) u=if u=s then some x else bM L u
|[]=>by
  simp only [put,bM]
  by_cases e:u=s
  ·subst e;simp
  ·rw [if_neg (fun h=>e h.symm),if_neg e]
|(t,y) :: r=>by
  simp only [put]
  by_cases h1:t=s
  ·subst h1;rw [if_pos rfl];simp only [bM]
   by_cases e:t=u
   ·subst e;simp
   ·rw [if_neg e,if_neg (fun h=>e h.symm),if_neg e]
  ·rw [if_neg h1];split
   ·simp only [bM]
    by_cases e:s=u
    ·subst e;simp
    ·rw [if_neg e,if_neg (show ¬ u=s from fun h=>e h.symm)]
   ·simp only [bM];rw [qSv s x u r]
    by_cases e:t=u
    ·subst e;simp [h1]
    ·rw [if_neg e,if_neg e]
theorem qGk (s u:ByteArray):∀ (L:List (ByteArray × α)),bM (del s L) u=if u=s then none else bM L u
|[]=>by simp [del,bM]
|(t,y) :: r=>by
  simp only [del]
  by_cases h1:t=s
  ·subst h1;rw [if_pos rfl,qGk t u r];simp only [bM]
   by_cases e:t=u
   ·subst e;simp
   ·rw [if_neg (fun h=>e h.symm),if_neg (fun h=>e h.symm),if_neg e]
  ·rw [if_neg h1];simp only [bM];rw [qGk s u r]
   by_cases e:t=u
   ·subst e;simp [h1]
   ·rw [if_neg e,if_neg e]
def tab (f:α→Value) (L:List (ByteArray × α)):MTab:=fun s=>(bM L (mkB s)).map f
theorem uK (f:α→Value) (L:List (ByteArray × α)) (s:ByteArray):tab f L s.data.toList=(bM L s).map f:=by rw [tab,gP]
theorem qWn {q:List UInt8} {s:ByteArray}:mkB q=s↔q=s.data.toList:=by
 constructor
 ·rintro rfl;rfl
 ·rintro rfl;exact gP s
theorem wS (f:α→Value) (L:List (ByteArray × α)) (s:ByteArray) (x:α):(tab f L).put s.data.toList (f x)=tab f (put s x L):=by
 funext q
 simp only [MTab.put,tab,qSv]
 by_cases e:q=s.data.toList
 ·rw [if_pos e,if_pos (qWn.2 e)];rfl
 ·rw [if_neg e,if_neg (fun h=>e (qWn.1 h))]
end
def gN (n:Int):Value:=.int .i64 n
theorem oN (L:List (ByteArray × Itm)) (s:ByteArray):xX ((tab Itm.val L s.data.toList).getD itm0.val)=((bM L s).getD itm0).hv:=by
 rw [uK]
 cases bM L s <;> rfl
theorem rW (L:List (ByteArray × Itm)) (s:ByteArray):(tab Itm.val L s.data.toList).isSome=(bM L s).isSome:=by rw [uK,Option.isSome_map]
theorem qSs (L:List (ByteArray × Int)) (s:ByteArray):xX ((tab gN L s.data.toList).getD (.int .i64 0))=.v (.int .i64 ((bM L s).getD 0)):=by
 rw [uK]
 cases bM L s <;> rfl
theorem zDc (L:List (ByteArray × Int)) (s:ByteArray):(tab gN L s.data.toList).isSome=(bM L s).isSome:=by rw [uK,Option.isSome_map]
theorem mG (x:Itm):x.hv=.agg [.v (.bool x.dir),.v (.string x.data),.v (.string x.kept),.v (.bool x.loose),.v (.bool x.anew),.v (.int .i64 x.stamp)]:=(fun h=>h) rfl
structure Dk where
 L:List (ByteArray × Itm)
 R:List (ByteArray × Int)
 steps:Int
 stamps:Int
 armed:Int
 down:Bool
 n:Nat
 m:Nat
def Dk.new:Dk:=⟨[],[],0,0,-1,false,0,0⟩
def Dk.cells (d:Dk) (r1 r2:Nat):List HV:=[.v (.map (some r1)),.v (.map (some r2)),.v (.int .i64 d.steps),.v (.int .i64 d.stamps),.v (.int .i64 d.armed),.v (.bool d.down)]
theorem bW (d:Dk) (r1 r2:Nat):d.cells r1 r2=[.v (.map (some r1)),.v (.map (some r2)),.v (.int .i64 d.steps),.v (.int .i64 d.stamps),.v (.int .i64 d.armed),.v (.bool d.down)]:=(fun h=>h) rfl
def Dk.maps (d:Dk) (k r1 r2:Nat):MS:=[.map r1 k d.n (tab Itm.val d.L),.map r2 k d.m (tab gN d.R)]
def qK4 (p:ByteArray):Int:=if p={ data:=#[] } then 0 else (p.data.toList.count 47:Nat) + 1
def may (d:Dk) (p:ByteArray) (names:Int):Int:=if d.down then 14 else if pOk p 6=false∨qK4 p≤names then 10 else 0
def dR (d:Dk):Int × Dk:=if d.armed=0 then (14,{ d with down:=true,armed:=-1 }) else (0,{ d with armed:=if 0 < d.armed then d.armed - 1 else d.armed,steps:=d.steps + 1 })
def fM (d:Dk) (p:ByteArray):Itm:=(bM d.L p).getD itm0
def has (d:Dk) (p:ByteArray):Bool:=(bM d.L p).isSome
def qCc (d:Dk) (p:ByteArray):Bool:=decide (qK4 p=1) || (fM d (par p)).dir
def qV5 (d:Dk) (p:ByteArray) (x:Itm):Dk:={ d with stamps:=d.stamps + 1,L:=put p { x with stamp:=d.stamps + 1 } d.L,n:=d.n + 1 }
def qD9:List UInt8→Nat
|[]=>0
|c :: r=>if c=47 then 0 else qD9 r + 1
def vol (p:ByteArray):ByteArray:=p.extract 0 (qD9 p.data.toList)
def qXq (v:ByteArray):List (ByteArray × Itm)→Int
|[]=>0
|(p,x) :: r=>(if vol p=v then (x.data.size:Int) else 0) + qXq v r
def used (d:Dk) (v:ByteArray):Int:=qXq v d.L
def zAu (d:Dk) (p:ByteArray) (more:Int):Bool:=match bM d.R (vol p) with
|none=>true
|some n=>decide (more≤0) || decide (used d (vol p) + more≤n)
def mD (d:Dk) (p:ByteArray):Int × Dk :=
 if may d p 0≠0 then (may d p 0,d) else if qCc d p=false then (11,d) else if has d p=true∧(fM d p).dir=false then (12,d) else
  if (dR d).1≠0 then dR d else (0,{ (dR d).2 with L:=put p qS5 d.L,n:=d.n + 1 })
def jW (d:Dk) (p s:ByteArray):Int × Dk :=
 if may d p 1≠0 then (may d p 1,d) else if qCc d p=false then (11,d) else if (fM d p).dir=true then (12,d) else if zAu d p ((s.size:Int) - (fM d p).data.size)=false then (13,d) else
  if (dR d).1≠0 then dR d else (0,qV5 (dR d).2 p { fM d p with data:=s,loose:=true,anew:=true })
def qU0 (d:Dk) (p:ByteArray):Int:=if may d p 1≠0 then may d p 1 else if has d p=false then 11 else if (fM d p).dir=true then 12 else 0
def append (d:Dk) (p s:ByteArray):Int × Dk :=
 if qU0 d p≠0 then (qU0 d p,d) else if zAu d p s.size=false then (13,d) else if (dR d).1≠0 then dR d else
  (0,qV5 (dR d).2 p { fM d p with data:=(fM d p).data ++ s,loose:=true })
def nB (d:Dk) (p:ByteArray):ByteArray × Int:=if d.down then (ByteArray.empty,14) else if has d p=false then (ByteArray.empty,11) else if (fM d p).dir=true then (ByteArray.empty,12) else ((fM d p).data,0)
def tN (d:Dk) (p:ByteArray):Int:=if has d p=false then 0 else if (fM d p).dir=true then 1 else 2
section
variable {α:Type}
def pM (L:List (ByteArray × α)):Prop:=L.Pairwise fun a b=>blt a.1 b.1=true
theorem qQ4 {s:ByteArray} {x:α} {e:ByteArray × α}:∀ {L:List (ByteArray × α)},e ∈ put s x L→e=(s,x)∨e ∈ L
|[],h=>by simp only [put,List.mem_singleton] at h;exact .inl h
|(t,y) :: r,h=>by
  simp only [put] at h;split at h
  ·rcases List.mem_cons.1 h with h|h
   ·exact .inl h
   ·exact .inr (List.mem_cons_of_mem _ h)
  ·split at h
   ·rcases List.mem_cons.1 h with h|h
    ·exact .inl h
    ·exact .inr h
   ·rcases List.mem_cons.1 h with h|h
    ·exact .inr (by simp [h])
    ·rcases qQ4 h with h|h
     ·exact .inl h
     ·exact .inr (List.mem_cons_of_mem _ h)
theorem xF (s:ByteArray) (x:α):∀ {L:List (ByteArray × α)},pM L→pM (put s x L)
|[],_=>by simp [put,pM]
|(t,y) :: r,h=>by
  obtain ⟨h1,h2⟩:=List.pairwise_cons.1 h;simp only [put];split
  ·rename_i e;subst e;exact List.pairwise_cons.2 ⟨h1,h2⟩
  ·rename_i hne;split
   ·rename_i hb;refine List.pairwise_cons.2 ⟨fun e he=>?_,h⟩
    rw [qAn] at hb
    rcases List.mem_cons.1 he with rfl|he
    ·exact hb
    ·exact lS hb (h1 e he)
   ·rename_i hb;rw [qAn] at hb;refine List.pairwise_cons.2 ⟨fun e he=>?_,xF s x h2⟩
    rcases qQ4 he with rfl|he
    ·rcases qAm t s with h|h|h
     ·exact h
     ·exact absurd h hne
     ·exact absurd h hb
    ·exact h1 e he
theorem fX {s:ByteArray} {x:α}:∀ {L:List (ByteArray × α)},bM L s=some x→(s,x) ∈ L
|[],h=>by simp [bM] at h
|(t,y) :: r,h=>by
  simp only [bM] at h;split at h
  ·rename_i e;subst e;simp only [Option.some.injEq] at h;simp [h]
  ·exact List.mem_cons_of_mem _ (fX h)
theorem jE {s:ByteArray} {x:α}:∀ {L:List (ByteArray × α)},pM L→(s,x) ∈ L→bM L s=some x
|[],_,h=>by simp at h
|(t,y) :: r,hR,h=>by
  obtain ⟨h1,h2⟩:=List.pairwise_cons.1 hR;simp only [bM]
  rcases List.mem_cons.1 h with h|h
  ·cases h;rw [if_pos rfl]
  ·rw [if_neg (fun e=>by subst e;have:=h1 _ h;rw [jU] at this;cases this)]
   exact jE h2 h
end
theorem qRa (x:Itm):xX x.val=x.hv:=rfl
def tot:List (ByteArray × Itm)→Int
|[]=>0
|(_,x) :: r=>(x.data.size:Int) + tot r
def iS (left:List UInt8→Bool) (v:ByteArray):List (ByteArray × Itm)→Int
|[]=>0
|(p,x) :: r=>(if left p.data.toList=false∧vol p=v then (x.data.size:Int) else 0) + iS left v r
theorem qQb:∀ L,0≤tot L
|[]=>Int.le_refl _
|(_,x) :: r=>by have:=qQb r;rw [tot];omega
theorem wN (left:List UInt8→Bool) (v:ByteArray):∀ L,0≤iS left v L∧iS left v L≤tot L
|[]=>⟨Int.le_refl _,Int.le_refl _⟩
|(p,x) :: r=>by
  have:=wN left v r
  rw [iS,tot];split <;> omega
theorem qEc {left:List UInt8→Bool} (v:ByteArray):∀ {L:List (ByteArray × Itm)},(∀ e ∈ L,left e.1.data.toList=true)→iS left v L=0
|[],_=>rfl
|(p,x) :: r,h=>by
  rw [iS,qEc v fun e he=>h e (List.mem_cons_of_mem _ he),if_neg (by simp [h (p,x) (by simp)])];rfl
theorem qAu {left:List UInt8→Bool} (v:ByteArray) (h:∀ s,left s=false):∀ (L:List (ByteArray × Itm)),iS left v L=qXq v L
|[]=>rfl
|(p,x) :: r=>by
  rw [iS,qXq,qAu v h r];simp [h]
theorem pG {a b:ByteArray} (h:a.data.toList=b.data.toList):a=b:=by rw [← gP a,← gP b,h]
theorem qEb {left:List UInt8→Bool} {s v:ByteArray}:∀ {L:List (ByteArray × Itm)},(∀ e ∈ L,e.1≠s)→iS (fun q=>left q && !(q == s.data.toList)) v L=iS left v L
|[],_=>rfl
|(p,x) :: r,h=>by
  rw [iS,iS,qEb fun e he=>h e (List.mem_cons_of_mem _ he)]
  have:(p.data.toList == s.data.toList)=false:=beq_eq_false_iff_ne.2 fun e=>h (p,x) (by simp) (pG e)
  simp [this]
theorem qEa {left:List UInt8→Bool} {s v:ByteArray} {x:Itm} (hl:left s.data.toList=true):∀ {L:List (ByteArray × Itm)},pM L→(s,x) ∈ L →
  iS (fun q=>left q && !(q == s.data.toList)) v L=iS left v L + (if vol s=v then (x.data.size:Int) else 0)
|[],_,h=>by simp at h
|(p,y) :: r,hR,h=>by
  obtain ⟨h1,h2⟩:=List.pairwise_cons.1 hR;rw [iS,iS]
  by_cases e:p=s
  ·subst e
   have hm:(p,x)=(p,y):=by
    rcases List.mem_cons.1 h with h|h
    ·exact h
    ·have:=h1 _ h;rw [jU] at this;cases this
   cases hm
   rw [qEb fun e he=>fun e'=>by have:=h1 e he;rw [e',jU] at this;cases this]
   simp [hl];omega
  ·have hm:(s,x) ∈ r:=by
    rcases List.mem_cons.1 h with h|h
    ·cases h;exact absurd rfl e
    ·exact h
   rw [qEa hl h2 hm]
   have:(p.data.toList == s.data.toList)=false:=beq_eq_false_iff_ne.2 fun e'=>e (pG e')
   simp [this];omega
theorem qXs {s:ByteArray} {x:Itm}:∀ {L:List (ByteArray × Itm)},(s,x) ∈ L→(x.data.size:Int)≤tot L
|[],h=>by simp at h
|(p,y) :: r,h=>by
  have:=qQb r
  rcases List.mem_cons.1 h with h|h
  ·cases h;rw [tot];omega
  ·have:=qXs h;rw [tot];omega
theorem zBa (d:Dk) (p:ByteArray):((fM d p).data.size:Int)≤tot d.L:=by
 unfold fM
 cases h:bM d.L p with
|none=>exact qQb _
|some x=>exact qXs (fX h)
structure Dk.Ok (d:Dk) (B:Int):Prop where
 rise:pM d.L
 keys:∀ e ∈ d.L,e.1.size≤1048576
 size:tot d.L≤B
 n:(d.n:Int)≤B
 m:(d.m:Int)≤B
 steps:0≤d.steps∧d.steps≤B
 stamps:0≤d.stamps∧d.stamps≤B
 armed:-1≤d.armed∧d.armed≤9223372036854775807
end Go.Dk
