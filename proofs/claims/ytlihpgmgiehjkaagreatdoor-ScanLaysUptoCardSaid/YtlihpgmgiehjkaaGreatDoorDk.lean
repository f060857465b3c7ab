/-
  Plain: a disk: items by path, limits by volume; what its calls make of it.
-/
import Derived.Test.YtlihpgmgiehjkaaGreatDoorMen
import Derived.Test.YtlihpgmgiehjkaaGreatDoorTyS
import Derived.Test.YtlihpgmgiehjkaaGreatDoorMu
import Derived.Test.YtlihpgmgiehjkaaGreatDoorTrC
import Derived.Test.YtlihpgmgiehjkaaGreatDoorMq
set_option linter.unusedSimpArgs false
set_option linter.unusedVariables false
section
set_option maxRecDepth 20000
namespace Go.Proofs.YtlihpgmgiehjkaaGreatDoor
open Go Go.Eng Go.RowKit Go.Maps Go.WideMaps
def qSv (p:ByteArray) (n:Int):List UInt8:=keyBytes [.string p.data.toList,.int .i64 n]
theorem zSn:laidOutB Tryz.prog=true:=by kernel_rfl
theorem law85:KeyLaw Tryz.prog 85:=deep_law_laid zSn (m:=2) (by omega) (of_decide_eq_true (by kernel_rfl)) (by kernel_rfl) (by rw [Tryz.underlying85])
theorem qC0 {p:ByteArray} {n:Int} (hp:p.size≤maxLen) (hn:(Lit.int .i64 n).wf=true):keyOf Tryz.prog 85 (.agg #[.string p,.int .i64 n])=some (.string (qSv p n)):=by
 have hk:Tryz.prog.keyType 85=true:=by kernel_rfl
 have hc:Tryz.prog.cellsOf 85=2:=by kernel_rfl
 have hc9:Tryz.prog.cellsOf 9=1:=by kernel_rfl
 have hc3:Tryz.prog.cellsOf 3=1:=by kernel_rfl
 have hf:(Value.agg #[.string p,.int .i64 n]).formed Tryz.prog 85=true:=by simp [Value.formed,Tryz.underlying85,hc]
 obtain ⟨m,hm⟩:∃ m,Tryz.prog.types.size=m + 1:=⟨Tryz.prog.types.size - 1,by have:(85:Nat) < Tryz.prog.types.size:=of_decide_eq_true (by kernel_rfl);omega⟩
 have k9:∀ s:ByteArray,s.size≤maxLen→Program.keyLits Tryz.prog (m + 1) 9 [.string s]=some [.string s.data.toList]:=fun s hs=>by
  unfold Program.keyLits;rw [Tryz.underlying9];simp [hs]
 have k3:Program.keyLits Tryz.prog (m + 1) 3 [.int .i64 n]=some [.int .i64 n]:=by
  unfold Program.keyLits;rw [Tryz.underlying3];simp [hn]
 unfold keyOf;rw [Tryz.underlying85];simp only [hk,hf,Bool.and_self,if_true,Value.cells];rw [hm];unfold Program.keyLits;rw [Tryz.underlying85];simp [hc,hc9,hc3,List.take,List.drop,k9 p hp,k3,qSv]
theorem zF0 {p p':ByteArray} {n n':Int} (hp:p.size≤maxLen) (hn:(Lit.int .i64 n).wf=true) (hp':p'.size≤maxLen) (hn':(Lit.int .i64 n').wf=true) (h:qSv p n=qSv p' n'):p=p'∧n=n':=by
 have h1:=qC0 hp hn
 rw [h] at h1
 have:=law85.inj h1 (qC0 hp' hn')
 simpa using this
end Go.Proofs.YtlihpgmgiehjkaaGreatDoor
end
section
namespace Go.Eng
open Go Go.RowKit Go.Maps
theorem aE (v:Option Value) (z:Value):qJ v z true=.tup [qC6 (v.getD z),.v (.bool v.isSome)]:=nr rfl
theorem aD (v:Option Value) (z:Value):qJ v z false=qC6 (v.getD z):=nr rfl
theorem qL0 (r:Option Nat):dC (.v (.map r))=some [.v (.map r)]:=nr rfl
theorem zA2 (r:Option Nat):(Value.map r).oneCell'=true:=nr rfl
theorem aJ (P:Program) (rs:List ResultVar) (st0:aF) (g0:MS) (R:HV→aF→MS→Prop) (g:MS) (S:HS):qZm P rs st0 g0 R .normal g S=kU P S rs fun hs=>qNs st0 g0 g S (sX hs) R:=nr rfl
theorem aP (P:Program) (rs:List ResultVar) (st0:aF) (g0:MS) (R:HV→aF→MS→Prop) (g:MS) (S:HS):qZm P rs st0 g0 R .ret g S=kU P S rs fun hs=>qNs st0 g0 g S (sX hs) R:=nr rfl
theorem cE (ids more:List Nat) {st0:aF} {g0 g:MS} {S:HS} {h:HV} {R:HV→aF→MS→Prop} (hm:bsL g=bsL g0 ++ more) (h1:ids.length≤8) (h2:dup ids=false) (h3:qGw S.st 0 ids) (h4:oG ids S.st st0) {h':HV} {st':aF} (h5:h.ren (pos ids)=h') (h6:iB (pos ids) S.st 0 ids=st') (q:R h' st' g):qNs st0 g0 g S h R :=
 ⟨⟨more,hm⟩,ids,h1,h2,h3,h4,by rw [h5,h6];exact q⟩
end Go.Eng
end
section
namespace Go.Dk
open Go Go.Tr Go.Eng
structure Itm where
 dir:Bool
 data:ByteArray
 kept:ByteArray
 loose:Bool
 anew:Bool
 stamp:Int
def Itm.val (x:Itm):Value:=.agg #[.bool x.dir,.string x.data,.string x.kept,.bool x.loose,.bool x.anew,.int .i64 x.stamp]
def Itm.hv (x:Itm):HV:=.agg [.v (.bool x.dir),.v (.string x.data),.v (.string x.kept),.v (.bool x.loose),.v (.bool x.anew),.v (.int .i64 x.stamp)]
def itm0:Itm:=⟨false,ByteArray.empty,ByteArray.empty,false,false,0⟩
def kB:Itm:=⟨true,ByteArray.empty,ByteArray.empty,false,false,0⟩
section
variable {α:Type}
def aH:List (ByteArray × α)→ByteArray→Option α
|[],_=>none
|(t,x) :: r,s=>if t=s then some x else aH r s
def zQ7 (a b:ByteArray):Bool:=Op.bytesLess a.data.toList b.data.toList
theorem lL (a b:ByteArray):zQ7 a b=blt a b:=by rw [blt,zQ7,Lib.toList_data,Lib.toList_data]
def put (s:ByteArray) (x:α):List (ByteArray × α)→List (ByteArray × α)
|[]=>[(s,x)]
|(t,y) :: r=>if t=s then (s,x) :: r else if zQ7 s t then (s,x) :: (t,y) :: r else (t,y) :: put s x r
def del (s:ByteArray):List (ByteArray × α)→List (ByteArray × α)
|[]=>[]
|(t,y) :: r=>if t=s then del s r else (t,y) :: del s r
theorem eX (s:ByteArray) (x:α) (u:ByteArray):∀ (L:List (ByteArray × α)),aH (put s x L) u=if u=s then some x else aH L u
|[]=>by
  simp only [put,aH]
  by_cases e:u=s
  ·subst e;simp
  ·rw [if_neg (fun h=>e h.symm),if_neg e]
|(t,y) :: r=>by
  simp only [put]
  by_cases h1:t=s
  ·subst h1;rw [if_pos rfl];simp only [aH]
   by_cases e:t=u
   ·subst e;simp
   ·rw [if_neg e,if_neg (fun h=>e h.symm),if_neg e]
  ·rw [if_neg h1];split
   ·simp only [aH]
    by_cases e:s=u
    ·subst e;simp
    ·rw [if_neg e,if_neg (show ¬ u=s from fun h=>e h.symm)]
   ·simp only [aH];rw [eX s x u r]
    by_cases e:t=u
    ·subst e;simp [h1]
    ·rw [if_neg e,if_neg e]
theorem kA (s u:ByteArray):∀ (L:List (ByteArray × α)),aH (del s L) u=if u=s then none else aH L u
|[]=>by simp [del,aH]
|(t,y) :: r=>by
  simp only [del]
  by_cases h1:t=s
  ·subst h1;rw [if_pos rfl,kA t u r];simp only [aH]
   by_cases e:t=u
   ·subst e;simp
   ·rw [if_neg (fun h=>e h.symm),if_neg (fun h=>e h.symm),if_neg e]
  ·rw [if_neg h1];simp only [aH];rw [kA s u r]
   by_cases e:t=u
   ·subst e;simp [h1]
   ·rw [if_neg e,if_neg e]
def tab (f:α→Value) (L:List (ByteArray × α)):MTab:=fun s=>(aH L (mkB s)).map f
theorem qA3 (f:α→Value) (L:List (ByteArray × α)) (s:ByteArray):tab f L s.data.toList=(aH L s).map f:=by rw [tab,iD]
theorem qKi {q:List UInt8} {s:ByteArray}:mkB q=s↔q=s.data.toList:=by
 constructor
 ·rintro rfl;rfl
 ·rintro rfl;exact iD s
theorem qBw (f:α→Value) (L:List (ByteArray × α)) (s:ByteArray) (x:α):(tab f L).put s.data.toList (f x)=tab f (put s x L):=by
 funext q
 simp only [MTab.put,tab,eX]
 by_cases e:q=s.data.toList
 ·rw [if_pos e,if_pos (qKi.2 e)];rfl
 ·rw [if_neg e,if_neg (fun h=>e (qKi.1 h))]
theorem zL4 (f:α→Value) (L:List (ByteArray × α)) (s:ByteArray):(tab f L).del s.data.toList=tab f (del s L):=by
 funext q
 simp only [MTab.del,tab,kA]
 by_cases e:q=s.data.toList
 ·rw [if_pos e,if_pos (qKi.2 e)];rfl
 ·rw [if_neg e,if_neg (fun h=>e (qKi.1 h))]
end
def gM (n:Int):Value:=.int .i64 n
theorem iG (L:List (ByteArray × Itm)) (s:ByteArray):qC6 ((tab Itm.val L s.data.toList).getD itm0.val)=((aH L s).getD itm0).hv:=by
 rw [qA3]
 cases aH L s <;> rfl
theorem oH (L:List (ByteArray × Itm)) (s:ByteArray):(tab Itm.val L s.data.toList).isSome=(aH L s).isSome:=by rw [qA3,Option.isSome_map]
theorem qU9 (L:List (ByteArray × Int)) (s:ByteArray):qC6 ((tab gM L s.data.toList).getD (.int .i64 0))=.v (.int .i64 ((aH L s).getD 0)):=by
 rw [qA3]
 cases aH L s <;> rfl
theorem zHg (L:List (ByteArray × Int)) (s:ByteArray):(tab gM L s.data.toList).isSome=(aH L s).isSome:=by rw [qA3,Option.isSome_map]
theorem iV (x:Itm):x.hv=.agg [.v (.bool x.dir),.v (.string x.data),.v (.string x.kept),.v (.bool x.loose),.v (.bool x.anew),.v (.int .i64 x.stamp)]:=(fun h=>h) rfl
structure Dk where
 L:List (ByteArray × Itm)
 R:List (ByteArray × Int)
 steps:Int
 stamps:Int
 armed:Int
 down:Bool
 n:Nat
 m:Nat
def Dk.new:Dk:=⟨[],[],0,0,-1,false,0,0⟩
def Dk.cells (d:Dk) (r1 r2:Nat):List HV:=[.v (.map (some r1)),.v (.map (some r2)),.v (.int .i64 d.steps),.v (.int .i64 d.stamps),.v (.int .i64 d.armed),.v (.bool d.down)]
theorem bM (d:Dk) (r1 r2:Nat):d.cells r1 r2=[.v (.map (some r1)),.v (.map (some r2)),.v (.int .i64 d.steps),.v (.int .i64 d.stamps),.v (.int .i64 d.armed),.v (.bool d.down)]:=(fun h=>h) rfl
def Dk.maps (d:Dk) (k r1 r2:Nat):MS:=[.map r1 k d.n (tab Itm.val d.L),.map r2 k d.m (tab gM d.R)]
def qDx (p:ByteArray):Int:=if p={ data:=#[] } then 0 else (p.data.toList.count 47:Nat) + 1
def may (d:Dk) (p:ByteArray) (names:Int):Int:=if d.down then 14 else if pOk p 6=false∨qDx p≤names then 10 else 0
def bJ (d:Dk):Int × Dk:=if d.armed=0 then (14,{ d with down:=true,armed:=-1 }) else (0,{ d with armed:=if 0 < d.armed then d.armed - 1 else d.armed,steps:=d.steps + 1 })
def aT (d:Dk) (p:ByteArray):Itm:=(aH d.L p).getD itm0
def has (d:Dk) (p:ByteArray):Bool:=(aH d.L p).isSome
def jB (d:Dk) (p:ByteArray):Bool:=decide (qDx p=1) || (aT d (par p)).dir
def pW (d:Dk) (p:ByteArray) (x:Itm):Dk:={ d with stamps:=d.stamps + 1,L:=put p { x with stamp:=d.stamps + 1 } d.L,n:=d.n + 1 }
def rK:List UInt8→Nat
|[]=>0
|c :: r=>if c=47 then 0 else rK r + 1
def vol (p:ByteArray):ByteArray:=p.extract 0 (rK p.data.toList)
def qN2 (v:ByteArray):List (ByteArray × Itm)→Int
|[]=>0
|(p,x) :: r=>(if vol p=v then (x.data.size:Int) else 0) + qN2 v r
def used (d:Dk) (v:ByteArray):Int:=qN2 v d.L
def qG0 (d:Dk) (p:ByteArray) (more:Int):Bool:=match aH d.R (vol p) with
|none=>true
|some n=>decide (more≤0) || decide (used d (vol p) + more≤n)
def dY (d:Dk) (p:ByteArray):Int × Dk :=
 if may d p 0≠0 then (may d p 0,d) else if jB d p=false then (11,d) else if has d p=true∧(aT d p).dir=false then (12,d) else
  if (bJ d).1≠0 then bJ d else (0,{ (bJ d).2 with L:=put p kB d.L,n:=d.n + 1 })
def cW (d:Dk) (p s:ByteArray):Int × Dk :=
 if may d p 1≠0 then (may d p 1,d) else if jB d p=false then (11,d) else if (aT d p).dir=true then (12,d) else if qG0 d p ((s.size:Int) - (aT d p).data.size)=false then (13,d) else
  if (bJ d).1≠0 then bJ d else (0,pW (bJ d).2 p { aT d p with data:=s,loose:=true,anew:=true })
def file (d:Dk) (p:ByteArray):Int:=if may d p 1≠0 then may d p 1 else if has d p=false then 11 else if (aT d p).dir=true then 12 else 0
def append (d:Dk) (p s:ByteArray):Int × Dk :=
 if file d p≠0 then (file d p,d) else if qG0 d p s.size=false then (13,d) else if (bJ d).1≠0 then bJ d else
  (0,pW (bJ d).2 p { aT d p with data:=(aT d p).data ++ s,loose:=true })
def nG (d:Dk) (p:ByteArray):Int × Dk :=
 if file d p≠0 then (file d p,d) else if (bJ d).1≠0 then bJ d else
  (0,{ (bJ d).2 with L:=put p { aT d p with kept:=(aT d p).data,loose:=false,anew:=false } d.L,n:=d.n + 1 })
def zGe (d:Dk) (a b:ByteArray):Int × Dk :=
 let e:=if may d a 1=0 then may d b 1 else may d a 1
 if e≠0 then (e,d) else
  let x:=aT d a
  let y:=aT d b
  let more:Int:=if vol a=vol b then -(y.data.size:Int) else x.data.size - y.data.size
  if has d a=false∨jB d b=false then (11,d) else if x.dir=true∨y.dir=true then (12,d) else if a≠b∧qG0 d b more=false then (13,d) else
   if (bJ d).1≠0 then bJ d else (0,pW { (bJ d).2 with L:=del a d.L } b x)
def zPj (d:Dk) (v:ByteArray) (k:Int):Int × Dk:=if k < 0 then (1,d) else if pOk v 1=false then (10,d) else (0,{ d with R:=put v k d.R,m:=d.m + 1 })
def lP (d:Dk) (p:ByteArray):ByteArray × Int:=if d.down then (ByteArray.empty,14) else if has d p=false then (ByteArray.empty,11) else if (aT d p).dir=true then (ByteArray.empty,12) else ((aT d p).data,0)
def iF (d:Dk) (p:ByteArray):Int:=if has d p=false then 0 else if (aT d p).dir=true then 1 else 2
section
variable {α:Type}
def dW (L:List (ByteArray × α)):Prop:=L.Pairwise fun a b=>blt a.1 b.1=true
theorem qG {s:ByteArray} {x:α} {e:ByteArray × α}:∀ {L:List (ByteArray × α)},e ∈ put s x L→e=(s,x)∨e ∈ L
|[],h=>by simp only [put,List.mem_singleton] at h;exact .inl h
|(t,y) :: r,h=>by
  simp only [put] at h;split at h
  ·rcases List.mem_cons.1 h with h|h
   ·exact .inl h
   ·exact .inr (List.mem_cons_of_mem _ h)
  ·split at h
   ·rcases List.mem_cons.1 h with h|h
    ·exact .inl h
    ·exact .inr h
   ·rcases List.mem_cons.1 h with h|h
    ·exact .inr (by simp [h])
    ·rcases qG h with h|h
     ·exact .inl h
     ·exact .inr (List.mem_cons_of_mem _ h)
theorem zF {s:ByteArray} {e:ByteArray × α}:∀ {L:List (ByteArray × α)},e ∈ del s L→e ∈ L
|[],h=>by simp [del] at h
|(t,y) :: r,h=>by
  simp only [del] at h;split at h
  ·exact List.mem_cons_of_mem _ (zF h)
  ·rcases List.mem_cons.1 h with h|h
   ·simp [h]
   ·exact List.mem_cons_of_mem _ (zF h)
theorem jS (s:ByteArray) (x:α):∀ {L:List (ByteArray × α)},dW L→dW (put s x L)
|[],_=>by simp [put,dW]
|(t,y) :: r,h=>by
  obtain ⟨h1,h2⟩:=List.pairwise_cons.1 h;simp only [put];split
  ·rename_i e;subst e;exact List.pairwise_cons.2 ⟨h1,h2⟩
  ·rename_i hne;split
   ·rename_i hb;refine List.pairwise_cons.2 ⟨fun e he=>?_,h⟩
    rw [lL] at hb
    rcases List.mem_cons.1 he with rfl|he
    ·exact hb
    ·exact jL hb (h1 e he)
   ·rename_i hb;rw [lL] at hb;refine List.pairwise_cons.2 ⟨fun e he=>?_,jS s x h2⟩
    rcases qG he with rfl|he
    ·rcases qHc t s with h|h|h
     ·exact h
     ·exact absurd h hne
     ·exact absurd h hb
    ·exact h1 e he
theorem vT (s:ByteArray):∀ {L:List (ByteArray × α)},dW L→dW (del s L)
|[],_=>by simp [del,dW]
|(t,y) :: r,h=>by
  obtain ⟨h1,h2⟩:=List.pairwise_cons.1 h;simp only [del];split
  ·exact vT s h2
  ·exact List.pairwise_cons.2 ⟨fun e he=>h1 e (zF he),vT s h2⟩
theorem cB {s:ByteArray} {x:α}:∀ {L:List (ByteArray × α)},aH L s=some x→(s,x) ∈ L
|[],h=>by simp [aH] at h
|(t,y) :: r,h=>by
  simp only [aH] at h;split at h
  ·rename_i e;subst e;simp only [Option.some.injEq] at h;simp [h]
  ·exact List.mem_cons_of_mem _ (cB h)
theorem cN {s:ByteArray} {x:α}:∀ {L:List (ByteArray × α)},dW L→(s,x) ∈ L→aH L s=some x
|[],_,h=>by simp at h
|(t,y) :: r,hR,h=>by
  obtain ⟨h1,h2⟩:=List.pairwise_cons.1 hR;simp only [aH]
  rcases List.mem_cons.1 h with h|h
  ·cases h;rw [if_pos rfl]
  ·rw [if_neg (fun e=>by subst e;have:=h1 _ h;rw [eD] at this;cases this)]
   exact cN h2 h
end
theorem qTj (x:Itm):qC6 x.val=x.hv:=rfl
def tot:List (ByteArray × Itm)→Int
|[]=>0
|(_,x) :: r=>(x.data.size:Int) + tot r
def kJ (left:List UInt8→Bool) (v:ByteArray):List (ByteArray × Itm)→Int
|[]=>0
|(p,x) :: r=>(if left p.data.toList=false∧vol p=v then (x.data.size:Int) else 0) + kJ left v r
theorem qSp:∀ L,0≤tot L
|[]=>Int.le_refl _
|(_,x) :: r=>by have:=qSp r;rw [tot];omega
theorem qBt (left:List UInt8→Bool) (v:ByteArray):∀ L,0≤kJ left v L∧kJ left v L≤tot L
|[]=>⟨Int.le_refl _,Int.le_refl _⟩
|(p,x) :: r=>by
  have:=qBt left v r
  rw [kJ,tot];split <;> omega
theorem qHm {left:List UInt8→Bool} (v:ByteArray):∀ {L:List (ByteArray × Itm)},(∀ e ∈ L,left e.1.data.toList=true)→kJ left v L=0
|[],_=>rfl
|(p,x) :: r,h=>by
  rw [kJ,qHm v fun e he=>h e (List.mem_cons_of_mem _ he),if_neg (by simp [h (p,x) (by simp)])];rfl
theorem qD6 {left:List UInt8→Bool} (v:ByteArray) (h:∀ s,left s=false):∀ (L:List (ByteArray × Itm)),kJ left v L=qN2 v L
|[]=>rfl
|(p,x) :: r=>by
  rw [kJ,qN2,qD6 v h r];simp [h]
theorem eM {a b:ByteArray} (h:a.data.toList=b.data.toList):a=b:=by rw [← iD a,← iD b,h]
theorem qHl {left:List UInt8→Bool} {s v:ByteArray}:∀ {L:List (ByteArray × Itm)},(∀ e ∈ L,e.1≠s)→kJ (fun q=>left q && !(q == s.data.toList)) v L=kJ left v L
|[],_=>rfl
|(p,x) :: r,h=>by
  rw [kJ,kJ,qHl fun e he=>h e (List.mem_cons_of_mem _ he)]
  have:(p.data.toList == s.data.toList)=false:=beq_eq_false_iff_ne.2 fun e=>h (p,x) (by simp) (eM e)
  simp [this]
theorem qHk {left:List UInt8→Bool} {s v:ByteArray} {x:Itm} (hl:left s.data.toList=true):∀ {L:List (ByteArray × Itm)},dW L→(s,x) ∈ L →
  kJ (fun q=>left q && !(q == s.data.toList)) v L=kJ left v L + (if vol s=v then (x.data.size:Int) else 0)
|[],_,h=>by simp at h
|(p,y) :: r,hR,h=>by
  obtain ⟨h1,h2⟩:=List.pairwise_cons.1 hR;rw [kJ,kJ]
  by_cases e:p=s
  ·subst e
   have hm:(p,x)=(p,y):=by
    rcases List.mem_cons.1 h with h|h
    ·exact h
    ·have:=h1 _ h;rw [eD] at this;cases this
   cases hm
   rw [qHl fun e he=>fun e'=>by have:=h1 e he;rw [e',eD] at this;cases this]
   simp [hl];omega
  ·have hm:(s,x) ∈ r:=by
    rcases List.mem_cons.1 h with h|h
    ·cases h;exact absurd rfl e
    ·exact h
   rw [qHk hl h2 hm]
   have:(p.data.toList == s.data.toList)=false:=beq_eq_false_iff_ne.2 fun e'=>e (eM e')
   simp [this];omega
theorem zAd {s:ByteArray} {x:Itm}:∀ {L:List (ByteArray × Itm)},(s,x) ∈ L→(x.data.size:Int)≤tot L
|[],h=>by simp at h
|(p,y) :: r,h=>by
  have:=qSp r
  rcases List.mem_cons.1 h with h|h
  ·cases h;rw [tot];omega
  ·have:=zAd h;rw [tot];omega
theorem zEm (d:Dk) (p:ByteArray):((aT d p).data.size:Int)≤tot d.L:=by
 unfold aT
 cases h:aH d.L p with
|none=>exact qSp _
|some x=>exact zAd (cB h)
structure Dk.Ok (d:Dk) (B:Int):Prop where
 rise:dW d.L
 keys:∀ e ∈ d.L,e.1.size≤1048576
 size:tot d.L≤B
 n:(d.n:Int)≤B
 m:(d.m:Int)≤B
 steps:0≤d.steps∧d.steps≤B
 stamps:0≤d.stamps∧d.stamps≤B
 armed:-1≤d.armed∧d.armed≤9223372036854775807
end Go.Dk
end
