/- What the walk of the law stands on. -/
import Derived.Test.YtjljkgeeimploaaGreatDoorAl
set_option linter.defProp false
set_option maxRecDepth 20000
namespace Go.Eng
open Go Go.RowKit
def yB4:Int:=-9223372036854775808
def yCk:Int:=9223372036854775807
def yH4 (n:Int):Prop:=yB4≤n∧n≤yCk
def yAa {n:Int} (h:yH4 n):IntKind.i64.wrap n=n:=IntWalk.i64_in n ⟨h.1,h.2⟩
def zC1 {n:Int} (h1:-4611686018427387904≤n) (h2:n≤4611686018427387904):yH4 n:=⟨by unfold yB4;omega,by unfold yCk;omega⟩
abbrev Env:=List (Nat × Value)
def lk:Env→Nat→Option Value
|[],_=>none
|(k,v) :: r,t=>if k=t then some v else lk r t
def ev (l:Env):Operand→Option Value
|.tmp t=>lk l t
|.const v=>some v
|.global g=>some (.pointer (some ⟨g,0,none⟩))
|.func f=>some (.func (.func f) #[] #[])
def evs (l:Env):List Operand→Option (List Value)
|[]=>some []
|x :: r=>match ev l x with
 |some v=>match evs l r with
  |some vs=>some (v :: vs)
  |none=>none
 |none=>none
def stp (d:Option Nat) (v:Value) (l:Env):Env :=
 match d with
|some k=>(k,v) :: l
|none=>l
def kW (base:Array Value):Env→Array Value
|[]=>base
|(k,v) :: r=>(kW base r).setIfInBounds k v
structure Fr (N:Nat) where
 base:Array Value
 hN:base.size=N
 ds:List Deferred × Option Nat
abbrev FW (r:Option Nat):Fence:={ Fence.wide with round:=r }
def mk {N:Nat} (F:Fr N) (l:Env):Act:=⟨kW F.base l,F.ds.1⟩
def cC (N:Nat):Env→Bool
|[]=>true
|p :: r=>Nat.blt p.1 N && cC N r
def keep (ks:List Nat) (l:Env):Env :=
 match ks with
|[]=>[]
|k :: r=>match lk l k with
 |some v=>(k,v) :: keep r l
 |none=>keep r l
def mN (b:Array Value) (l:Env):(kW b l).size=b.size:=by
 induction l with
|nil=>rfl
|cons p r ih=>obtain ⟨k,v⟩:=p;simp [kW,ih]
def lL {N:Nat} (F:Fr N):∀ {l:Env} {t:Nat} {v:Value},cC N l=true→lk l t=some v→(kW F.base l)[t]?=some v
|[],t,v,_,h=>by simp [lk] at h
|(k,u) :: r,t,v,hk,h=>by
  simp only [cC,g9] at hk
  have hkn:k < N:=Nat.le_of_ble_eq_true hk.1
  simp only [lk] at h;simp only [kW]
  by_cases e:k=t
  ·subst e;simp only [bBm,a6] at h;subst h;rw [r9 (by rw [mN,F.hN];exact hkn)]
  ·rw [b7 e] at h;rw [r7 e];exact lL F hk.2 h
def qL {N:Nat} (F:Fr N) {l:Env} {x:Operand} {v:Value} (hk:cC N l=true) (h:ev l x=some v):(mk F l).eval x=v:=by
 cases x with
|tmp t =>
  simp only [ev] at h;simp only [Act.eval,mk,bAs,lL F hk h,Option.getD_some]
|const c=>simpa [ev,Act.eval] using h
|global g=>simpa [ev,Act.eval] using h
|func f=>simpa [ev,Act.eval] using h
def jX {N:Nat} {d:Option Nat} {v:Value} {l:Env} (h:cC N l=true) (hd:∀ k,d=some k→k < N):cC N (stp d v l)=true:=by
 cases d with
|none=>exact h
|some k =>
  have:k < N:=hd k rfl
  simp [stp,cC,h,Nat.blt,Nat.ble_eq];omega
def uK {N:Nat} (F:Fr N) (d:Option Nat) (v:Value) (l:Env):(mk F l).put d v=mk F (stp d v l):=by
 cases d <;> rfl
def zQn {ks:List Nat} {l:Env}:∀ {k:Nat} {v:Value},lk (keep ks l) k=some v→lk l k=some v:=by
 induction ks with
|nil=>intro k v h;simp [keep,lk] at h
|cons a r ih =>
  intro k v h;simp only [keep] at h;split at h
  ·rename_i u hu;simp only [lk] at h
   by_cases e:a=k
   ·subst e;rw [g8 rfl] at h;rw [← h];exact hu
   ·rw [b7 e] at h;exact ih h
  ·exact ih h
def qFu {base:Array Value} (l:Env) (h:∀ p ∈ l,base[p.1]?=some p.2):kW base l=base:=by
 induction l with
|nil=>rfl
|cons p r ih =>
  obtain ⟨k,v⟩:=p;simp only [kW];rw [ih (fun q hq=>h q (u9 _ hq))]
  have:=h (k,v) bAz
  apply bC0
  intro i
  by_cases e:k=i
  ·subst e;rw [Array.getElem?_setIfInBounds_self];simp only at this;split
   ·exact this.symm
   ·rename_i hn;simp [bDs (Nat.le_of_not_lt hn)] at this
  ·rw [r7 e]
def zQm {ks:List Nat} {l:Env}:∀ p ∈ keep ks l,lk l p.1=some p.2:=by
 induction ks with
|nil=>intro p h;simp [keep] at h
|cons a r ih =>
  intro p h;simp only [keep] at h;split at h
  ·rename_i u hu
   rcases l3.1 h with e|e
   ·subst e;exact hu
   ·exact ih p e
  ·exact ih p h
def qRl {N:Nat} (F:Fr N) {l:Env} (hk:cC N l=true) (ks:List Nat):∃ F':Fr N,F'.ds=F.ds∧mk F l=mk F' (keep ks l) :=
 ⟨⟨kW F.base l,by rw [mN,F.hN],F.ds⟩,rfl,by
  show Act.mk _ _=Act.mk _ _
  rw [qFu (keep ks l) (fun p hp=>lL F hk (zQm p hp))]⟩
def bV (P:Program) (t:TypeId):Option (Nat × Nat) :=
 match P.underlying t with
|some (.slice e)=>(P.info? e).map fun i=>(e,i.size)
|_=>none
def qJ3 (P:Program) (t:TypeId):Option (Nat × Nat) :=
 match P.underlying t with
|some (.array n e)=>(P.info? e).map fun i=>(n,i.size)
|_=>none
def qAf (P:Program) (t:TypeId):Bool:=match P.underlying t with|some .string=>true|_=>false
def qNl (P:Program) (t:TypeId):Bool:=match P.underlying t with|some .bool=>true|_=>false
def qH3 (P:Program) (t:TypeId):Bool:=match P.underlying t with|some (.pointer _)=>true|_=>false
def qMt (P:Program) (t:TypeId):Option IntKind:=match P.underlying t with|some (.int k)=>some k|_=>none
def bU (P:Program) (t:TypeId):Option (Option Nat) :=
 match P.underlying t,P.info? t with
|some (.struct _),some i=>some (some i.size)
|some (.array _ _),some i=>some (some i.size)
|some _,some i=>if i.size=1 then some none else none
|_,_=>none
def eV (P:Program) (t f:Nat):Option Nat :=
 match P.underlying t with
|some (.struct fs)=>match fs[f]? with
 |some fl=>match P.info? fl.type with
  |some i=>if i.size=0 then none else some fl.offset
  |none=>none
 |none=>none
|_=>none
def qE8 (P:Program) (t f:Nat):Option (Nat × Option Nat) :=
 match P.underlying t with
|some (.struct fs)=>match fs[f]? with
 |some fl=>(bU P fl.type).map fun k=>(fl.offset,k)
 |none=>none
|_=>none
def eD (P:Program) (t:TypeId):Option (Array Value):=match P.info? t with
|some i=>i.zero.map (·.cells)
|none=>none
def aB (P:Program) (f:FuncId):Bool:=match P.funcs[f]? with
|some fn=>!(fn.name == "runtime.NumGoroutine") && fn.body.isSome
|none=>false
def gT (b:BinOp) (k:IntKind) (x:Int) (k':IntKind) (y:Int):Option (Prop × Value) :=
 match b with
|.add=>some (k=k',.int k (k.wrap (x + y)))
|.sub=>some (k=k',.int k (k.wrap (x - y)))
|.mul=>some (k=k',.int k (k.wrap (x * y)))
|.quo=>some (k=k'∧y≠0,.int k (k.wrap (x.tdiv y)))
|.rem=>some (k=k'∧y≠0,.int k (x.tmod y))
|.and=>some (k=k',.int k (bits .and k x y))
|.or=>some (k=k',.int k (bits .or k x y))
|.xor=>some (k=k',.int k (bits .xor k x y))
|.andNot=>some (k=k',.int k (bits .andNot k x y))
|.eql=>some (k=k',.bool (decide (x=y)))
|.neq=>some (k=k',.bool (!decide (x=y)))
|.lss=>some (k=k',.bool (decide (x < y)))
|.leq=>some (k=k',.bool (decide (x≤y)))
|.gtr=>some (k=k',.bool (decide (y < x)))
|.geq=>some (k=k',.bool (decide (y≤x)))
|.shl=>some (0≤y,.int k (k.wrap (x * 2 ^ (min y.toNat k.bits))))
|.shr=>some (0≤y,.int k (x.fdiv (2 ^ (min y.toNat k.bits))))
def rE (b:BinOp) (x y:Ba):Option (Prop × Value) :=
 match b with
|.add=>some (x.size + y.size≤9223372036854775807,.string (x ++ y))
|.eql=>some (True,.bool (decide (x=y)))
|.neq=>some (True,.bool (!decide (x=y)))
|.lss=>some (True,.bool (Op.bytesLess x.toList y.toList))
|.leq=>some (True,.bool (Op.bytesLess x.toList y.toList || decide (x=y)))
|.gtr=>some (True,.bool (!(Op.bytesLess x.toList y.toList || decide (x=y))))
|.geq=>some (True,.bool (!Op.bytesLess x.toList y.toList))
|_=>none
def gF (P:Program) (b:BinOp) (t:TypeId) (X Y:Value):Option (Prop × Value) :=
 match X,Y with
|.int k x,.int k' y=>gT b k x k' y
|.string x,.string y=>rE b x y
|.bool x,.bool y=>match b with
 |.eql=>some (qNl P t=true,.bool (x == y))
 |.neq=>some (qNl P t=true,.bool (!(x == y)))
 |_=>none
|.pointer p,.pointer none=>match b with
 |.eql=>some (qH3 P t=true,.bool p.isNone)
 |.neq=>some (qH3 P t=true,.bool (!p.isNone))
 |_=>none
|.slice a _ _,.slice none 0 0=>match b with
 |.eql=>some ((bV P t).isSome=true,.bool a.isNone)
 |.neq=>some ((bV P t).isSome=true,.bool (!a.isNone))
 |_=>none
|_,_=>none
def qXk (x y:Ba):(x.toList == y.toList)=decide (x=y):=by
 rw [ ByteArray.toList_eq,ByteArray.toList_eq,bAv];simp only [bAc,m7];exact ⟨fun h=>by cases x;cases y;congr 1;exact bAp.1 h,fun h=>by rw [h]⟩
def zJr {P:Program} {b:BinOp} {t:TypeId} {x0 y0:Operand} {k k':IntKind} {x y:Int} {c:Prop} {v:Value} (h:gT b k x k' y=some (c,v)) (hc:c) (w:World) :
  (do eqGuard b t x0 y0 (.int k x) (.int k' y);binOp b t (.int k x) (.int k' y):Sem Value).run P w=.ok v w:=by
 rw [eqGuard_at_int]
 cases b <;> simp only [gT,a6,n5] at h <;> obtain ⟨rfl,rfl⟩:=h
 case quo=>obtain ⟨rfl,hy⟩:=hc;simp [binOp,Op.intDiv,hy]
 case rem=>obtain ⟨rfl,hy⟩:=hc;simp [binOp,Op.intDiv,hy]
 case shl=>simp [binOp,Op.shift,Int.not_lt.2 hc]
 case shr=>simp [binOp,Op.shift,Int.not_lt.2 hc]
 case and=>subst hc;simp [binOp,intBits_and]
 case or=>subst hc;simp [binOp,intBits_or]
 case xor=>subst hc;simp [binOp,intBits_xor]
 case andNot=>subst hc;simp [binOp,intBits_andNot]
 case add=>subst hc;simp [binOp,Op.intArith]
 case sub=>subst hc;simp [binOp,Op.intArith]
 case mul=>subst hc;simp [binOp,Op.intArith]
 case eql=>subst hc;simp [binOp,Op.intCmp];rfl
 case neq=>subst hc;simp [binOp,Op.intCmp,bne];rfl
 all_goals (subst hc;simp [binOp,Op.intCmp])
def zF8 {P:Program} {b:BinOp} {t:TypeId} {x0 y0:Operand} {x y:Ba} {c:Prop} {v:Value} (h:rE b x y=some (c,v)) (hc:c) (w:World) :
  (do eqGuard b t x0 y0 (.string x) (.string y);binOp b t (.string x) (.string y):Sem Value).run P w=.ok v w:=by
 rw [eqGuard_at_string]
 cases b <;> simp only [rE,a6,n5,reduceCtorEq] at h <;> obtain ⟨rfl,rfl⟩:=h
 case add=>simp only [binOp];simpa using run_string_add_sum (P:=P) w x y hc
 all_goals simp [binOp,Op.stringOp,qXk]
def qYy {P:Program} {b:BinOp} {t:TypeId} {x0 y0:Operand} {X Y:Value} {c:Prop} {v:Value} (h:gF P b t X Y=some (c,v)) (hc:c) (w:World) :
  (do eqGuard b t x0 y0 X Y;binOp b t X Y:Sem Value).run P w=.ok v w:=by
 unfold gF at h;split at h
 ·exact zJr h hc w
 ·exact zF8 h hc w
 ·rename_i x y;rw [eqGuard_at_bool];split at h <;> simp only [a6,n5,reduceCtorEq] at h <;> obtain ⟨rfl,rfl⟩:=h
  all_goals
   have hu:P.underlying t=some .bool:=by
    unfold qNl at hc;split at hc
    ·assumption
    ·cases hc
   simp [binOp,Op.equal,Op.maxDepth,run_equalIn_bool w 9999 t _ _ hu]
 ·rename_i p;rw [eqGuard_at_pointer]
  have hu:qH3 P t=true→P.underlying t=some (.pointer (P.pointee t)):=by
   intro hc;unfold qH3 at hc;split at hc
   ·rename_i e he;simp [Program.pointee,he]
   ·cases hc
  split at h <;> simp only [a6,n5,reduceCtorEq] at h <;> obtain ⟨rfl,rfl⟩:=h
  ·simpa using run_eql_pointer_nil (P:=P) w t p (hu hc)
  ·simpa using run_neq_pointer_nil (P:=P) w t p (hu hc)
 ·rename_i a l c';rw [eqGuard_at_slice]
  have hu:(bV P t).isSome=true→∃ e,P.underlying t=some (.slice e):=by
   intro hc;unfold bV at hc;split at hc
   ·rename_i e he;exact ⟨e,he⟩
   ·cases hc
  split at h <;> simp only [a6,n5,reduceCtorEq] at h <;> obtain ⟨rfl,rfl⟩:=h
  ·obtain ⟨e,he⟩:=hu hc;simp [binOp,run_equal_slice_nil (P:=P) w t e a l c' he]
  ·obtain ⟨e,he⟩:=hu hc
   simpa using run_neq_slice_nil (P:=P) w t e a l c' he
 ·cases h
def mE (l:Env) (o:Option Operand) (d:Int):Option Int :=
 match o with
|none=>some d
|some x=>match ev l x with
 |some (.int _ n)=>some n
 |_=>none
def qF1 (u:UnOp) (X:Value):Option (Prop × Value) :=
 match u,X with
|.not,.bool b=>some (True,.bool (!b))
|.neg,.int k n=>some (True,.int k (k.wrap (0 - n)))
|.xor,.int k n=>some (True,.int k (bits .xor k (if k.signed then -1 else k.max) n))
|_,_=>none
def pD (P:Program) (s d:TypeId) (X:Value):Option (Prop × Value) :=
 match X with
|.int _ n=>match qMt P d with
 |some k=>some ((P.underlying s).isSome=true,.int k (k.wrap n))
 |none=>none
|.string x=>match qAf P d with
 |true=>some ((P.underlying s).isSome=true∧qAf P d=true,.string x)
 |false=>none
|_=>none
def oF (P:Program) (t f:Nat) (X:Value):Option (Prop × Value) :=
 match X,qE8 P t f with
|.agg cs,some (off,none)=>match cs[off]? with
 |some v=>some (True,v)
 |none=>none
|.agg cs,some (off,some n)=>some (True,.agg (cs.extract off (off + n)))
|_,_=>none
def dU (P:Program) (t:TypeId) (X I:Value):Option (Prop × Value) :=
 match X,I with
|.slice (some a) len _,.int _ n=>match bV P t with
 |some (_,size)=>some (0≤n∧n < len,.pointer (some (a.add (n.toNat * size))))
 |none=>none
|.pointer (some a),.int _ n=>match qJ3 P t with
 |some (len,size)=>some (0≤n∧n < len,.pointer (some (a.add (n.toNat * size))))
 |none=>none
|_,_=>none
def dK (s:Ba) (n:Nat):Int:=((s.data.getD n 0).toNat:Int)
def qHz (P:Program) (t:TypeId):Option (Nat × Option Nat) :=
 match P.underlying t with
|some (.array n e)=>match bU P e with
 |some none=>some (n,none)
 |some (some k)=>some (n,some k)
 |none=>none
|_=>none
def xJ (cs:Array Value) (n:Int):Option (Nat × Option Nat)→Option (Prop × Value)
|some (len,none)=>match cs[n.toNat]? with
 |some v=>some (0≤n∧n < len,v)
 |none=>none
|some (len,some k)=>some (0≤n∧n < len,.agg (cs.extract (n.toNat * k) (n.toNat * k + k)))
|none=>none
def qT (P:Program) (t:TypeId) (X I:Value):Option (Prop × Value) :=
 match X,I with
|.agg cs,.int _ n=>xJ cs n (qHz P t)
|.string s,.int _ n=>some (qAf P t=true∧0≤n∧n < s.size,.int .u8 (dK s n.toNat))
|_,_=>none
def gW (a:Option Addr) (cap lo size:Nat):Option Addr:=if cap=lo then a else a.map (·.add (lo * size))
def jB (P:Program) (t:TypeId) (l:Env) (X:Value) (lo hi:Option Operand):Option (Prop × Value) :=
 match X with
|.string s=>match mE l lo 0,mE l hi s.size with
 |some a,some b=>some (qAf P t=true∧0≤a∧a≤b∧b≤s.size,.string (s.extract a.toNat b.toNat))
 |_,_=>none
|.slice p len cap=>match mE l lo 0,mE l hi len,bV P t with
 |some a,some b,some (_,size)=>some (0≤a∧a≤b∧b≤cap,.slice (gW p cap a.toNat size) (b.toNat - a.toNat) (cap - a.toNat))
 |_,_,_=>none
|_=>none
def bT (P:Program) (b:Builtin) (ats:Array TypeId) (vs:List Value):Option (Prop × Value) :=
 match b,vs with
|.len,[.slice _ n _]=>some ((bV P (ats.getD 0 0)).isSome=true∧ats.size=1,.int .i64 n)
|.len,[.string s]=>some (qAf P (ats.getD 0 0)=true∧ats.size=1,.int .i64 s.size)
|.cap,[.slice _ _ c]=>some ((bV P (ats.getD 0 0)).isSome=true∧ats.size=1,.int .i64 c)
|.max,[.int k x,.int _ y]=>some (True,.int k (if x < y then y else x))
|.min,[.int k x,.int _ y]=>some (True,.int k (if y < x then y else x))
|_,_=>none
def aP (P:Program) (l:Env) (o:Op):Option (Prop × Value) :=
 match o with
|.move x=>match ev l x with|some v=>some (True,v)|none=>none
|.assign x=>match ev l x with|some v=>some (True,v)|none=>none
|.pick c a b=>match ev l c with
 |some (.bool t)=>match ev l a with
  |some u=>match ev l b with
   |some v=>some (True,bif t then u else v)
   |none=>none
  |none=>none
 |_=>none
|.binOp b t x y _=>match ev l x with
 |some X=>match ev l y with
  |some Y=>gF P b t X Y
  |none=>none
 |none=>none
|.unOp u _ x=>match ev l x with|some X=>qF1 u X|none=>none
|.convert s d x=>match ev l x with|some X=>pD P s d X|none=>none
|.field t x f=>match ev l x with|some X=>oF P t f X|none=>none
|.extract x i=>match ev l x with
 |some (.tuple vs)=>match vs[i]? with|some v=>some (True,v)|none=>none
 |_=>none
|.fieldAddr t x f=>match ev l x with
 |some (.pointer (some a))=>match eV P t f with
  |some off=>some (True,.pointer (some (a.add off)))
  |none=>none
 |_=>none
|.indexAddr t x i=>match ev l x with
 |some X=>match ev l i with|some I=>dU P t X I|none=>none
 |none=>none
|.index t x i=>match ev l x with
 |some X=>match ev l i with|some I=>qT P t X I|none=>none
 |none=>none
|.slice t x lo hi none=>match ev l x with|some X=>jB P t l X lo hi|none=>none
|.nilCheck x=>match ev l x with
 |some (.pointer (some a))=>some (True,.pointer (some a))
 |_=>none
|.call ⟨.builtin b,args,ats⟩=>match evs l args.toList with|some vs=>bT P b ats vs|none=>none
|_=>none
def sV {P:Program} {t:TypeId} {x:Nat × Nat} (h:bV P t=some x):P.underlying t=some (.slice x.1)∧∃ i,P.info? x.1=some i∧i.size=x.2:=by
 unfold bV at h;split at h
 ·rename_i e he
  cases hi:P.info? e with
 |none=>simp [hi] at h
 |some i=>simp only [hi,n8,a6] at h;subst h;exact ⟨he,i,hi,rfl⟩
 ·cases h
def zFw {P:Program} {t:TypeId} {x:Nat × Nat} (h:qJ3 P t=some x):∃ e i,P.underlying t=some (.array x.1 e)∧P.info? e=some i∧i.size=x.2:=by
 unfold qJ3 at h;split at h
 ·rename_i n e he
  cases hi:P.info? e with
 |none=>simp [hi] at h
 |some i=>simp only [hi,n8,a6] at h;subst h;exact ⟨e,i,he,hi,rfl⟩
 ·cases h
def qN {P:Program} {t:TypeId} (h:qAf P t=true):P.underlying t=some .string:=by
 unfold qAf at h;split at h
 ·assumption
 ·cases h
def zFv {P:Program} {t:TypeId} {k:IntKind} (h:qMt P t=some k):P.underlying t=some (.int k):=by
 unfold qMt at h;split at h
 ·rename_i k' hk;cases h;exact hk
 ·cases h
def xQ {P:Program} {t:TypeId} (h:bU P t=some none):∃ d,P.underlying t=some d∧(∀ fs,d≠.struct fs)∧(∀ n e,d≠.array n e)∧∃ i,P.info? t=some i∧i.size=1:=by
 unfold bU at h;split at h
 ·cases h
 ·cases h
 ·rename_i d i h1 h2 hd hi;refine ⟨d,hd,fun fs e=>h1 fs e,fun n e e'=>h2 n e e',i,hi,?_⟩
  split at h
  ·assumption
  ·cases h
 ·cases h
def qGe {P:Program} {t:TypeId} {n:Nat} (h:bU P t=some (some n)):(∃ i,P.info? t=some i∧i.size=n)∧((∃ fs,P.underlying t=some (.struct fs))∨∃ m e,P.underlying t=some (.array m e)):=by
 unfold bU at h;split at h
 ·rename_i fs i hf hi;cases h;exact ⟨⟨i,hi,rfl⟩,.inl ⟨fs,hf⟩⟩
 ·rename_i m e i hf hi;cases h;exact ⟨⟨i,hi,rfl⟩,.inr ⟨m,e,hf⟩⟩
 ·split at h <;> cases h
 ·cases h
def cT {P:Program} {t:TypeId} (h:bU P t=some none) (w:World):(isAgg t).run P w=.ok false w:=by
 obtain ⟨d,hd,h1,h2,_⟩:=xQ h;unfold isAgg;rw [s8,o9 hd w]
 cases d <;> simp_all
def jA {P:Program} {t:TypeId} {n:Nat} (h:bU P t=some (some n)) (w:World):(isAgg t).run P w=.ok true w:=by
 obtain ⟨_,⟨fs,hd⟩|⟨m,e,hd⟩⟩:=qGe h <;>
 ·unfold isAgg;rw [s8,o9 hd w];simp
def jU {P:Program} {t:TypeId} {n:Nat} (h:bU P t=some (some n)) (w:World):(sizeOf t).run P w=.ok n w:=by
 obtain ⟨⟨i,hi,hs⟩,_⟩:=qGe h;simp [sizeOf,typeInfo,hi,hs]
def zE4 {l:Env} {ρ:Operand→Value} (hρ:∀ x X,ev l x=some X→ρ x=X):∀ {xs:List Operand} {vs:List Value},evs l xs=some vs→xs.map ρ=vs
|[],vs,h=>by simp only [evs,a6] at h;subst h;rfl
|x :: r,vs,h=>by
  simp only [evs] at h;split at h
  ·rename_i v hv;split at h
   ·rename_i us hus;simp only [a6] at h;subst h;simp [hρ _ _ hv,zE4 hρ hus]
   ·cases h
  ·cases h
def qA1 {l:Env} {ρ:Operand→Value} (hρ:∀ x X,ev l x=some X→ρ x=X) {xs:Array Operand} {vs:List Value} (h:evs l xs.toList=some vs):xs.map ρ=vs.toArray:=by
 apply bAp.1
 simp [bEx,zE4 hρ h]
def qQ9 {P:Program} {t:TypeId} {l:Env} {X:Value} {lo hi:Option Operand} {ρ:Operand→Value} (hρ:∀ x X,ev l x=some X→ρ x=X) {c:Prop} {v:Value}
  (h:jB P t l X lo hi=some (c,v)) (hc:c) (w:World):(Instr.sliceAt t X (lo.map ρ) (hi.map ρ) none).run P w=.ok v w:=by
 have hb:∀ (o:Option Operand) (d n:Int),mE l o d=some n→(o=none∧n=d)∨∃ k,o.map ρ=some (.int k n):=by
  intro o d n ho
  cases o with
 |none=>simp only [mE,a6] at ho;exact .inl ⟨rfl,ho.symm⟩
 |some x =>
   simp only [mE] at ho;split at ho
   ·rename_i k m hx;cases ho;exact .inr ⟨k,by simp [hρ _ _ hx]⟩
   ·cases ho
 unfold jB at h;split at h
 ·rename_i s;split at h
  ·rename_i a b ha hb';simp only [a6,n5] at h;obtain ⟨rfl,rfl⟩:=h;obtain ⟨hu,h0,h1,h2⟩:=hc
   have hu:=qN hu
   have e1:(b.toNat:Int)=b:=bEh (by omega)
   rcases hb _ _ _ ha with ⟨rfl,rfl⟩|⟨k,hk⟩ <;> rcases hb _ _ _ hb' with ⟨rfl,rfl⟩|⟨k',hk'⟩
   ·simp [Instr.sliceAt,Instr.slice,o9 hu,Instr.sliceBounds]
   ·simp [Instr.sliceAt,Instr.slice,o9 hu,Instr.sliceBounds,hk',bB8 w k' b s.size .sliceAlen (by omega) h2]
   ·simp [Instr.sliceAt,Instr.slice,o9 hu,Instr.sliceBounds,hk,bB8 w k a s.size .sliceB h0 h1]
   ·simp [Instr.sliceAt,Instr.slice,o9 hu,Instr.sliceBounds,hk,hk',bB8 w k' b s.size .sliceAlen (by omega) h2,bB8 w k a b.toNat .sliceB h0 (by omega)]
  ·cases h
 ·rename_i p len cap;split at h
  ·rename_i a b e size ha hb' hu;simp only [a6,n5] at h;obtain ⟨rfl,rfl⟩:=h;obtain ⟨h0,h1,h2⟩:=hc;obtain ⟨hu,i,hi,hs⟩:=sV hu
   have e1:(b.toNat:Int)=b:=bEh (by omega)
   simp only at hi hs hu
   rcases hb _ _ _ ha with ⟨rfl,rfl⟩|⟨k,hk⟩ <;> rcases hb _ _ _ hb' with ⟨rfl,rfl⟩|⟨k',hk'⟩
   ·simp [Instr.sliceAt,Instr.slice,o9 hu,Instr.sliceBounds,sizeOf,typeInfo,hi,hs,gW]
   ·simp [Instr.sliceAt,Instr.slice,o9 hu,Instr.sliceBounds,hk',bB8 w k' b cap .sliceAcap (by omega) h2,sizeOf,typeInfo,hi,hs,gW]
   ·simp [Instr.sliceAt,Instr.slice,o9 hu,Instr.sliceBounds,hk,bB8 w k a len .sliceB h0 h1,sizeOf,typeInfo,hi,hs,gW]
   ·simp [Instr.sliceAt,Instr.slice,o9 hu,Instr.sliceBounds,hk,hk',bB8 w k' b cap .sliceAcap (by omega) h2,bB8 w k a b.toNat .sliceB h0 (by omega),sizeOf,typeInfo,hi,hs,gW]
  ·cases h
 ·cases h
def qKu {P:Program} {b:Builtin} {ats:Array TypeId} {ty:TypeId} {cs:Array Bool} {vs:List Value} {c:Prop} {v:Value}
  (h:bT P b ats vs=some (c,v)) (hc:c) (w:World):(builtin b ats ty cs vs.toArray).run P w=.ok (.value v) w:=by
 have hlen:∀ {ats:Array TypeId},ats.size=1→∃ t,ats=#[t]:=by
  intro ats h;obtain ⟨l⟩:=ats
  match l,h with
 |[t],_=>exact ⟨t,rfl⟩
 unfold bT at h;split at h <;> simp only [a6,n5,reduceCtorEq] at h
 ·obtain ⟨rfl,rfl⟩:=h;obtain ⟨hs,h1⟩:=hc;obtain ⟨t,rfl⟩:=hlen h1;obtain ⟨x,hx⟩:=z8.1 hs;obtain ⟨hu,_⟩:=sV hx
  replace hu:P.underlying t=some (.slice x.1):=hu
  simp [builtin,Builtin.len_,o9 hu,goInt]
 ·obtain ⟨rfl,rfl⟩:=h;obtain ⟨hs,h1⟩:=hc;obtain ⟨t,rfl⟩:=hlen h1
  have hu:P.underlying t=some .string:=qN hs
  simp [builtin,Builtin.len_,o9 hu,goInt]
 ·obtain ⟨rfl,rfl⟩:=h;obtain ⟨hs,h1⟩:=hc;obtain ⟨t,rfl⟩:=hlen h1;obtain ⟨x,hx⟩:=z8.1 hs;obtain ⟨hu,_⟩:=sV hx
  replace hu:P.underlying t=some (.slice x.1):=hu
  simp [builtin,Builtin.cap_,o9 hu,goInt]
 ·obtain ⟨rfl,rfl⟩:=h;simp [builtin,Builtin.max_,Builtin.max2]
 ·obtain ⟨rfl,rfl⟩:=h;simp [builtin,Builtin.min_,Builtin.min2]
def qN4 {P:Program} {l:Env} {o:Oper} {ρ:Operand→Value} (hρ:∀ x X,ev l x=some X→ρ x=X) {c:Prop} {v:Value}
  (h:aP P l o.op=some (c,v)) (hc:c) (w:World):(execOp ρ o).run P w=.ok (.value v) w:=by
 obtain ⟨dst,op,ty,pos,aft,gd⟩:=o;unfold aP at h;simp only at h;split at h
 ·split at h
  ·rename_i x X hx;simp only [a6,n5] at h;obtain ⟨rfl,rfl⟩:=h;simp [execOp,hρ _ _ hx]
  ·cases h
 ·split at h
  ·rename_i x X hx;simp only [a6,n5] at h;obtain ⟨rfl,rfl⟩:=h;simp [execOp,hρ _ _ hx]
  ·cases h
 ·split at h
  ·rename_i t ht;split at h
   ·rename_i u hu;split at h
    ·rename_i v' hv;simp only [a6,n5] at h;obtain ⟨rfl,rfl⟩:=h
     cases t <;> simp [execOp,hρ _ _ ht,hρ _ _ hu,hρ _ _ hv,asBool]
    ·cases h
   ·cases h
  ·cases h
 ·rename_i b t x y yt;split at h
  ·rename_i X hX;split at h
   ·rename_i Y hY;simp only [execOp,hρ _ _ hX,hρ _ _ hY]
    have h':=qYy (P:=P) (x0:=x) (y0:=y) h hc w
    rw [s8,h'];rfl
   ·cases h
  ·cases h
 ·split at h
  ·rename_i X hX;unfold qF1 at h;split at h <;> simp only [a6,n5,reduceCtorEq] at h
   ·obtain ⟨rfl,rfl⟩:=h;simp [execOp,hρ _ _ hX,Op.unary]
   ·obtain ⟨rfl,rfl⟩:=h;simp [execOp,hρ _ _ hX,Op.unary,Op.intArith]
   ·obtain ⟨rfl,rfl⟩:=h;simp [execOp,hρ _ _ hX,Op.unary,intBits_xor]
  ·cases h
 ·split at h
  ·rename_i s d x X hX;unfold pD at h;split at h
   ·split at h
    ·rename_i k hk;simp only [a6,n5] at h;obtain ⟨rfl,rfl⟩:=h;obtain ⟨ds,hs⟩:=z8.1 hc;simp [execOp,hρ _ _ hX,convert,o9 hs,o9 (zFv hk),Conv.intToInt]
    ·cases h
   ·split at h
    ·simp only [a6,n5] at h;obtain ⟨rfl,rfl⟩:=h;obtain ⟨ds,hs⟩:=z8.1 hc.1;simp [execOp,hρ _ _ hX,convert,o9 hs,o9 (qN hc.2)]
    ·cases h
   ·cases h
  ·cases h
 ·split at h
  ·rename_i t x f X hX;unfold oF at h;split at h
   ·rename_i cs off hp;split at h
    ·rename_i v' hv;simp only [a6,n5] at h;obtain ⟨rfl,rfl⟩:=h;unfold qE8 at hp;split at hp
     ·rename_i fs hfs;split at hp
      ·rename_i fl hfl
       cases hk:bU P fl.type with
      |none=>simp [hk] at hp
      |some k =>
        simp only [hk,n8,a6,n5] at hp;obtain ⟨rfl,rfl⟩:=hp;simp [execOp,hρ _ _ hX,Instr.field,o9 hfs,hfl,asAgg,part,cT hk,hv]
      ·cases hp
     ·cases hp
    ·cases h
   ·rename_i cs off n hp;simp only [a6,n5] at h;obtain ⟨rfl,rfl⟩:=h;unfold qE8 at hp;split at hp
    ·rename_i fs hfs;split at hp
     ·rename_i fl hfl
      cases hk:bU P fl.type with
     |none=>simp [hk] at hp
     |some k =>
       simp only [hk,n8,a6,n5] at hp;obtain ⟨rfl,rfl⟩:=hp;simp [execOp,hρ _ _ hX,Instr.field,o9 hfs,hfl,asAgg,part,jA hk,jU hk]
     ·cases hp
    ·cases hp
   ·cases h
  ·cases h
 ·split at h
  ·rename_i x i vs hx;split at h
   ·rename_i v' hv;simp only [a6,n5] at h;obtain ⟨rfl,rfl⟩:=h;simp [execOp,hρ _ _ hx,Instr.extract,hv]
   ·cases h
  ·cases h
 ·split at h
  ·rename_i t x f a hx;split at h
   ·rename_i off ho;simp only [a6,n5] at h;obtain ⟨rfl,rfl⟩:=h;unfold eV at ho;split at ho
    ·rename_i fs hfs;split at ho
     ·rename_i fl hfl;split at ho
      ·rename_i i hi;split at ho
       ·cases ho
       ·rename_i hz
        cases ho
        simp [execOp,hρ _ _ hx,Instr.fieldAt,o9 hfs,hfl,Instr.sureAddr,fieldPlace,sizeOf,typeInfo,hi,hz]
      ·cases ho
     ·cases ho
    ·cases ho
   ·cases h
  ·cases h
 ·split at h
  ·rename_i X hX;split at h
   ·rename_i I hI;unfold dU at h;split at h
    ·rename_i a len cap k n;split at h
     ·rename_i e size hu;simp only [a6,n5] at h;obtain ⟨rfl,rfl⟩:=h;obtain ⟨hu,i,hi,hs⟩:=sV hu;simp only at hu hi hs;simp [execOp,hρ _ _ hX,hρ _ _ hI,Instr.indexAt,asIntOf,o9 hu,sizeOf,typeInfo,hi,hs,hc.1,hc.2]
     ·cases h
    ·rename_i a k n;split at h
     ·rename_i len size hu;simp only [a6,n5] at h;obtain ⟨rfl,rfl⟩:=h;obtain ⟨e,i,hu,hi,hs⟩:=zFw hu;simp only at hu hi hs;simp [execOp,hρ _ _ hX,hρ _ _ hI,Instr.indexAt,asIntOf,o9 hu,sizeOf,typeInfo,hi,hs,hc.1,hc.2,Instr.sureAddr]
     ·cases h
    ·cases h
   ·cases h
  ·cases h
 ·split at h
  ·rename_i X hX;split at h
   ·rename_i I hI;unfold qT at h;split at h
    ·rename_i cs k n;unfold xJ at h;split at h
     ·rename_i len hA;split at h
      ·rename_i v' hv;simp only [a6,n5] at h;obtain ⟨rfl,rfl⟩:=h;unfold qHz at hA;split at hA
       ·rename_i m e hu;split at hA
        ·rename_i hk;simp only [a6,n5] at hA;obtain ⟨rfl,-⟩:=hA;obtain ⟨d,hd,-,-,i,hi,h1⟩:=xQ hk;simp [execOp,hρ _ _ hX,hρ _ _ hI,Instr.index,asIntOf,o9 hu,sizeOf,typeInfo,hi,h1,hc.1,hc.2,part,cT hk,hv]
        ·simp at hA
        ·cases hA
       ·cases hA
      ·cases h
     ·rename_i len kk hA;simp only [a6,n5] at h;obtain ⟨rfl,rfl⟩:=h;unfold qHz at hA;split at hA
      ·rename_i m e hu;split at hA
       ·simp at hA
       ·rename_i k2 hk;simp only [a6,n5] at hA;obtain ⟨rfl,rfl⟩:=hA;simp [execOp,hρ _ _ hX,hρ _ _ hI,Instr.index,asIntOf,o9 hu,jU hk,hc.1,hc.2,part,jA hk]
       ·cases hA
      ·cases hA
     ·cases h
    ·rename_i s k n;simp only [a6,n5] at h;obtain ⟨rfl,rfl⟩:=h;obtain ⟨hu,h0,h1⟩:=hc
     have hlt:n.toNat < s.size:=by omega
     have hlt':n.toNat < s.data.size:=hlt
     have hg:s[n.toNat]?=some (s.data.getD n.toNat 0):=by
      rw [getElem?_pos s n.toNat hlt];simp only [bAs,v8 hlt',Option.getD_some];rfl
     simp [execOp,hρ _ _ hX,hρ _ _ hI,Instr.index,asIntOf,o9 (qN hu),h0,hg,dK]
    ·cases h
   ·cases h
  ·cases h
 ·split at h
  ·rename_i t x lo hi X hX;simp only [execOp,hρ _ _ hX,Option.map_none];rw [s8,qQ9 hρ h hc w];rfl
  ·cases h
 ·split at h
  ·rename_i x a hx;simp only [a6,n5] at h;obtain ⟨rfl,rfl⟩:=h;simp [execOp,hρ _ _ hx]
  ·cases h
 ·split at h
  ·rename_i b args ats vs hvs
   have hm:=qA1 hρ hvs
   simp only [execOp,resolve,invoke];simp only [hm]
   simpa using qKu (P:=P) h hc w
  ·cases h
 ·cases h
def xZ (w:World) (a:Addr) (n:Nat) (cs:Array Value):Prop:=cs.size=n∧∀ (j:Nat) (v:Value),cs[j]?=some v→w.cell? (a.add j)=some v
def evD (l:Env) (x:Operand):Value:=(ev l x).getD undef
def fnE:Option Value→Option FuncId
|some (.func (.func f) ⟨[]⟩ ⟨[]⟩)=>some f
|_=>none
def zSi {o:Option Value} {f:FuncId} (h:fnE o=some f):o=some (.func (.func f) #[] #[]):=by
 unfold fnE at h;split at h
 ·simp only [a6] at h;subst h;rfl
 ·cases h
def qNa (o:Op) (ty:TypeId):Oper:={ dst:=none,op:=o,type:=ty,pos := "",after:=#[],guard:=none }
def Ret (K:Value→World→Prop) (e:Ending) (w:World):Prop:=match e with
|.returned v=>K v w
|_=>False
def kX {K:Value→World→Prop} {v:Value} {w:World} (h:K v w):Ret K (.returned v) w:=h
def kY (l:Env):List (Nat × Operand)→Option (List (Nat × Value))
|[]=>some []
|(i,x) :: r=>match ev l x with
 |some v=>match kY l r with
  |some vs=>some ((i,v) :: vs)
  |none=>none
 |none=>none
def EqR (P:Program) (t:TypeId) (xs ys:Array Value) (r:Bool):Prop:=P.eqGuardType P.depth t=false∧∀ w,(Op.equal t (.agg xs) (.agg ys)).run P w=.ok r w
def qA (P:Program) (b:BinOp) (t:TypeId) (X Y:Value) (KL:Bool→Prop):Prop:=match b,X,Y with
|.eql,.agg xs,.agg ys=>∃ r,EqR P t xs ys r∧KL r
|.neq,.agg xs,.agg ys=>∃ r,EqR P t xs ys r∧KL (!r)
|_,_,_=>False
def zSx {P:Program} {b:BinOp} {t:TypeId} {x0 y0:Operand} {X Y:Value} {K:Bool→Prop} (h:qA P b t X Y K) :
  ∃ r,K r∧∀ w,(do eqGuard b t x0 y0 X Y;binOp b t X Y:Sem Value).run P w=.ok (.bool r) w:=by
 unfold qA at h;split at h
 ·rename_i xs ys;obtain ⟨r,⟨hg,hr⟩,hK⟩:=h;exact ⟨r,hK,fun w=>by rw [s8,run_eqGuard_agg (P:=P) w .eql t x0 y0 xs ys hg];simp [binOp,hr]⟩
 ·rename_i xs ys;obtain ⟨r,⟨hg,hr⟩,hK⟩:=h;exact ⟨!r,hK,fun w=>by rw [s8,run_eqGuard_agg (P:=P) w .neq t x0 y0 xs ys hg];simp [binOp,hr]⟩
 ·exact h.elim
def bZ (P:Program) (l:Env) (o:Op) (ty:TypeId) (w:World) (K KL:Value→World→Prop):Prop :=
 match o with
|.load t x=>match ev l x with
 |some (.pointer (some a))=>match bU P t with
  |some none=>match w.cell? a with
   |some v=>K v w
   |none=>False
  |some (some n)=>∃ cs,xZ w a n cs∧KL (.agg cs) w
  |none=>False
 |_=>False
|.store t x y=>match ev l x with
 |some (.pointer (some a))=>match ev l y with
  |some v=>∃ w',(storeVar t a v).run P w=.ok () w'∧KL undef w'
  |none=>False
 |_=>False
|.alloc t=>match eD P t with
 |some z=>K (.pointer (some ⟨w.heap.size,0,none⟩)) (w.alloc (.cells z t))
 |none=>False
|.box t x=>match ev l x with
 |some v=>K (.pointer (some ⟨w.heap.size,0,none⟩)) (w.alloc (.cells v.cells t))
 |none=>False
|.build t parts=>match kY l parts.toList with
 |some ps=>∃ v,(∀ w,(Instr.build t ps.toArray).run P w=.ok v w)∧KL v w
 |none=>False
|.buildSlice t n parts=>match kY l parts.toList with
 |some ps=>∃ v w',(Instr.buildSlice t n ps.toArray).run P w=.ok v w'∧KL v w'
 |none=>False
|.makeSlice t x y=>match ev l x with
 |some X=>match ev l y with
  |some Y=>∃ v w',(Instr.makeSlice t X Y).run P w=.ok v w'∧KL v w'
  |none=>False
 |none=>False
|.call ⟨.builtin .append,args,ats⟩=>match evs l args.toList with
 |some vs=>∃ v w',(Builtin.append_ ats ty vs.toArray).run P w=.ok v w'∧KL v w'
 |none=>False
|.call ⟨.value x,args,_⟩=>match fnE (ev l x) with
 |some f=>match evs l args.toList with
  |some vs=>aB P f=true∧Calls P f vs.toArray w (Ret fun v w'=>KL v w')
  |none=>False
 |none=>False
|.binOp b t x y _=>match ev l x with
 |some X=>match ev l y with
  |some Y=>qA P b t X Y fun r=>KL (.bool r) w
  |none=>False
 |none=>False
|.select _ _=>False
|o=>(∀ x ∈ o.operands,(ev l x).isSome=true)∧∃ v w',(execOp (evD l) (qNa o ty)).run P w=.ok (.value v) w'∧KL v w'
def bH (P:Program) (l:Env) (o:Op) (ty:TypeId) (w:World) (K KL:Value→World→Prop):Prop :=
 match aP P l o with
|some (c,v)=>c∧K v w
|none=>bZ P l o ty w K KL
def Yields (P:Program) (s:Sem Next) (w:World) (K:Value→World→Prop):Prop :=
 match s.run P w with
|.ok (.value v) w'=>K v w'
|.ok .skip w'=>K undef w'
|.ok (.enter f args) w'=>Calls P f args w' (Ret K)
|_=>False
def qN6 {l:Env} {ρ:Operand→Value} (hρ:∀ x X,ev l x=some X→ρ x=X):∀ {xs:List (Nat × Operand)} {vs:List (Nat × Value)},kY l xs=some vs→xs.map (fun (i,x)=>(i,ρ x))=vs
|[],vs,h=>by simp only [kY,a6] at h;subst h;rfl
|(i,x) :: r,vs,h=>by
  simp only [kY] at h;split at h
  ·rename_i v hv;split at h
   ·rename_i us hus;simp only [a6] at h;subst h;simp only [d8,hρ _ _ hv,qN6 hρ hus]
   ·cases h
  ·cases h
def qC2 {l:Env} {ρ:Operand→Value} (hρ:∀ x X,ev l x=some X→ρ x=X) {xs:Array (Nat × Operand)} {vs:List (Nat × Value)} (h:kY l xs.toList=some vs):xs.map (fun (i,x)=>(i,ρ x))=vs.toArray:=by
 apply bAp.1
 rw [bEx,qN6 hρ h]
def dV {P:Program} {s:Sem Next} {w w':World} {v:Value} {K:Value→World→Prop} (h:s.run P w=.ok (.value v) w') (hk:K v w'):Yields P s w K:=by
 unfold Yields;rw [h];exact hk
def qSs {P:Program} {s:Sem Next} {w w':World} {K:Value→World→Prop} (h:s.run P w=.ok .skip w') (hk:K undef w'):Yields P s w K:=by
 unfold Yields;rw [h];exact hk
def qQ2 {P:Program} {f:FuncId} (h:aB P f=true) (args:Array Value) (w:World):(callFunc f args).run P w=.ok (.enter f args) w:=by
 unfold aB at h;split at h
 ·rename_i fn hf;simp only [g9,bDt,bCl] at h;simp [callFunc,hf,h.1,Option.isSome_iff_ne_none.1 h.2,Option.isNone_iff_eq_none]
 ·cases h
def qL2 {P:Program} {l:Env} {o:Oper} {ρ:Operand→Value} (hρ:∀ x X,ev l x=some X→ρ x=X) {w:World} {K:Value→World→Prop}
  (h:bZ P l o.op o.type w K K):Yields P (execOp ρ o) w K:=by
 obtain ⟨dst,op,ty,pos,aft,gd⟩:=o;unfold bZ at h;simp only at h;split at h
 ·split at h
  ·rename_i t x a hx;split at h
   ·rename_i hk;split at h
    ·rename_i v hv;exact dV (by simp [execOp,hρ _ _ hx,Instr.loadAt,Instr.sureAddr,loadVar,cT hk,run_load,hv]) h
    ·exact h.elim
   ·rename_i n hk;obtain ⟨cs,⟨hn,hc⟩,hK⟩:=h;refine dV (v:=.agg cs) ?_ hK
    have hl:=bEj (P:=P) w a cs.toList (fun j v hv=>hc j v (by simpa using hv))
    simp only [q7,bDa,hn] at hl;simp [execOp,hρ _ _ hx,Instr.loadAt,Instr.sureAddr,loadVar,jA hk,jU hk,hl]
   ·exact h.elim
  ·exact h.elim
 ·split at h
  ·rename_i t x y a hx;split at h
   ·rename_i v hv;obtain ⟨w',hw,hK⟩:=h;exact qSs (by simp [execOp,hρ _ _ hx,hρ _ _ hv,Instr.storeAt,Instr.sureAddr,hw]) hK
   ·exact h.elim
  ·exact h.elim
 ·split at h
  ·rename_i t z hz;unfold eD at hz;split at hz
   ·rename_i i hi
    cases hzz:i.zero with
   |none=>simp [hzz] at hz
   |some u =>
     simp only [hzz,n8,a6] at hz;subst hz;exact dV (by simp [execOp,Instr.alloc,zeroValue,typeInfo,hi,hzz,newVar,newRow,run_newObj]) h
   ·cases hz
  ·exact h.elim
 ·split at h
  ·rename_i t x v hv;exact dV (by simp [execOp,hρ _ _ hv,Instr.box,newVar,newRow,run_newObj]) h
  ·exact h.elim
 ·split at h
  ·rename_i t parts ps hp;obtain ⟨v,hr,hK⟩:=h;refine dV (v:=v) (w':=w) ?_ hK;simp only [execOp,qC2 hρ hp];rw [s8,hr w];rfl
  ·exact h.elim
 ·split at h
  ·rename_i t n parts ps hp;obtain ⟨v,w',hr,hK⟩:=h;refine dV (v:=v) (w':=w') ?_ hK;simp only [execOp,qC2 hρ hp];rw [s8,hr];rfl
  ·exact h.elim
 ·split at h
  ·rename_i t x y X hX;split at h
   ·rename_i Y hY;obtain ⟨v,w',hr,hK⟩:=h;refine dV (v:=v) (w':=w') ?_ hK;simp only [execOp,hρ _ _ hX,hρ _ _ hY];rw [s8,hr];rfl
   ·exact h.elim
  ·exact h.elim
 ·split at h
  ·rename_i args ats vs hvs;obtain ⟨v,w',hr,hK⟩:=h;refine dV (v:=v) (w':=w') ?_ hK;simp only [execOp,resolve,invoke,qA1 hρ hvs,builtin];simp [hr]
  ·exact h.elim
 ·rename_i x args ats;split at h
  ·rename_i f hx;split at h
   ·rename_i vs hvs;obtain ⟨hc,hK⟩:=h
    have hf:ρ x=.func (.func f) #[] #[]:=hρ _ _ (zSi hx)
    unfold Yields
    have:(execOp ρ { dst:=dst,op:=Op.call ⟨.value x,args,ats⟩,type:=ty,pos:=pos,after:=aft,guard:=gd }).run P w=.ok (.enter f vs.toArray) w:=by
     simp [execOp,resolve,hf,Deferred.ofValue,invoke,qA1 hρ hvs,qQ2 hc]
    rw [this];exact hK
   ·exact h.elim
  ·exact h.elim
 ·rename_i b t x y yt;split at h
  ·rename_i X hX;split at h
   ·rename_i Y hY;obtain ⟨r,hK,hr⟩:=zSx (P:=P) (x0:=x) (y0:=y) h;refine dV (v:=.bool r) (w':=w) ?_ hK;simp only [execOp,hρ _ _ hX,hρ _ _ hY];rw [s8,hr w];rfl
   ·exact h.elim
  ·exact h.elim
 ·exact h.elim
 ·rename_i hns _;obtain ⟨hb,v,w',hr,hK⟩:=h;refine dV (v:=v) (w':=w') ?_ hK;rw [← hr]
  have hc:∀ x ∈ op.operands,ρ x=evD l x:=by
   intro x hx;obtain ⟨X,hX⟩:=z8.1 (hb x hx);rw [hρ _ _ hX];simp [evD,hX]
  have h1:=execOp_congr (ρ:=ρ) (ρ':=evD l) { dst:=dst,op:=op,type:=ty,pos:=pos,after:=aft,guard:=gd } (fun cs b e=>by rename_i hsel;exact hsel cs b e) hc
  rw [h1];rfl
def oV {P:Program} {l:Env} {o:Oper} {ρ:Operand→Value} (hρ:∀ x X,ev l x=some X→ρ x=X) {w:World} {K:Value→World→Prop}
  (h:bH P l o.op o.type w K K):Yields P (execOp ρ o) w K:=by
 unfold bH at h;split at h
 ·rename_i c v hp;exact dV (qN4 hρ hp h.1 w) h.2
 ·exact qL2 hρ h
def cJ (ops:List Oper):List (Option Nat):=ops.map (·.dst)
def gd (l:Env) (ds:List (Option Nat)) (g:Option (Nat × Bool)) (k:Bool→Prop):Prop :=
 match g with
|none=>k true
|some (j,want)=>match ds[j]? with
 |some (some d)=>match lk l d with
  |some (.bool b)=>k (b == want)
  |some _=>k false
  |none=>False
 |_=>False
def jP (N:Nat):Option Nat→Prop
|none=>True
|some k=>k < N
def qDr (b:Bool) (x y:Prop):Prop:=match b with
|true=>x
|false=>y
def VC (P:Program) (N:Nat) (ds:List (Option Nat)) (K:Env→World→Prop):List Oper→Env→World→Prop
|[],l,w=>K l w
|o :: rest,l,w=>gd l ds o.guard fun run=>jP N o.dst∧qDr run (bH P l o.op o.type w (fun v w'=>VC P N ds K rest (stp o.dst v l) w') (fun v w'=>VC P N ds K rest (stp o.dst v l) w')) (VC P N ds K rest (stp o.dst undef l) w)
def VCs (P:Program) (N:Nat) (ds:List (Option Nat)) (K:Env→World→Prop) (rest:List Oper) (l:Env) (w:World):Prop:=VC P N ds K rest l w
theorem zZs (P:Program) (N:Nat) (ds:List (Option Nat)) (K:Env→World→Prop) (o:Oper) (rest:List Oper) (l:Env) (w:World) :
  VC P N ds K (o :: rest) l w=gd l ds o.guard fun run=>jP N o.dst∧qDr run (bH P l o.op o.type w (fun v w'=>VC P N ds K rest (stp o.dst v l) w') (fun v w'=>VCs P N ds K rest (stp o.dst v l) w')) (VC P N ds K rest (stp o.dst undef l) w):=rfl
theorem yEc (P:Program) (N:Nat) (ds:List (Option Nat)) (K:Env→World→Prop) (l:Env) (w:World):VC P N ds K [] l w=K l w:=rfl
def qCc {N:Nat} (F:Fr N) {l:Env} (hk:cC N l=true) {ops:List Oper} {o:Oper} {k:Bool→Prop} (h:gd l (cJ ops) o.guard k) :
  k (Region.wanted o (yielded ops.toArray (mk F l).tmps)):=by
 unfold gd at h;split at h
 ·rename_i hg;simp only [Region.wanted,hg];exact h
 ·rename_i j want hg;split at h
  ·rename_i d hd;split at h
   ·rename_i b hb
    have h1:(ops[j]?).bind (·.dst)=some d:=by
     simp only [cJ,y9,bAg] at hd;obtain ⟨x,hx,hx'⟩:=hd;simp [hx,hx']
    have h2:=lL F hk hb
    have:yielded ops.toArray (mk F l).tmps j=some b:=by
     unfold yielded;simp only [r8,h1,bBc,mk,h2]
    simp only [Region.wanted,hg,this]
    have e:(some b == some want)=(b == want):=by cases b <;> cases want <;> rfl
    rw [e];exact h
   ·rename_i v hv hb
    have h1:(ops[j]?).bind (·.dst)=some d:=by
     simp only [cJ,y9,bAg] at hd;obtain ⟨x,hx,hx'⟩:=hd;simp [hx,hx']
    have h2:=lL F hk hb
    have:yielded ops.toArray (mk F l).tmps j=none:=by
     unfold yielded;simp only [r8,h1,bBc,mk,h2];split
     ·rename_i b e;cases e;exact (hv b rfl).elim
     ·rfl
    simp only [Region.wanted,hg,this];exact h
   ·exact h.elim
  ·exact h.elim
def fD {P:Program} {rd:Option Nat} {o:Oper} {a:Act} {w:World} {next:Act→World→Prop} {Q:Exit→Act→World→Prop} (h:Yields P (execOp a.eval o) w fun v w'=>next (a.put o.dst v) w'):o.wpIn (FW rd) 0 P a w next Q:=by
 refine ⟨fun _ _=>trivial,?_⟩
 by_cases hd:∃ c,o.op=.defer c
 ·exfalso
  obtain ⟨c,hc⟩:=hd;unfold Yields at h;simp only [execOp,hc,s8] at h
  cases hr:(resolve a.eval c o.type).run P w <;> simp [hr,Result.andThen] at h
 ·rw [Oper.semAt_eq _ _ _ (fun c hc=>hd ⟨c,hc⟩)]
  unfold Yields at h;generalize (execOp a.eval o).run P w=r at *
  cases r with
 |ok n w' =>
   cases n <;> simp only at h <;> simp only [Oper.uponIn]
   case value=>exact h
   case skip=>exact h
   case enter f args =>
    refine ⟨(fun hx=>by cases hx),?_⟩
    exact bDl.2 (bEc h (fun e w'' he=>by cases e <;> simp only [Ret] at he <;> exact he))
 |halt x w'=>exact h.elim
def Yields.mono {P:Program} {s:Sem Next} {w:World} {K K':Value→World→Prop} (h:Yields P s w K) (hk:∀ v w',K v w'→K' v w'):Yields P s w K':=by
 unfold Yields at *
 generalize s.run P w=r at *
 cases r with
|ok n w' =>
  cases n <;> simp only at h ⊢
  case value=>exact hk _ _ h
  case skip=>exact hk _ _ h
  case enter f args=>exact bEc h (fun e w'' he=>by cases e <;> simp only [Ret] at he ⊢;exact hk _ _ he)
|halt x w'=>exact h.elim
def wX {P:Program} {N:Nat} (F:Fr N) {ops:List Oper} {K:Env→World→Prop} {Q:Exit→Act→World→Prop}
  (hQ:∀ l w,cC N l=true→K l w→Q .normal (mk F l) w):∀ (rest:List Oper) (l:Env) (w:World),cC N l=true→VC P N (cJ ops) K rest l w→wpListIn (FW F.ds.2) 0 P ops.toArray Q rest (mk F l) w
|[],l,w,hk,h=>hQ l w hk h
|o :: rest,l,w,hk,h=>by
  have h:=qCc F hk h
  obtain ⟨hd,h⟩:=h
  have hk':∀ v,cC N (stp o.dst v l)=true:=fun v=>jX hk (fun k e=>by rw [e] at hd;exact hd)
  unfold wpListIn
  cases hw:Region.wanted o (yielded ops.toArray (mk F l).tmps)
  ·rw [hw] at h;simp only [qDr] at h;rw [b7 (by simp),uK]
   exact ⟨fun _ _=>trivial,wX F hQ rest _ _ (hk' _) h⟩
  ·rw [hw] at h;simp only [qDr] at h;rw [g8 rfl];refine (fD ((oV (fun x X hx=>qL F hk hx) h).mono fun v w' hv=>?_))
   rw [uK];exact wX F hQ rest _ _ (hk' _) hv
def qCz (P:Program) (l:Env) (o:Op) (w:World) (K KL:Value→Prop):Prop :=
 match o with
|.load t x=>match ev l x with
 |some (.pointer (some a))=>match bU P t with
  |some none=>match w.cell? a with
   |some v=>K v
   |none=>False
  |some (some n)=>∃ cs,xZ w a n cs∧KL (.agg cs)
  |none=>False
 |_=>False
|.build t parts=>match kY l parts.toList with
 |some ps=>∃ v,(∀ w,(Instr.build t ps.toArray).run P w=.ok v w)∧KL v
 |none=>False
|.call ⟨.value x,args,_⟩=>match fnE (ev l x) with
 |some f=>match evs l args.toList with
  |some vs=>aB P f=true∧∃ v,(∀ w',Below w.heap.size w w'→Calls P f vs.toArray w' (Ret fun u w''=>u=v∧Below w.heap.size w w''))∧KL v
  |none=>False
 |none=>False
|.binOp b t x y _=>match ev l x with
 |some X=>match ev l y with
  |some Y=>qA P b t X Y fun r=>KL (.bool r)
  |none=>False
 |none=>False
|.index _ _ _|.field _ _ _=>(∀ x ∈ o.operands,(ev l x).isSome=true)∧∃ v,(∀ w,(execOp (evD l) (qNa o 0)).run P w=.ok (.value v) w)∧KL v
|.convert _ _ _=>(∀ x ∈ o.operands,(ev l x).isSome=true)∧∃ v,(∀ w',Below w.heap.size w w'→(execOp (evD l) (qNa o 0)).run P w'=.ok (.value v) w')∧KL v
|_=>False
def vcQ (P:Program) (l:Env) (o:Op) (w:World) (K KL:Value→Prop):Prop :=
 match aP P l o with
|some (c,v)=>c∧K v
|none=>qCz P l o w K KL
def VCq (P:Program) (N:Nat) (ds:List (Option Nat)) (w:World) (K:Env→Prop):List Oper→Env→Prop
|[],l=>K l
|o :: rest,l=>gd l ds o.guard fun run=>jP N o.dst∧qDr run (vcQ P l o.op w (fun v=>VCq P N ds w K rest (stp o.dst v l)) (fun v=>VCq P N ds w K rest (stp o.dst v l))) (VCq P N ds w K rest (stp o.dst undef l))
def dR {w w':World} (h:Below w.heap.size w w') {a:Addr} {v:Value} (hv:w.cell? a=some v):w'.cell? a=some v:=by
 rw [h.cell (block_lt_of_cell hv)];exact hv
def zSw {P:Program} {l:Env} {o:Op} {ty:TypeId} {w:World} {K:Value→Prop} (h:qCz P l o w K K):∃ v,K v∧∀ w',Below w.heap.size w w'→bZ P l o ty w' (fun u w''=>u=v∧Below w.heap.size w w'') (fun u w''=>u=v∧Below w.heap.size w w''):=by
 unfold qCz at h;split at h
 ·split at h
  ·rename_i t x a hx;split at h
   ·rename_i hk;split at h
    ·rename_i v hv;exact ⟨v,h,fun w' hw=>by simp only [bZ,hx,hk,dR hw hv];exact ⟨trivial,hw⟩⟩
    ·exact h.elim
   ·rename_i n hk;obtain ⟨cs,hc,hK⟩:=h;exact ⟨_,hK,fun w' hw=>by simp only [bZ,hx,hk];exact ⟨cs,⟨hc.1,fun j v hj=>dR hw (hc.2 j v hj)⟩,rfl,hw⟩⟩
   ·exact h.elim
  ·exact h.elim
 ·split at h
  ·rename_i t parts ps hp;obtain ⟨v,hr,hK⟩:=h;exact ⟨v,hK,fun w' hw=>by simp only [bZ,hp];exact ⟨v,hr,rfl,hw⟩⟩
  ·exact h.elim
 ·split at h
  ·rename_i f hx;split at h
   ·rename_i vs hvs;obtain ⟨hc,v,hr,hK⟩:=h;exact ⟨v,hK,fun w' hw=>by
     simp only [bZ,hx,hvs];exact ⟨hc,hr w' hw⟩⟩
   ·exact h.elim
  ·exact h.elim
 ·split at h
  ·rename_i X hX;split at h
   ·rename_i Y hY
    have h':=h
    unfold qA at h';split at h'
    ·obtain ⟨r,hr,hK⟩:=h';exact ⟨.bool r,hK,fun w' hw=>by simp only [bZ,hX,hY,qA];exact ⟨r,hr,rfl,hw⟩⟩
    ·obtain ⟨r,hr,hK⟩:=h';exact ⟨.bool (!r),hK,fun w' hw=>by simp only [bZ,hX,hY,qA];exact ⟨r,hr,rfl,hw⟩⟩
    ·exact h'.elim
   ·exact h.elim
  ·exact h.elim
 ·obtain ⟨hb,v,hr,hK⟩:=h;exact ⟨v,hK,fun w' hw=>by simp only [bZ];exact ⟨hb,v,w',hr w',rfl,hw⟩⟩
 ·obtain ⟨hb,v,hr,hK⟩:=h;exact ⟨v,hK,fun w' hw=>by simp only [bZ];exact ⟨hb,v,w',hr w',rfl,hw⟩⟩
 ·obtain ⟨hb,v,hr,hK⟩:=h;exact ⟨v,hK,fun w' hw=>by simp only [bZ];exact ⟨hb,v,w',hr w' hw,rfl,hw⟩⟩
 ·exact h.elim
def zM2 {P:Program} {l:Env} {o:Op} {ty:TypeId} {w:World} {K:Value→Prop} (h:vcQ P l o w K K):∃ v,K v∧∀ w',Below w.heap.size w w'→bH P l o ty w' (fun u w''=>u=v∧Below w.heap.size w w'') (fun u w''=>u=v∧Below w.heap.size w w''):=by
 unfold vcQ at h;split at h
 ·rename_i c v hp;exact ⟨v,h.2,fun w' hw=>by unfold bH;rw [hp];exact ⟨h.1,rfl,hw⟩⟩
 ·rename_i hp;obtain ⟨v,hK,hv⟩:=zSw (ty:=ty) h;exact ⟨v,hK,fun w' hw=>by unfold bH;rw [hp];exact hv w' hw⟩
abbrev qBa:=Exit→Env→World→Prop
def qZw (N:Nat) (ds:List Deferred × Option Nat) (Q:qBa) (e:Exit) (a:Act) (w:World):Prop:=∃ (F:Fr N) (l:Env),F.ds=ds∧a=mk F l∧cC N l=true∧Q e l w
def W (P:Program) (N:Nat) (c:Code) (Q:qBa) (l:Env) (w:World):Prop:=cC N l=true→∀ F:Fr N,c.wpIn (FW F.ds.2) 0 P (qZw N F.ds Q) (mk F l) w
def qH2 {G:Fence} {n:Nat} {P:Program} {Q:Exit→Act→World→Prop} {a:Act} {w:World} {c:Code} (I:Nat→Act→World→Prop) (n₀:Nat) (h₀:I n₀ a w)
  (round:∀ k a w,I k a w→c.wpIn G n P (Exit.then (fun a' w'=>∃ n',n' < k∧I n' a' w') Q) a w):(Code.loop c).wpIn G n P Q a w:=by
 refine wpIn_loop (fun a w=>∃ k,I k a w) (fun a w=>leastOf (fun k=>I k a w)) ⟨n₀,h₀⟩ ?_
 intro a w hI;refine wpIn_mono (round _ a w (leastOf_spec hI).1) ?_;intro e a' w' hq
 cases e with
|normal =>
  obtain ⟨n',hlt,hI'⟩:=hq;exact show (∃ k,I k a' w')∧leastOf (fun k=>I k a' w') < leastOf (fun k=>I k a w) from ⟨⟨n',hI'⟩,Nat.lt_of_le_of_lt ((leastOf_spec ⟨n',hI'⟩).2 n' hI') hlt⟩
|exit id=>exact hq
|goto l=>exact hq
|ret=>exact hq
|panic ch=>exact hq
|outgrown=>exact hq
def zGl (K:Env→World→Prop) (Q:qBa):qBa
|.normal,l,w=>K l w
|e,l,w=>Q e l w
def qMi (id:Nat) (Q:qBa):qBa
|.exit id',l,w=>if id'=id then Q .normal l w else Q (.exit id') l w
|e,l,w=>Q e l w
section
variable {P:Program} {N:Nat} {Q:qBa} {l:Env} {w:World}
theorem W.mono {c:Code} {Q':qBa} (h:W P N c Q l w) (hq:∀ e l w,Q e l w→Q' e l w):W P N c Q' l w :=
 fun hk F=>bB9 (fun e a w ⟨F',l',hf,ha,hk',hQ⟩=>⟨F',l',hf,ha,hk',hq _ _ _ hQ⟩) (h hk F)
theorem aF {x y:Code} (h:W P N x (zGl (fun l w=>W P N y Q l w) Q) l w):W P N (.seq x y) Q l w:=fun hk F=>by
 refine wpIn_seq (bB9 ?_ (h hk F));rintro e a w' ⟨F',l',hf,rfl,hk',hQ⟩
 cases e with
|normal=>rw [← hf];exact hQ hk' F'
|_=>exact ⟨F',l',hf,rfl,hk',hQ⟩
theorem qA9 {id:Nat} {ops:List Oper} (h:∀ K:Env→World→Prop,(∀ l' w',Q .normal l' w'→K l' w')→VC P N (cJ ops) K ops l w):W P N (.region id ops.toArray false) Q l w:=fun hk F =>
 wpIn_region_lit (wX F (K:=fun l w=>Q .normal l w) (fun l' w' hk' hK=>⟨F,l',rfl,rfl,hk',hK⟩) ops l w hk (h _ fun _ _ h=>h))
theorem dZ {c:Operand} {x y:Code} {b:Bool} (hc:ev l c=some (.bool b)) (ht:b=true→W P N x Q l w) (hf:b=false→W P N y Q l w):W P N (.cond c x y) Q l w:=fun hk F=>by
 have he:=qL F hk hc
 cases b with
|true=>exact wpIn_cond (t:=true) he (ht rfl hk F)
|false=>exact wpIn_cond (t:=false) he (hf rfl hk F)
theorem qSn {c:Operand} {x y:Code} (hc:ev l c=some (.bool true)) (ht:W P N x Q l w):W P N (.cond c x y) Q l w:=dZ hc (fun _=>ht) (fun h=>by cases h)
theorem qCp {c:Operand} {x y:Code} (hc:ev l c=some (.bool false)) (hf:W P N y Q l w):W P N (.cond c x y) Q l w:=dZ hc (fun h=>by cases h) (fun _=>hf)
theorem eC {id:Nat} {c:Code} (h:W P N c (qMi id Q) l w):W P N (.block id c) Q l w:=fun hk F=>by
 refine wpIn_block (bB9 ?_ (h hk F));rintro e a w' ⟨F',l',hf,rfl,hk',hQ⟩
 cases e with
|exit id' =>
  simp only [Exit.inBlock];simp only [qMi] at hQ;split
  ·rename_i e;rw [g8 e] at hQ;exact ⟨F',l',hf,rfl,hk',hQ⟩
  ·rename_i e;rw [b7 e] at hQ;exact ⟨F',l',hf,rfl,hk',hQ⟩
|_=>exact ⟨F',l',hf,rfl,hk',hQ⟩
theorem aA (h:Q .normal l w):W P N .skip Q l w:=fun hk F=>wpIn_skip ⟨F,l,rfl,rfl,hk,h⟩
theorem dB (h:Q .ret l w):W P N .ret Q l w:=fun hk F=>wpIn_ret ⟨F,l,rfl,rfl,hk,h⟩
theorem bW {id:Nat} (h:Q (.exit id) l w):W P N (.exit id) Q l w:=fun hk F=>wpIn_exit ⟨F,l,rfl,rfl,hk,h⟩
theorem zZr {id:Nat} (h:Q .normal l w):W P N (.label id) Q l w:=fun hk F=>wpIn_label ⟨F,l,rfl,rfl,hk,h⟩
theorem zV {K:Env→World→Prop} (h:K l w):zGl K Q .normal l w:=h
theorem yN {K:Env→World→Prop} (h:Q .ret l w):zGl K Q .ret l w:=h
theorem yP {K:Env→World→Prop} {id:Nat} (h:Q (.exit id) l w):zGl K Q (.exit id) l w:=h
theorem zY {id:Nat} (h:Q .normal l w):qMi id Q .normal l w:=h
theorem yS {id:Nat} (h:Q .ret l w):qMi id Q .ret l w:=h
theorem yQ {id:Nat} (h:Q .normal l w):qMi id Q (.exit id) l w:=by simp only [qMi,bBm];exact h
theorem yR {id id':Nat} (hne:(id' == id)=false) (h:Q (.exit id') l w):qMi id Q (.exit id') l w:=by simp only [qMi];rw [b7 (by simpa using hne)];exact h
theorem qZ5 {l:Env}:∀ {k:Nat} {v:Value},cC N l=true→lk l k=some v→k < N:=by
 induction l with
|nil=>intro k v _ h;simp [lk] at h
|cons p r ih =>
  obtain ⟨a,u⟩:=p;intro k v hk h;simp only [cC,g9] at hk;simp only [lk] at h
  by_cases e:a=k
  ·subst e;exact Nat.le_of_ble_eq_true hk.1
  ·rw [b7 e] at h;exact ih hk.2 h
theorem qAs (hk:cC N l=true) (ks:List Nat):cC N (keep ks l)=true:=by
 induction ks with
|nil=>rfl
|cons a r ih =>
  simp only [keep];split
  ·rename_i v hv
   have:=qZ5 hk hv
   simp only [cC,ih,bEt];exact Nat.ble_eq_true_of_le this
  ·exact ih
theorem qGz {c:Code} (ks:List Nat) (h:W P N c Q (keep ks l) w):W P N c Q l w:=fun hk F=>by
 obtain ⟨F',hf,e⟩:=qRl F hk ks;rw [e,← hf];exact h (qAs hk ks) F'
theorem oU {ι:Type} {c:Code} (E:ι→Env) (I:ι→World→Prop) (μ:ι→Nat) (ks:List Nat) (i:ι) (h0:keep ks l=E i) (hI:I i w)
  (round:∀ (i:ι) (w:World),I i w→W P N c (zGl (fun l' w'=>∃ j,keep ks l'=E j∧I j w'∧μ j < μ i) Q) (E i) w):W P N (.loop c) Q l w:=fun hk F=>by
 obtain ⟨F',hf,e⟩:=qRl F hk ks;rw [e,h0,← hf]
 have hk0:cC N (E i)=true:=by rw [← h0];exact qAs hk ks
 refine qH2 (fun n a w=>∃ j,μ j=n∧(∃ F1:Fr N,F1.ds=F'.ds∧a=mk F1 (E j))∧cC N (E j)=true∧I j w) (μ i) ⟨i,rfl,⟨F',rfl,rfl⟩,hk0,hI⟩ ?_
 rintro n a w ⟨j,rfl,⟨F2,hf2,rfl⟩,hkj,hIj⟩
 have hrd:=round j w hIj hkj F2
 rw [hf2] at hrd;refine bB9 ?_ hrd;rintro e a w' ⟨F1,l1,hf1,rfl,hk1,hQ⟩
 cases e with
|normal =>
  obtain ⟨j',hE,hI',hμ⟩:=hQ;obtain ⟨F3,hf3,e2⟩:=qRl F1 hk1 ks;exact ⟨μ j',hμ,j',rfl,⟨F3,hf3.trans hf1,by rw [e2,hE]⟩,by rw [← hE];exact qAs hk1 ks,hI'⟩
|_=>exact ⟨F1,l1,hf1,rfl,hk1,hQ⟩
theorem kB {c:Code} (ks:List Nat) {l':Env} (he:keep ks l=l') (h:W P N c Q l' w):W P N c Q l w:=qGz ks (by rw [he];exact h)
theorem qP7 {ι:Type} {x y:Code} (E:ι→Env) (I:ι→World→Prop) (ks:List Nat) (hx:W P N x (zGl (fun l' w'=>∃ j,keep ks l'=E j∧I j w') Q) l w)
  (hy:∀ (j:ι) (w:World),I j w→W P N y Q (E j) w):W P N (.seq x y) Q l w :=
 aF (hx.mono fun e l' w' h=>by
  cases e with
 |normal =>
   obtain ⟨j,hE,hI⟩:=h;exact qGz ks (by rw [hE];exact hy j w' hI)
 |_=>exact h)
end
def jE (P:Program) (l:Env) (w:World):List ResultVar→(List Value→Prop)→Prop
|[],K=>K []
|.tmp t :: r,K=>match lk l t with
 |some v=>jE P l w r fun vs=>K (v :: vs)
 |none=>False
|.cell p t :: r,K=>match lk l p with
 |some (.pointer (some a))=>match bU P t with
  |some none=>match w.cell? a with
   |some v=>jE P l w r fun vs=>K (v :: vs)
   |none=>False
  |some (some n)=>∃ cs,xZ w a n cs∧jE P l w r fun vs=>K (.agg cs :: vs)
  |none=>False
 |_=>False
def tup:List Value→Value
|[v]=>v
|vs=>.tuple vs.toArray
def qDn (P:Program) (rs:List ResultVar) (R:Value→World→Prop):qBa
|.normal,l,w=>jE P l w rs fun vs=>R (tup vs) w
|.ret,l,w=>jE P l w rs fun vs=>R (tup vs) w
|_,_,_=>False
def nE:Nat→List Value→Env
|_,[]=>[]
|k,v :: r=>(k,v) :: nE (k + 1) r
def rv (tmps:Array Value):ResultVar→Sem Value
|.tmp t=>pure (tmps.getD t undef)
|.cell a t=>do loadVar t (← asAddr (tmps.getD a undef))
def qEa {P:Program} {N:Nat} (F:Fr N) {l:Env} {w:World} (hk:cC N l=true):∀ (rs:List ResultVar) (K:List Value→Prop),jE P l w rs K →
  ∃ vs,K vs∧(rs.mapM (rv (mk F l).tmps)).run P w=.ok vs w
|[],K,h=>⟨[],h,by simp⟩
|.tmp t :: r,K,h=>by
  simp only [jE] at h;split at h
  ·rename_i v hv;obtain ⟨vs,hK,hr⟩:=qEa F hk r _ h
   have:=lL F hk hv
   have e:(rv (mk F l).tmps (.tmp t)).run P w=.ok v w:=by simp [rv,mk,this]
   exact ⟨v :: vs,hK,by rw [bEm,s8,e];simp only [bCh];rw [s8,hr];rfl⟩
  ·exact h.elim
|.cell p t :: r,K,h=>by
  simp only [jE] at h;split at h
  ·rename_i a hp
   have:=lL F hk hp
   split at h
   ·rename_i hkd;split at h
    ·rename_i v hv;obtain ⟨vs,hK,hr⟩:=qEa F hk r _ h
     have e:(rv (mk F l).tmps (.cell p t)).run P w=.ok v w:=by simp [rv,mk,this,asAddr,loadVar,cT hkd,run_load,hv]
     exact ⟨v :: vs,hK,by rw [bEm,s8,e];simp only [bCh];rw [s8,hr];rfl⟩
    ·exact h.elim
   ·rename_i n hkd;obtain ⟨cs,⟨hn,hc⟩,h⟩:=h;obtain ⟨vs,hK,hr⟩:=qEa F hk r _ h
    have hl:=bEj (P:=P) w a cs.toList (fun j v hv=>hc j v (by simpa using hv))
    simp only [q7,bDa,hn] at hl
    have e:(rv (mk F l).tmps (.cell p t)).run P w=.ok (.agg cs) w:=by simp [rv,mk,this,asAddr,loadVar,jA hkd,jU hkd,hl]
    exact ⟨.agg cs :: vs,hK,by rw [bEm,s8,e];simp only [bCh];rw [s8,hr];rfl⟩
   ·exact h.elim
  ·exact h.elim
theorem qYj (fn:Func) (tmps:Array Value):results fn tmps=(do let vs ← fn.results.mapM (rv tmps);pure (if h:vs.size=1 then vs[0] else .tuple vs)):=rfl
def qDd {P:Program} {N:Nat} (F:Fr N) {l:Env} {w:World} (hk:cC N l=true) {fn:Func} {R:Value→World→Prop} (h:jE P l w fn.results.toList fun vs=>R (tup vs) w) :
  ∃ v,(results fn (mk F l).tmps).run P w=.ok v w∧R v w:=by
 obtain ⟨vs,hK,hr⟩:=qEa F hk _ _ h;refine ⟨tup vs,?_,hK⟩;rw [qYj,Array.mapM_eq_mapM_toList,s8];simp only [Sem.run_map,hr]
 match vs with
|[]=>rfl
|[v]=>rfl
|a :: b :: r=>simp [tup,Result.andThen]
def qDz {N:Nat}:∀ (k:Nat) (vs:List Value),k + vs.length≤N→cC N (nE k vs)=true
|_,[],_=>rfl
|k,v :: r,h=>by
  simp only [nE,cC,g9];simp only [i6] at h;exact ⟨Nat.ble_eq_true_of_le (by omega),qDz (k + 1) r (by omega)⟩
def qGy:∀ (vs:List Value) (k:Nat),∀ p ∈ nE k vs,k≤p.1∧vs[p.1 - k]?=some p.2
|[],k,p,h=>by simp [nE] at h
|u :: r,k,p,h=>by
  simp only [nE,l3] at h
  rcases h with rfl|h
  ·exact ⟨a7 _,by simp⟩
  ·obtain ⟨h1,h2⟩:=qGy r (k + 1) p h;refine ⟨by omega,?_⟩
   rw [show p.1 - k=(p.1 - (k + 1)) + 1 by omega]
   simpa using h2
def nQ {P:Program} {f:FuncId} {fn:Func} {c:Code} {args:List Value} {w:World} {R:Value→World→Prop} {N:Nat} {rs:Array ResultVar}
  (hf:P.funcs[f]?=some fn) (hb:fn.body=some c) (hN:fn.ntmps=N) (hrs:fn.results=rs) (hle:args.length≤N)
  (h:W P N c (qDn P rs.toList R) (nE 0 args) w):Calls P f args.toArray w (Ret R):=by
 subst hN;subst hrs;refine calls_of_wp hf hb ?_
 let F:Fr fn.ntmps:=⟨args.toArray ++ Array.replicate (fn.ntmps - args.toArray.size) undef,by simp;omega,([],none)⟩
 have e:mk F (nE 0 args)={ tmps:=args.toArray ++ Array.replicate (fn.ntmps - args.toArray.size) undef,defers:=[] }:=by
  show Act.mk _ _=Act.mk _ _
  rw [qFu];intro p hp;obtain ⟨_,h2⟩:=qGy args 0 p hp;simp only [t8] at h2
  have hlt:p.1 < args.length:=by
   rcases s4 p.1 args.length with h|h
   ·exact h
   ·rw [bA1 h] at h2;cases h2
  show (args.toArray ++ Array.replicate (fn.ntmps - args.toArray.size) undef)[p.1]?=some p.2
  rw [bB2 (by simpa using hlt)]
  simpa using h2
 rw [← e];refine wpIn_wide.1 (bB9 ?_ (h (qDz 0 args (by simpa using hle)) F))
 rintro ex a w' ⟨F',l',hf,rfl,hk',hQ⟩
 cases ex with
|normal=>obtain ⟨v,h1,h2⟩:=qDd F' hk' hQ;exact ⟨congrArg Prod.fst hf,v,h1,h2⟩
|ret=>obtain ⟨v,h1,h2⟩:=qDd F' hk' hQ;exact ⟨congrArg Prod.fst hf,v,h1,h2⟩
|exit id=>exact hQ.elim
|goto l=>exact hQ.elim
|panic c=>exact hQ.elim
|outgrown=>exact hQ.elim
def Ret.mono {K K':Value→World→Prop} {P:Program} {f:FuncId} {args:Array Value} {w:World} (h:Calls P f args w (Ret K)) (hk:∀ v w',K v w'→K' v w'):Calls P f args w (Ret K') :=
 bEc h fun e w' he=>by cases e <;> simp only [Ret] at he ⊢;exact hk _ _ he
def fV (ops:List Oper) (k j:Nat):Bool:=match ops[k]? with
|some o=>o.after.any fun e=>Region.binds .any e && e.on == j
|none=>false
def aZ (ops:List Oper) (j:Nat):Option Nat:=(ops[j]?).bind (·.dst)
def zEk (o:Oper):Bool:=match o.op with|.select ..=>false|_=>true
def yY (keys:List Nat) (ops:List Oper) (n:Nat):Bool :=
 (decide (n≤ops.length)) && ops.all zEk &&
 ((List.range ops.length).all fun i=>match ops[i]? with
 |some o=>o.after.all fun e=>!Region.binds .any e || decide (e.on < i)
 |none=>true) &&
 ((List.range n).all fun i=>match ops[i]? with
 |none=>false
 |some o=>(o.looksAt ops.toArray).all fun t =>
   ((List.range n).all fun j=>aZ ops j != some t || (decide (j < i) && fV ops i j)) &&
   (((List.range i).any fun j=>aZ ops j == some t) || keys.contains t)) &&
 ((List.range n).all fun i=>(List.range i).all fun j=>aZ ops i == none || aZ ops i != aZ ops j) &&
 ((List.range ops.length).all fun i=>decide (i < n) || (List.range i).all fun j=>(List.range (i + 1)).any fun k=>decide (j < k) && fV ops k j)
structure Heads (P:Program) (N:Nat) (C:World→Prop) (ops:List Oper) (n:Nat) (l:Env) (ds:List (Option Nat)) (envs:Nat→Env) (vs:Nat→Value):Prop where
 zero:envs 0=l
 succ:∀ i o,i < n→ops[i]?=some o→envs (i + 1)=stp o.dst (vs i) (envs i)
 lt:∀ i o,i < n→ops[i]?=some o→jP N o.dst
 run:∀ i o,i < n→ops[i]?=some o→∃ b,gd (envs i) ds o.guard (·=b)∧(b=true→∀ w,C w→Yields P (execOp (evD (envs i)) o) w fun u w'=>u=vs i∧C w')∧(b=false→vs i=undef)
def qLw {l:Env} {ds:List (Option Nat)} {g:Option (Nat × Bool)} {k:Bool→Prop} (h:gd l ds g k):∃ b,gd l ds g (·=b)∧k b:=by
 unfold gd at *
 split at h
 ·exact ⟨true,rfl,h⟩
 ·split at h
  ·split at h
   ·exact ⟨_,rfl,h⟩
   ·exact ⟨_,rfl,h⟩
   ·exact h.elim
  ·exact h.elim
def qVo {P:Program} {N:Nat} {w0:World} {K:Env→Prop} {ds:List (Option Nat)}:∀ (ops:List Oper) (l:Env),VCq P N ds w0 K ops l→∃ envs vs,Heads P N (Below w0.heap.size w0) ops ops.length l ds envs vs∧K (envs ops.length)
|[],l,h=>⟨fun _=>l,fun _=>undef,⟨rfl,fun i o hi=>absurd hi (y5 _),fun i o hi=>absurd hi (y5 _),fun i o hi=>absurd hi (y5 _)⟩,h⟩
|o :: rest,l,h=>by
  obtain ⟨b,hb,hd,h⟩:=qLw h
  have main:∃ v,VCq P N ds w0 K rest (stp o.dst v l)∧(b=true→∀ w,Below w0.heap.size w0 w→Yields P (execOp (evD l) o) w fun u w'=>u=v∧Below w0.heap.size w0 w')∧(b=false→v=undef):=by
   cases b with
  |true =>
    simp only [qDr] at h;obtain ⟨v,hK,hv⟩:=zM2 (ty:=o.type) h;exact ⟨v,hK,fun _ w hw=>oV (fun x X hx=>by simp [evD,hx]) (hv w hw),fun e=>by cases e⟩
  |false =>
    simp only [qDr] at h;exact ⟨undef,h,(fun e=>by cases e),fun _=>rfl⟩
  obtain ⟨v,hV,h1,h2⟩:=main;obtain ⟨envs,vs,H,hK⟩:=qVo rest _ hV;refine ⟨fun|0=>l|i + 1=>envs i,fun|0=>v|i + 1=>vs i,⟨rfl,?_,?_,?_⟩,hK⟩
  ·intro i o' hi ho
   cases i with
  |zero=>simp only [q8,a6] at ho;subst ho;exact H.zero
  |succ i=>exact H.succ i o' (by simpa using hi) (by simpa using ho)
  ·intro i o' hi ho
   cases i with
  |zero=>simp only [q8,a6] at ho;subst ho;exact hd
  |succ i=>exact H.lt i o' (by simpa using hi) (by simpa using ho)
  ·intro i o' hi ho
   cases i with
  |zero=>simp only [q8,a6] at ho;subst ho;exact ⟨b,hb,h1,h2⟩
  |succ i=>exact H.run i o' (by simpa using hi) (by simpa using ho)
section
variable {P:Program} {N:Nat} {C:World→Prop} {ops:List Oper} {n:Nat} {l:Env} {envs:Nat→Env} {vs:Nat→Value} {ds:List (Option Nat)}
theorem xW {j:Nat} {t:Nat} (h:aZ ops j=some t):∃ o,ops[j]?=some o∧o.dst=some t:=by
 unfold aZ at h
 cases ho:ops[j]? with
|none=>simp [ho] at h
|some o=>exact ⟨o,rfl,by simpa [ho] using h⟩
theorem qLt (H:Heads P N C ops n l ds envs vs) (hn:n≤ops.length) (hk:cC N l=true):∀ i,i≤n→cC N (envs i)=true
|0,_=>by rw [H.zero];exact hk
|i + 1,hi=>by
  have ho:ops[i]?=some (ops[i]'(by omega)):=c9 _
  rw [H.succ i _ (by omega) ho]
  refine jX (qLt H hn hk i (by omega)) (fun k e=>?_)
  have:=H.lt i _ (by omega) ho
  rw [e] at this;exact this
theorem qGm (H:Heads P N C ops n l ds envs vs) (hn:n≤ops.length) (base:Array Value) (t:Nat):∀ i,i≤n→(∀ j,j < i→aZ ops j≠some t) →
  lk (envs i) t=lk l t∧(kW base (envs i))[t]?=(kW base l)[t]?
|0,_,_=>by rw [H.zero];exact ⟨rfl,rfl⟩
|i + 1,hi,h=>by
  obtain ⟨h1,h2⟩:=qGm H hn base t i (by omega) (fun j hj=>h j (by omega))
  have ho:ops[i]?=some (ops[i]'(by omega)):=c9 _
  rw [H.succ i _ (by omega) ho]
  have hne:=h i (by omega)
  unfold aZ at hne;rw [ho] at hne;simp only [bBc] at hne
  cases hd:(ops[i]'(by omega)).dst with
 |none=>exact ⟨h1,h2⟩
 |some d =>
   have:d≠t:=fun e=>hne (by rw [hd,e])
   simp only [stp,lk,kW,b7 this];exact ⟨h1,by rw [r7 this];exact h2⟩
theorem qGn (H:Heads P N C ops n l ds envs vs) (hn:n≤ops.length) {base:Array Value} (hbase:base.size=N) {t j:Nat} (hj:aZ ops j=some t) (huniq:∀ k,k < n→k≠j→aZ ops k≠some t):∀ i,i≤n→j < i →
  lk (envs i) t=some (vs j)∧(kW base (envs i))[t]?=some (vs j)
|0,_,h=>absurd h (y5 _)
|i + 1,hi,h=>by
  have ho:ops[i]?=some (ops[i]'(by omega)):=c9 _
  rw [H.succ i _ (by omega) ho]
  by_cases e:j=i
  ·subst e;obtain ⟨o,ho',hd⟩:=xW hj
   have:o=ops[j]'(by omega):=by rw [ho] at ho';exact (q9 ho').symm
   subst this
   have hlt:=H.lt j _ (by omega) ho
   rw [hd] at hlt ⊢;simp only [stp,lk,kW,bBm,bD8];rw [r9 (by rw [mN,hbase];exact hlt)]
  ·obtain ⟨h1,h2⟩:=qGn H hn hbase hj huniq i (by omega) (by omega)
   have hne:=huniq i (by omega) (bE1 e)
   unfold aZ at hne;rw [ho] at hne;simp only [bBc] at hne
   cases hd:(ops[i]'(by omega)).dst with
  |none=>exact ⟨h1,h2⟩
  |some d =>
    have:d≠t:=fun e=>hne (by rw [hd,e])
    simp only [stp,lk,kW,b7 this];exact ⟨h1,by rw [r7 this];exact h2⟩
structure RegOk (keys:List Nat) (ops:List Oper) (n:Nat):Prop where
 hn:n≤ops.length
 sel:∀ (i:Nat) (o:Oper),ops[i]?=some o→∀ (cs:Array SelectCase) (b:Bool),o.op≠Op.select cs b
 down:∀ (i:Nat) (o:Oper) (e:Edge),ops[i]?=some o→e ∈ o.after→Region.binds .any e=true→e.on < i
 looks:∀ (i:Nat) (o:Oper) (t:Nat),i < n→ops[i]?=some o→t ∈ o.looksAt ops.toArray→(∀ j,j < n→aZ ops j=some t→j < i∧fV ops i j=true)∧((∃ j,j < i∧aZ ops j=some t)∨t ∈ keys)
 uniq:∀ i j,i < n→j < i→aZ ops i=none∨aZ ops i≠aZ ops j
 tail:∀ i j,i < ops.length→n≤i→j < i→∃ k,k≤i∧j < k∧fV ops k j=true
theorem rK {keys:List Nat} (h:yY keys ops n=true):RegOk keys ops n:=by
 simp only [yY,g9,m7,o8,bA9] at h;obtain ⟨⟨⟨⟨⟨h1,h2⟩,h3⟩,h4⟩,h5⟩,h6⟩:=h;refine ⟨h1,?_,?_,?_,?_,?_⟩
 ·intro i o ho cs b e
  have:=h2 o (v6 ho)
  simp [zEk,e] at this
 ·intro i o e ho he hb
  have hi:i < ops.length:=(i5.1 ho).1
  have:=h3 i hi
  rw [ho] at this;simp only [bDr] at this
  have:=this e he
  rw [hb] at this
  simpa using this
 ·intro i o t hi ho ht
  have:=h4 i hi
  rw [ho] at this;simp only [o8] at this
  have:=this t ht
  simp only [g9,o8,bA9,w9,bBs,bEp,ne_eq,m7,bAc,List.contains_iff_mem] at this;obtain ⟨a1,a2⟩:=this;exact ⟨fun j hj hd=>(a1 j hj).resolve_left (fun e=>e hd),a2⟩
 ·intro i j hi hj
  have:=h5 i hi j hj
  simpa only [w9,bAc,bEp] using this
 ·intro i j hi hni hj
  have:=h6 i hi
  simp only [w9,m7,o8,bA9,bBs,g9] at this
  rcases this with h|h
  ·omega
  ·obtain ⟨k,h1,h2,h3⟩:=h j hj;exact ⟨k,by omega,h2,h3⟩
theorem eR {listed:Array Bool} {i j:Nat} (hi:i ∈ Region.ready .any ops.toArray listed) (he:fV ops i j=true):listed.getD j false=true:=by
 obtain ⟨_,o,ho,hall⟩:=bCg.1 hi
 have ho':ops[i]?=some o:=by simpa using ho
 unfold fV at he;rw [ho'] at he;simp only [bEq] at he;obtain ⟨k,hk,he⟩:=he;simp only [g9,bAc] at he
 have:=hall o.after[k] (bEr hk) he.1
 rw [he.2] at this;exact this
theorem sG {keys:List Nat} (ok:RegOk keys ops n) {rd:Option Nat} {Q:Exit→Act→World→Prop}:∀ (fuel m:Nat) (listed:Array Bool) (a:Act) (w:World),m + fuel=ops.length→n≤m→listed.size=ops.length →
  (∀ i,i < ops.length→(listed.getD i false=true↔i < m))→wpListIn (FW rd) 0 P ops.toArray Q (ops.drop m) a w→wpAnyIn (FW rd) 0 P .any ops.toArray Q fuel listed a w
|0,m,listed,a,w,hm,_,hs,hl,h=>by
  have hmem:∀ i,¬ i ∈ Region.ready .any ops.toArray listed:=fun i hi=>by
   obtain ⟨h0,o,ho,_⟩:=bCg.1 hi
   have hi':i < ops.length:=by simpa using (y4.1 ho).1
   have:=(hl i hi').2 (by omega)
   rw [getD_both h0] at this;cases this
  refine ⟨bDw.2 hmem,?_⟩;rw [u0 (by omega)] at h
  exact h
|fuel + 1,m,listed,a,w,hm,hnm,hs,hl,h=>by
  have hmlt:m < ops.length:=by omega
  have ho:ops[m]?=some (ops[m]'hmlt):=c9 _
  have hmem:∀ i,i ∈ Region.ready .any ops.toArray listed→i=m:=fun i hi=>by
   obtain ⟨h0,o,ho,_⟩:=bCg.1 hi
   have hi':i < ops.length:=by simpa using (y4.1 ho).1
   have h1:¬ i < m:=fun hlt=>by
    have:=(hl i hi').2 hlt
    rw [getD_both h0] at this;cases this
   rcases s4 m i with hlt|hge
   ·exfalso
    have key:∀ d j,i - j=d→m≤j→j < i→listed.getD j false=true:=by
     intro d
     induction d using Nat.strongRecOn with
    |_ d ih =>
      intro j hd hmj hji;obtain ⟨k,hk1,hk2,hk3⟩:=ok.tail i j hi' (by omega) hji
      rcases s4 k i with hki|hki
      ·have hlk:=ih (i - k) (by omega) k rfl (by omega) hki
       have:=(hl k (by omega)).1 hlk
       omega
      ·have:k=i:=by omega
       subst this;exact eR hi hk3
    have:=(hl m hmlt).1 (key _ m rfl (a7 _) hlt)
    omega
   ·omega
  have hm_ready:m ∈ Region.ready .any ops.toArray listed:=by
   refine bCg.2 ⟨?_,ops[m]'hmlt,by simp,fun e he hb=>?_⟩
   ·have:listed.getD m false≠true:=fun e=>by have:=(hl m hmlt).1 e;omega
    have h2:m < listed.size:=by omega
    simp only [Array.getD,h2,bCr] at this ⊢
    simpa using this
   ·have:=ok.down m _ e ho he hb
    exact (hl e.on (by omega)).2 this
  refine ⟨fun h0=>absurd hm_ready (by rw [h0];simp),fun i hi=>?_⟩
  have:=hmem i hi
  subst this;rw [l4 hmlt] at h;unfold wpOpIn;simp only [r8,ho];unfold wpListIn at h
  have next:∀ a' w',wpListIn (FW rd) 0 P ops.toArray Q (ops.drop (i + 1)) a' w'→wpAnyIn (FW rd) 0 P .any ops.toArray Q fuel (listed.setIfInBounds i true) a' w':=fun a' w' h' =>
   sG ok fuel (i + 1) _ a' w' (by omega) (by omega) (by simpa using hs) (fun j hj=>by
    by_cases e:i=j
    ·subst e
     have:i < listed.size:=by omega
     simp [this]
    ·rw [bCo false e,hl j hj];omega) h'
  split
  ·rename_i hw;rw [g8 hw] at h;exact Oper.wpIn_mono next h
  ·rename_i hw;rw [b7 hw] at h;exact ⟨h.1,next _ _ h.2⟩
structure Mid (N:Nat) (C:World→Prop) (ops:List Oper) (n:Nat) (base:Array Value) (ds:List Deferred) (vs:Nat→Value) (listed:Array Bool) (a:Act) (w:World):Prop where
 size:listed.size=ops.length
 clos:∀ i j,listed.getD i false=true→fV ops i j=true→listed.getD j false=true
 heads:∀ i,listed.getD i false=true→i < n
 defers:a.defers=ds
 tsize:a.tmps.size=N
 new:∀ j t,j < n→listed.getD j false=true→aZ ops j=some t→a.tmps[t]?=some (vs j)
 old:∀ t,(∀ j,j < n→listed.getD j false=true→aZ ops j≠some t)→a.tmps[t]?=base[t]?
 cls:C w
def unl (listed:Array Bool):Nat:=(listed.toList.filter (!·)).length
theorem qBj {listed:Array Bool} {i:Nat} (h:listed.getD i true=false):unl listed=unl (listed.setIfInBounds i true) + 1:=by
 obtain ⟨l⟩:=listed;unfold unl;simp only [List.setIfInBounds_toArray]
 have h':l[i]?=some false:=by
  simp only [bAs,r8] at h
  cases hl:l[i]? with
 |none=>rw [hl] at h;cases h
 |some b=>rw [hl] at h;simpa using h
 clear h
 induction l generalizing i with
|nil=>simp at h'
|cons b r ih =>
  cases i with
 |zero=>simp only [q8,a6] at h';subst h';simp
 |succ i =>
   have:=ih (i:=i) (by simpa using h')
   cases b <;> simp_all
theorem qJ2 {listed:Array Bool} (h:unl listed=0) {i:Nat} (hi:i < listed.size):listed.getD i false=true:=by
 unfold unl at h
 have h1:listed.toList.filter (!·)=[]:=o5 h
 have h2:=bB1.1 h1 (listed[i]) (by simp)
 simp only [Array.getD,hi,bCr]
 simpa using h2
theorem oW (m:Nat):unl (Array.replicate m false)=m:=by simp [unl,List.filter_replicate]
theorem vQ {o:Oper} {opsA:Array Oper} {t:Nat} (h:Operand.tmp t ∈ o.op.operands):t ∈ o.looksAt opsA:=by
 unfold Oper.looksAt;exact List.mem_append_left _ (List.mem_filterMap.2 ⟨.tmp t,by simpa using h,rfl⟩)
theorem jW {o:Oper} {ops:List Oper} {g d:Nat} {b:Bool} (h:o.guard=some (g,b)) (hd:aZ ops g=some d):d ∈ o.looksAt ops.toArray:=by
 unfold Oper.looksAt;refine List.mem_append_right _ ?_;rw [h];unfold aZ at hd;simp [hd]
theorem qWj {keys:List Nat} (ok:RegOk keys ops n) (F:Fr N) (hk:cC N l=true) (cN:∀ t ∈ keys,∃ v,lk l t=some v) (H:Heads P N C ops n l (cJ ops) envs vs)
  {Q:Exit→Act→World→Prop} (hT:∀ w,C w→wpListIn (FW F.ds.2) 0 P ops.toArray Q (ops.drop n) (mk F (envs n)) w) :
  ∀ (fuel:Nat) (listed:Array Bool) (a:Act) (w:World),unl listed=fuel→Mid N C ops n (kW F.base l) F.ds.1 vs listed a w→wpAnyIn (FW F.ds.2) 0 P .any ops.toArray Q fuel listed a w:=by
 have uniq:∀ i j t,i < n→j < n→aZ ops i=some t→aZ ops j=some t→i=j:=by
  intro i j t hi hj h1 h2
  rcases bAw i j with h|h|h
  ·rcases ok.uniq j i hj h with e|e
   ·rw [h2] at e;cases e
   ·exact absurd (h2.trans h1.symm) e
  ·exact h
  ·rcases ok.uniq i j hi h with e|e
   ·rw [h1] at e;cases e
   ·exact absurd (h1.trans h2.symm) e
 have final:∀ (listed:Array Bool) (a:Act) (w:World),Mid N C ops n (kW F.base l) F.ds.1 vs listed a w→(∀ j,j < n→listed.getD j false=true)→a=mk F (envs n):=by
  intro listed a w M hall;obtain ⟨tm,df⟩:=a
  have hd:df=F.ds.1:=M.defers
  subst hd;show Act.mk _ _=Act.mk _ _
  congr 1
  apply bC0
  intro t
  by_cases h:∃ j,j < n∧aZ ops j=some t
  ·obtain ⟨j,hj,hd⟩:=h
   have h1:=M.new j t hj (hall j hj) hd
   have h2:=(qGn H ok.hn F.hN hd (fun k hk hne e=>hne (uniq k j t hk hj e hd)) n (a7 _) hj).2
   exact h1.trans h2.symm
  ·have h':∀ j,j < n→aZ ops j≠some t:=fun j hj e=>h ⟨j,hj,e⟩
   have h1:=M.old t (fun j hj _=>h' j hj)
   have h2:=(qGm H ok.hn F.base t n (a7 _) h').2
   exact h1.trans h2.symm
 have slot:∀ (listed:Array Bool) (a:Act) (w:World) (i:Nat) (o:Oper) (t:Nat),Mid N C ops n (kW F.base l) F.ds.1 vs listed a w→i < n→ops[i]?=some o→i ∈ Region.ready .any ops.toArray listed→t ∈ o.looksAt ops.toArray →
   ∃ X,a.tmps[t]?=some X∧lk (envs i) t=some X:=by
  intro listed a w i o t M hi ho hr ht;obtain ⟨l1,l2⟩:=ok.looks i o t hi ho ht
  by_cases h:∃ j,j < n∧aZ ops j=some t
  ·obtain ⟨j,hj,hd⟩:=h;obtain ⟨hji,he⟩:=l1 j hj hd;exact ⟨vs j,M.new j t hj (eR hr he) hd,(qGn H ok.hn F.hN hd (fun k hk hne e=>hne (uniq k j t hk hj e hd)) i (by omega) hji).1⟩
  ·have h':∀ j,j < n→aZ ops j≠some t:=fun j hj e=>h ⟨j,hj,e⟩
   rcases l2 with ⟨j,hj,hd⟩|hkey
   ·exact absurd hd (h' j (by omega))
   ·obtain ⟨v,hv⟩:=cN t hkey;refine ⟨v,?_,?_⟩
    ·rw [M.old t (fun j hj _=>h' j hj)];exact lL F hk hv
    ·rw [(qGm H ok.hn F.base t i (by omega) (fun j hj=>h' j (by omega))).1];exact hv
 intro fuel
 induction fuel with
|zero =>
  intro listed a w hu M
  have hall:∀ j,j < ops.length→listed.getD j false=true:=fun j hj=>qJ2 hu (by rw [M.size];exact hj)
  have hn:n=ops.length:=by
   rcases s4 n ops.length with h|h
   ·have:=M.heads n (hall n h);omega
   ·have:=ok.hn;omega
  have ha:=final listed a w M (fun j hj=>hall j (by omega))
  subst ha;exact sG ok 0 n listed _ w (by omega) (a7 _) M.size (fun i hi=>⟨fun _=>by omega,fun _=>hall i hi⟩) (hT w M.cls)
|succ fuel ih =>
  intro listed a w hu M
  by_cases hdone:∀ j,j < n→listed.getD j false=true
  ·have ha:=final listed a w M hdone
   subst ha
   have hcount:∀ (m:Nat) (x:Array Bool),x.size=ops.length→(∀ i,i < ops.length→(x.getD i false=true↔i < m))→m≤ops.length→m + unl x=ops.length:=by
    intro m;generalize hd:ops.length - m=d
    induction d generalizing m with
   |zero =>
     intro x hx hl hm
     have:unl x=0:=by
      unfold unl;rw [bBi,bB1];intro b hb;obtain ⟨i,hi,rfl⟩:=p9 hb
      have hi':i < x.size:=by simpa using hi
      have:=(hl i (by omega)).2 (by omega)
      simp only [Array.getD,hi',bCr] at this;simp [show x.toList[i]=true from this]
     omega
   |succ d ihd =>
     intro x hx hl hm
     have hmlt:m < ops.length:=by omega
     have h0:x.getD m true=false:=by
      have:¬ x.getD m false=true:=fun e=>by have:=(hl m hmlt).1 e;omega
      have hm':m < x.size:=by omega
      simp only [Array.getD,hm',bCr] at this ⊢
      simpa using this
     have:=ihd (m + 1) (by omega) (x.setIfInBounds m true) (by simpa using hx) (fun i hi=>by
      by_cases e:m=i
      ·subst e
       have:m < x.size:=by omega
       simp [this]
      ·rw [bCo false e,hl i hi];omega) (by omega)
     have:=qBj h0
     omega
   have hl:∀ i,i < ops.length→(listed.getD i false=true↔i < n):=fun i hi=>⟨M.heads i,hdone i⟩
   have:=hcount n listed M.size hl ok.hn
   exact sG ok (fuel + 1) n listed _ w (by omega) (a7 _) M.size hl (hT w M.cls)
  ·have hex:∃ j,j < n∧listed.getD j false≠true:=by
    refine v7 fun hne=>hdone fun j hj=>?_
    refine v7 fun h=>hne ⟨j,hj,h⟩
   have hn:=ok.hn
   have hready:∃ j,j ∈ Region.ready .any ops.toArray listed:=by
    obtain ⟨j,hj,hjl⟩:=hex
    have:∀ d j,j=d→j < n→listed.getD j false≠true→∃ j,j ∈ Region.ready .any ops.toArray listed:=by
     intro d
     induction d using Nat.strongRecOn with
    |_ d ihd =>
      intro j hd hj hjl;subst hd
      have ho:ops[j]?=some (ops[j]'(by omega)):=c9 _
      by_cases hall:∀ e ∈ (ops[j]'(by omega)).after,Region.binds .any e=true→listed.getD e.on false=true
      ·refine ⟨j,bCg.2 ⟨?_,ops[j]'(by omega),by simp,hall⟩⟩
       have h2:j < listed.size:=by rw [M.size];omega
       simp only [Array.getD,h2,bCr] at hjl ⊢
       simpa using hjl
      ·have:∃ e ∈ (ops[j]'(by omega)).after,Region.binds .any e=true∧listed.getD e.on false≠true:=by
        refine v7 fun hne=>hall fun e he hb=>?_
        refine v7 fun h=>hne ⟨e,he,hb,h⟩
       obtain ⟨e,he,hb,hl⟩:=this
       have hlt:=ok.down j _ e ho he hb
       exact ihd e.on hlt e.on rfl (by omega) hl
    exact this j j rfl hj hjl
   obtain ⟨j0,hj0⟩:=hready;refine ⟨fun h0=>absurd hj0 (by rw [h0];simp),fun i hi=>?_⟩
   obtain ⟨hun,o,ho,hall⟩:=bCg.1 hi
   have ho':ops[i]?=some o:=by simpa using ho
   have hilt:i < ops.length:=(i5.1 ho').1
   have hin:i < n:=by
    rcases s4 i n with h|h
    ·exact h
    ·exfalso
     apply hdone
     have key:∀ d j,i - j=d→j < i→listed.getD j false=true:=by
      intro d
      induction d using Nat.strongRecOn with
     |_ d ihd =>
       intro j hd hji;obtain ⟨k,hk1,hk2,hk3⟩:=ok.tail i j hilt h hji
       rcases s4 k i with hki|hki
       ·exact M.clos k j (ihd (i - k) (by omega) k rfl hki) hk3
       ·have:k=i:=by omega
        subst this;exact eR hi hk3
     exact fun j hj=>key _ j rfl (by omega)
   have hu':unl (listed.setIfInBounds i true)=fuel:=by have:=qBj hun;omega
   have step:∀ u w',u=vs i→C w'→Mid N C ops n (kW F.base l) F.ds.1 vs (listed.setIfInBounds i true) (a.put o.dst u) w':=by
    intro u w' hu hC;subst hu
    have hlt:=H.lt i o hin ho'
    have hdi:aZ ops i=o.dst:=by unfold aZ;rw [ho'];rfl
    have hset:∀ j,(listed.setIfInBounds i true).getD j false=true→j=i∨listed.getD j false=true:=by
     intro j h
     by_cases e:i=j
     ·exact .inl e.symm
     ·rw [bCo false e] at h;exact .inr h
    have hseti:(listed.setIfInBounds i true).getD i false=true:=by
     have:i < listed.size:=by rw [M.size];exact hilt
     simp [this]
    refine ⟨by simpa using M.size,?_,?_,?_,?_,?_,?_,hC⟩
    ·intro k j hk he
     rcases hset k hk with rfl|hk
     ·exact bB5 (eR hi he)
     ·exact bB5 (M.clos k j hk he)
    ·intro k hk
     rcases hset k hk with rfl|hk
     ·exact hin
     ·exact M.heads k hk
    ·cases hd:o.dst <;> exact M.defers
    ·cases hd:o.dst with
    |none=>exact M.tsize
    |some d=>simp only [Act.put,bCf];exact M.tsize
    ·intro j t hj hjl hd
     rcases hset j hjl with rfl|hjl'
     ·rw [hdi] at hd;rw [hd] at hlt ⊢;simp only [Act.put];rw [r9 (by rw [M.tsize];exact hlt)]
     ·by_cases e:j=i
      ·subst e;rw [hdi] at hd;rw [hd] at hlt ⊢;simp only [Act.put];rw [r9 (by rw [M.tsize];exact hlt)]
      ·have h1:=M.new j t hj hjl' hd
       cases hdo:o.dst with
      |none=>exact h1
      |some d =>
        have hne:d≠t:=fun e'=>e (uniq j i t hj hin hd (by rw [hdi,hdo,e']))
        simp only [Act.put];rw [r7 hne];exact h1
    ·intro t ht
     have h1:=M.old t (fun j hj hjl=>ht j hj (bB5 hjl))
     have h2:=ht i hin hseti
     rw [hdi] at h2
     cases hdo:o.dst with
    |none=>exact h1
    |some d =>
      have hne:d≠t:=fun e'=>h2 (by rw [hdo,e'])
      simp only [Act.put];rw [r7 hne];exact h1
   obtain ⟨b,hb,hbt,hbf⟩:=H.run i o hin ho'
   have hw:Region.wanted o (yielded ops.toArray a.tmps)=b:=by
    unfold gd at hb;split at hb
    ·rename_i hg;simp only [Region.wanted,hg];exact hb
    ·rename_i g want hg;split at hb
     ·rename_i d hd;split at hb
      ·rename_i bb hbb
       have hdd:aZ ops g=some d:=by
        unfold aZ;simp only [cJ,y9,bAg] at hd;obtain ⟨x,hx,hx'⟩:=hd;simp [hx,hx']
       obtain ⟨X,hX1,hX2⟩:=slot listed a w i o d M hin ho' hi (jW hg hdd);rw [hbb] at hX2
       cases hX2
       have:yielded ops.toArray a.tmps g=some bb:=by
        unfold yielded;unfold aZ at hdd;simp only [r8,hdd,bBc,hX1]
       simp only [Region.wanted,hg,this];rw [← hb]
       cases bb <;> cases want <;> rfl
      ·rename_i bb hnb hbb
       have hdd:aZ ops g=some d:=by
        unfold aZ;simp only [cJ,y9,bAg] at hd;obtain ⟨x,hx,hx'⟩:=hd;simp [hx,hx']
       obtain ⟨X,hX1,hX2⟩:=slot listed a w i o d M hin ho' hi (jW hg hdd);rw [hbb] at hX2
       cases hX2
       have:yielded ops.toArray a.tmps g=none:=by
        unfold yielded;unfold aZ at hdd;simp only [r8,hdd,bBc,hX1];split
        ·rename_i b' e;cases e;exact (hnb b' rfl).elim
        ·rfl
       simp only [Region.wanted,hg,this];rw [← hb];rfl
      ·exact hb.elim
     ·exact hb.elim
   unfold wpOpIn;simp only [ho,hw]
   cases b with
  |true =>
    simp only [bBm];refine (fD ?_)
    have hcong:execOp a.eval o=execOp (evD (envs i)) o:=by
     refine execOp_congr o (ok.sel i o ho') (fun x hx=>?_)
     cases x with
    |tmp t =>
      obtain ⟨X,hX1,hX2⟩:=slot listed a w i o t M hin ho' hi (vQ hx);simp [Act.eval,evD,ev,hX1,hX2]
    |const c=>rfl
    |global g=>rfl
    |func f=>rfl
    rw [hcong];exact (hbt rfl w M.cls).mono fun u w' ⟨hu,hC⟩=>ih _ _ _ hu' (step u w' hu hC)
  |false =>
    simp only [bA0,bCz];exact ⟨fun _ _=>trivial,ih _ _ _ hu' (step undef w (hbf rfl).symm M.cls)⟩
end
def tN (l:Env):List Nat:=l.map (·.1)
def vS:∀ {l:Env} {t:Nat},t ∈ tN l→∃ v,lk l t=some v
|[],t,h=>by simp [tN] at h
|(k,v) :: r,t,h=>by
  simp only [lk]
  by_cases e:k=t
  ·exact ⟨v,by rw [g8 e]⟩
  ·rw [b7 e];refine vS ?_;simp only [tN,d8,l3] at h
   rcases h with h|h
   ·exact absurd h.symm e
   ·exact h
section
variable {P:Program} {N:Nat} {Q:qBa} {l:Env} {w:World}
theorem zFj {id:Nat} {ops:List Oper} (keys:List Nat) (n:Nat) (hm:P.follows .mixedOrders=true) (cN:tN l=keys) (hok:yY keys ops n=true)
  (h:∀ K:Env→World→Prop,(∀ l' w',Q .normal l' w'→K l' w')→VCq P N (cJ ops) w (fun l'=>∀ w',Below w.heap.size w w'→VCs P N (cJ ops) K (ops.drop n) l' w') (ops.take n) l):W P N (.region id ops.toArray true) Q l w:=fun hk F=>by
 have ok:=rK hok
 have hlen:(ops.take n).length=n:=by rw [l7];have:=ok.hn;omega
 obtain ⟨envs,vs,H,hK⟩:=qVo _ _ (h _ fun _ _ h=>h)
 rw [hlen] at H hK
 have get_take:∀ {i:Nat} {o:Oper},i < n→ops[i]?=some o→(ops.take n)[i]?=some o:=fun hi ho=>by rw [o6 hi];exact ho
 have H':Heads P N (Below w.heap.size w) ops n l (cJ ops) envs vs:=⟨H.zero,fun i o hi ho=>H.succ i o hi (get_take hi ho),fun i o hi ho=>H.lt i o hi (get_take hi ho),fun i o hi ho=>H.run i o hi (get_take hi ho)⟩
 refine bEg hm ?_
 have hkn:=qLt H' ok.hn hk n (a7 _)
 have:=qWj ok F hk (fun t ht=>vS (by rw [cN];exact ht)) H' (Q:=qZw N F.ds Q)
  (fun w' hw'=>wX F (K:=fun l w=>Q .normal l w) (fun l' w' hk' hK=>⟨F,l',rfl,rfl,hk',hK⟩) _ _ _ hkn (hK w' hw'))
  ops.length (Array.replicate ops.length false) (mk F l) w.drew (oW _)
  ⟨by simp,(fun i j hi=>by rw [x9] at hi;cases hi),(fun i hi=>by rw [x9] at hi;cases hi),rfl,by simp [mk,mN,F.hN],(fun j t _ hl=>by rw [x9] at hl;cases hl),fun t _=>rfl,(Below.refl _ _).drew⟩
 simpa using this
end
inductive Out where
|go (c:Prop) (v:Value) (w:World)
|skip
|eff
|bad
def qF4 (l:Env) (ds:List (Option Nat)) (g:Option (Nat × Bool)):Option Bool :=
 match g with
|none=>some true
|some (j,want)=>match ds[j]? with
 |some (some d)=>match lk l d with
  |some (.bool b)=>some (b == want)
  |some _=>some false
  |none=>none
 |_=>none
def eJ (N:Nat):Option Nat→Bool
|none=>true
|some k=>decide (k < N)
def imm (P:Program) (l:Env) (o:Op) (w:World):Out :=
 match o with
|.load t x=>match ev l x with
 |some (.pointer (some a))=>match bU P t with
  |some none=>match w.cell? a with
   |some v=>.go True v w
   |none=>.bad
  |some (some _)=>.eff
  |none=>.bad
 |_=>.bad
|.alloc t=>match eD P t with
 |some z=>.go True (.pointer (some ⟨w.heap.size,0,none⟩)) (w.alloc (.cells z t))
 |none=>.bad
|.box t x=>match ev l x with
 |some v=>.go True (.pointer (some ⟨w.heap.size,0,none⟩)) (w.alloc (.cells v.cells t))
 |none=>.bad
|_=>.eff
def qNf (P:Program) (l:Env) (o:Op) (w:World):Out :=
 match o with
|.load t x=>match ev l x with
 |some (.pointer (some a))=>match bU P t with
  |some none=>match w.cell? a with
   |some v=>.go True v w
   |none=>.bad
  |some (some _)=>.eff
  |none=>.bad
 |_=>.bad
|_=>.eff
def qEg (P:Program) (l:Env) (o:Op) (w:World):Out:=match aP P l o with
|some (c,v)=>.go c v w
|none=>imm P l o w
def zPs (P:Program) (l:Env) (o:Op) (w:World):Out:=match aP P l o with
|some (c,v)=>.go c v w
|none=>qNf P l o w
def out (P:Program) (N:Nat) (ds:List (Option Nat)) (l:Env) (o:Oper) (w:World):Out:=match qF4 l ds o.guard with
|some true=>(match eJ N o.dst with|true=>qEg P l o.op w|false=>.bad)
|some false=>(match eJ N o.dst with|true=>.skip|false=>.bad)
|none=>.bad
def zWc (P:Program) (N:Nat) (ds:List (Option Nat)) (l:Env) (o:Oper) (w:World):Out:=match qF4 l ds o.guard with
|some true=>(match eJ N o.dst with|true=>zPs P l o.op w|false=>.bad)
|some false=>(match eJ N o.dst with|true=>.skip|false=>.bad)
|none=>.bad
def V2 (P:Program) (N:Nat) (ds:List (Option Nat)) (K:Env→World→Prop):List Oper→Env→World→Prop
|[],l,w=>K l w
|o :: rest,l,w=>match out P N ds l o w with
 |.go c v w'=>c∧V2 P N ds K rest (stp o.dst v l) w'
 |.skip=>V2 P N ds K rest (stp o.dst undef l) w
 |.eff=>bZ P l o.op o.type w (fun v w'=>V2 P N ds K rest (stp o.dst v l) w') (fun v w'=>V2 P N ds K rest (stp o.dst v l) w')
 |.bad=>False
def V2s (P:Program) (N:Nat) (ds:List (Option Nat)) (K:Env→World→Prop) (rest:List Oper) (l:Env) (w:World):Prop:=V2 P N ds K rest l w
def v2s {P:Program} {N:Nat} {ds:List (Option Nat)} {K:Env→World→Prop} {rest:List Oper} {l:Env} {w:World} (h:V2 P N ds K rest l w):V2s P N ds K rest l w:=h
def Vq (P:Program) (N:Nat) (ds:List (Option Nat)) (w:World) (K:Env→Prop):List Oper→Env→Prop
|[],l=>K l
|o :: rest,l=>match zWc P N ds l o w with
 |.go c v _=>c∧Vq P N ds w K rest (stp o.dst v l)
 |.skip=>Vq P N ds w K rest (stp o.dst undef l)
 |.eff=>qCz P l o.op w (fun v=>Vq P N ds w K rest (stp o.dst v l)) (fun v=>Vq P N ds w K rest (stp o.dst v l))
 |.bad=>False
def Vqs (P:Program) (N:Nat) (ds:List (Option Nat)) (w:World) (K:Env→Prop) (rest:List Oper) (l:Env):Prop:=Vq P N ds w K rest l
def vqs {P:Program} {N:Nat} {ds:List (Option Nat)} {w:World} {K:Env→Prop} {rest:List Oper} {l:Env} (h:Vq P N ds w K rest l):Vqs P N ds w K rest l:=h
def eQ {N:Nat} {d:Option Nat} (h:eJ N d=true):jP N d:=by
 cases d with
|none=>trivial
|some k=>simpa [eJ,jP] using h
def zCw {l:Env} {ds:List (Option Nat)} {g:Option (Nat × Bool)} {r:Bool} (h:qF4 l ds g=some r) {k:Bool→Prop} (hk:k r):gd l ds g k:=by
 cases g with
|none=>simp only [qF4,a6] at h;subst h;exact hk
|some p =>
  obtain ⟨j,want⟩:=p;unfold qF4 at h;unfold gd;simp only at h ⊢
  cases hds:ds[j]? with
 |none=>simp [hds] at h
 |some od =>
   cases od with
  |none=>simp [hds] at h
  |some d =>
    simp only [hds] at h ⊢
    cases hl:lk l d with
   |none=>simp [hl] at h
   |some v =>
     simp only [hl] at h ⊢
     cases v <;> simp only [a6] at h ⊢ <;> (subst h;exact hk)
def zEx {P:Program} {l:Env} {o:Op} {ty:TypeId} {w w':World} {c:Prop} {v:Value} {K:Value→World→Prop} (h:imm P l o w=.go c v w'):bZ P l o ty w (fun u x=>u=v∧x=w') K:=by
 unfold imm at h;split at h
 ·split at h
  ·rename_i hx;split at h
   ·rename_i hk;split at h
    ·rename_i hv;simp only [Out.go.injEq] at h;obtain ⟨_,rfl,rfl⟩:=h;simp only [bZ,hx,hk,hv];exact ⟨trivial,trivial⟩
    ·cases h
   ·cases h
   ·cases h
  ·cases h
 ·split at h
  ·rename_i hz;simp only [Out.go.injEq] at h;obtain ⟨_,rfl,rfl⟩:=h;simp only [bZ,hz];exact ⟨trivial,trivial⟩
  ·cases h
 ·split at h
  ·rename_i hz;simp only [Out.go.injEq] at h;obtain ⟨_,rfl,rfl⟩:=h;simp only [bZ,hz];exact ⟨trivial,trivial⟩
  ·cases h
 ·cases h
def zQy {P:Program} {l:Env} {o:Op} {w w':World} {c:Prop} {v:Value} {K:Value→Prop} (h:qNf P l o w=.go c v w'):qCz P l o w (fun u=>u=v) K:=by
 unfold qNf at h;split at h
 ·split at h
  ·rename_i hx;split at h
   ·rename_i hk;split at h
    ·rename_i hv;simp only [Out.go.injEq] at h;obtain ⟨_,rfl,rfl⟩:=h;simp only [qCz,hx,hk,hv]
    ·cases h
   ·cases h
   ·cases h
  ·cases h
 ·cases h
def sD {P:Program} {l:Env} {o:Op} {ty:TypeId} {w:World} {K KL K':Value→World→Prop} (h:bZ P l o ty w K KL) (h1:∀ v w,K v w→K' v w) (h2:∀ v w,KL v w→K' v w):bZ P l o ty w K' K':=by
 unfold bZ at *
 split at h
 ·split at h
  ·split at h
   ·split at h
    ·exact h1 _ _ h
    ·exact h.elim
   ·obtain ⟨cs,a,b⟩:=h;exact ⟨cs,a,h2 _ _ b⟩
   ·exact h.elim
  ·exact h.elim
 ·split at h
  ·split at h
   ·obtain ⟨x,a,b⟩:=h;exact ⟨x,a,h2 _ _ b⟩
   ·exact h.elim
  ·exact h.elim
 ·split at h
  ·exact h1 _ _ h
  ·exact h.elim
 ·split at h
  ·exact h1 _ _ h
  ·exact h.elim
 ·split at h
  ·obtain ⟨x,a,b⟩:=h;exact ⟨x,a,h2 _ _ b⟩
  ·exact h.elim
 ·split at h
  ·obtain ⟨x,y,a,b⟩:=h;exact ⟨x,y,a,h2 _ _ b⟩
  ·exact h.elim
 ·split at h
  ·split at h
   ·obtain ⟨x,y,a,b⟩:=h;exact ⟨x,y,a,h2 _ _ b⟩
   ·exact h.elim
  ·exact h.elim
 ·split at h
  ·obtain ⟨x,y,a,b⟩:=h;exact ⟨x,y,a,h2 _ _ b⟩
  ·exact h.elim
 ·split at h
  ·split at h
   ·exact ⟨h.1,Ret.mono h.2 (fun v w'=>h2 v w')⟩
   ·exact h.elim
  ·exact h.elim
 ·split at h
  ·split at h
   ·unfold qA at *
    split at h
    ·obtain ⟨x,a,b⟩:=h;exact ⟨x,a,h2 _ _ b⟩
    ·obtain ⟨x,a,b⟩:=h;exact ⟨x,a,h2 _ _ b⟩
    ·exact h.elim
   ·exact h.elim
  ·exact h.elim
 ·exact h.elim
 ·obtain ⟨hb,x,y,a,b⟩:=h;exact ⟨hb,x,y,a,h2 _ _ b⟩
def zPt {P:Program} {l:Env} {o:Oper} {ρ:Operand→Value} (hρ:∀ x X,ev l x=some X→ρ x=X) {w w':World} {c:Prop} {v:Value} (h:qEg P l o.op w=.go c v w') (hc:c) :
  Yields P (execOp ρ o) w fun u x=>u=v∧x=w':=by
 unfold qEg at h;split at h
 ·rename_i c' v' hp;simp only [Out.go.injEq] at h;obtain ⟨rfl,rfl,rfl⟩:=h;exact dV (qN4 hρ hp hc w) ⟨rfl,rfl⟩
 ·exact qL2 hρ (sD (zEx (ty:=o.type) (K:=fun _ _=>False) h) (fun _ _ h=>h) (fun _ _ h=>h.elim))
def qXg {N:Nat} (F:Fr N) {l:Env} (hk:cC N l=true) {ops:List Oper} {o:Oper} {r:Bool} (h:qF4 l (cJ ops) o.guard=some r) :
  Region.wanted o (yielded ops.toArray (mk F l).tmps)=r:=qCc F hk (k:=fun x=>x=r) (zCw h rfl)
def qW4 {P:Program} {N:Nat} (F:Fr N) {ops:List Oper} {K:Env→World→Prop} {Q:Exit→Act→World→Prop}
  (hQ:∀ l w,cC N l=true→K l w→Q .normal (mk F l) w):∀ (rest:List Oper) (l:Env) (w:World),cC N l=true→V2 P N (cJ ops) K rest l w→wpListIn (FW F.ds.2) 0 P ops.toArray Q rest (mk F l) w
|[],l,w,hk,h=>hQ l w hk h
|o :: rest,l,w,hk,h=>by
  rw [V2] at h;unfold out at h
  have ih:∀ l w,cC N l=true→V2 P N (cJ ops) K rest l w→wpListIn (FW F.ds.2) 0 P ops.toArray Q rest (mk F l) w:=qW4 F hQ rest
  unfold wpListIn
  cases hg:qF4 l (cJ ops) o.guard with
 |none=>simp only [hg] at h
 |some r =>
   rw [qXg F hk hg];simp only [hg] at h
   cases hd:eJ N o.dst with
  |false=>cases r <;> simp only [hd] at h
  |true =>
    have hk':∀ v,cC N (stp o.dst v l)=true:=fun v=>jX hk (fun k e=>by have:=eQ hd;rw [e] at this;exact this)
    cases r with
   |false =>
     simp only [hd] at h;rw [b7 (by simp),uK]
     exact ⟨fun _ _=>trivial,ih _ _ (hk' _) h⟩
   |true =>
     simp only [hd] at h;rw [g8 rfl];refine (fD ?_)
     cases ho:qEg P l o.op w with
    |go c v w' =>
      simp only [ho] at h;refine (zPt (fun x X hx=>qL F hk hx) ho h.1).mono fun u x ⟨hu,hx⟩=>?_
      subst hu;subst hx;rw [uK];exact ih _ _ (hk' _) h.2
    |skip =>
      exfalso
      unfold qEg at ho;split at ho
      ·cases ho
      ·unfold imm at ho
       repeat' split at ho
       all_goals cases ho
    |eff =>
      simp only [ho] at h;refine (qL2 (fun x X hx=>qL F hk hx) h).mono fun v w' hv=>?_
      rw [uK];exact ih _ _ (hk' _) hv
    |bad=>simp only [ho] at h
def qCh {P:Program} {l:Env} {o:Op} {w:World} {K KL K':Value→Prop} (h:qCz P l o w K KL) (h1:∀ v,K v→K' v) (h2:∀ v,KL v→K' v):qCz P l o w K' K':=by
 unfold qCz at *
 split at h
 ·split at h
  ·split at h
   ·split at h
    ·exact h1 _ h
    ·exact h.elim
   ·obtain ⟨cs,a,b⟩:=h;exact ⟨cs,a,h2 _ b⟩
   ·exact h.elim
  ·exact h.elim
 ·split at h
  ·obtain ⟨x,a,b⟩:=h;exact ⟨x,a,h2 _ b⟩
  ·exact h.elim
 ·split at h
  ·split at h
   ·obtain ⟨a0,x,a,b⟩:=h;exact ⟨a0,x,a,h2 _ b⟩
   ·exact h.elim
  ·exact h.elim
 ·split at h
  ·split at h
   ·unfold qA at *
    split at h
    ·obtain ⟨x,a,b⟩:=h;exact ⟨x,a,h2 _ b⟩
    ·obtain ⟨x,a,b⟩:=h;exact ⟨x,a,h2 _ b⟩
    ·exact h.elim
   ·exact h.elim
  ·exact h.elim
 ·obtain ⟨hb,x,a,b⟩:=h;exact ⟨hb,x,a,h2 _ b⟩
 ·obtain ⟨hb,x,a,b⟩:=h;exact ⟨hb,x,a,h2 _ b⟩
 ·obtain ⟨a0,x,a,b⟩:=h;exact ⟨a0,x,a,h2 _ b⟩
 ·exact h.elim
def yAm {P:Program} {N:Nat} {ds:List (Option Nat)} {w:World} {K:Env→Prop}:∀ (ops:List Oper) (l:Env),Vq P N ds w K ops l→VCq P N ds w K ops l
|[],l,h=>h
|o :: rest,l,h=>by
  rw [Vq] at h;unfold zWc at h
  have ih:∀ l,Vq P N ds w K rest l→VCq P N ds w K rest l:=yAm rest
  show gd l ds o.guard _
  cases hg:qF4 l ds o.guard with
 |none=>simp only [hg] at h
 |some r =>
   refine zCw hg ?_;simp only [hg] at h
   cases hd:eJ N o.dst with
  |false=>cases r <;> simp only [hd] at h
  |true =>
    refine ⟨eQ hd,?_⟩
    cases r with
   |false=>simp only [hd] at h;exact ih _ h
   |true =>
     simp only [hd] at h;show vcQ P l o.op w (fun v=>VCq P N ds w K rest (stp o.dst v l)) (fun v=>VCq P N ds w K rest (stp o.dst v l))
     unfold vcQ
     cases hp:aP P l o.op with
    |some x =>
      obtain ⟨c,v⟩:=x;simp only [zPs,hp] at h;exact ⟨h.1,ih _ h.2⟩
    |none =>
      simp only [zPs,hp] at h
      cases ho:qNf P l o.op w with
     |go c v w' =>
       simp only [ho] at h;exact qCh (zQy (K:=fun _=>False) ho) (fun u hu=>by subst hu;exact ih _ h.2) (fun _ h=>h.elim)
     |skip =>
       exfalso
       unfold qNf at ho
       repeat' split at ho
       all_goals cases ho
     |eff=>simp only [ho] at h;exact qCh h (fun v=>ih _) (fun v=>ih _)
     |bad=>simp only [ho] at h
section
variable {P:Program} {N:Nat} {Q:qBa} {l:Env} {w:World}
theorem bF {id:Nat} {ops:List Oper} (h:∀ K:Env→World→Prop,(∀ l' w',Q .normal l' w'→K l' w')→V2 P N (cJ ops) K ops l w):W P N (.region id ops.toArray false) Q l w:=fun hk F =>
 wpIn_region_lit (qW4 F (K:=fun l w=>Q .normal l w) (fun l' w' hk' hK=>⟨F,l',rfl,rfl,hk',hK⟩) ops l w hk (h _ fun _ _ h=>h))
theorem yAn {ds:List (Option Nat)} {K:Env→World→Prop}:∀ (ops:List Oper) (l:Env) (w:World),V2 P N ds K ops l w→VC P N ds K ops l w
|[],l,w,h=>h
|o :: rest,l,w,h=>by
  rw [V2] at h;unfold out at h
  have ih:∀ l w,V2 P N ds K rest l w→VC P N ds K rest l w:=yAn rest
  show gd l ds o.guard _
  cases hg:qF4 l ds o.guard with
 |none=>simp only [hg] at h
 |some r =>
   refine zCw hg ?_;simp only [hg] at h
   cases hd:eJ N o.dst with
  |false=>cases r <;> simp only [hd] at h
  |true =>
    refine ⟨eQ hd,?_⟩
    cases r with
   |false=>simp only [hd] at h;exact ih _ _ h
   |true =>
     simp only [hd] at h;show bH P l o.op o.type w (fun v w'=>VC P N ds K rest (stp o.dst v l) w') (fun v w'=>VC P N ds K rest (stp o.dst v l) w')
     unfold bH
     cases hp:aP P l o.op with
    |some x =>
      obtain ⟨c,v⟩:=x;simp only [qEg,hp] at h;exact ⟨h.1,ih _ _ h.2⟩
    |none =>
      simp only [qEg,hp] at h
      cases ho:imm P l o.op w with
     |go c v w' =>
       simp only [ho] at h;exact sD (zEx (K:=fun _ _=>False) ho) (fun u x hu=>by obtain ⟨h1,h2⟩:=hu;subst h1;subst h2;exact ih _ _ h.2) (fun _ _ h=>h.elim)
     |skip =>
       exfalso
       unfold imm at ho
       repeat' split at ho
       all_goals cases ho
     |eff=>simp only [ho] at h;exact sD h (fun v w'=>ih _ _) (fun v w'=>ih _ _)
     |bad=>simp only [ho] at h
theorem qFm {id:Nat} {ops:List Oper} (keys:List Nat) (n:Nat) (hm:P.follows .mixedOrders=true) (cN:tN l=keys) (hok:yY keys ops n=true)
  (h:∀ K:Env→World→Prop,(∀ l' w',Q .normal l' w'→K l' w')→Vq P N (cJ ops) w (fun l'=>∀ w',Below w.heap.size w w'→V2s P N (cJ ops) K (ops.drop n) l' w') (ops.take n) l):W P N (.region id ops.toArray true) Q l w :=
 zFj keys n hm cN hok (fun K hK=>by
  have h1:=yAm _ _ (h K hK)
  have mono:∀ (ops':List Oper) (l:Env) (K1 K2:Env→Prop),(∀ l,K1 l→K2 l)→VCq P N (cJ ops) w K1 ops' l→VCq P N (cJ ops) w K2 ops' l:=by
   intro ops'
   induction ops' with
  |nil=>intro l K1 K2 hK h;exact hK _ h
  |cons o rest ih =>
    intro l K1 K2 hK h;obtain ⟨b,hb,hd,h⟩:=qLw h
    have:gd l (cJ ops) o.guard (·=b):=hb
    have gen:∀ (k:Bool→Prop),k b→gd l (cJ ops) o.guard k:=by
     intro k hk;unfold gd at hb ⊢;split at hb
     ·subst hb;exact hk
     ·split at hb
      ·split at hb
       ·subst hb;exact hk
       ·subst hb;exact hk
       ·exact hb.elim
      ·exact hb.elim
    refine gen _ ⟨hd,?_⟩
    cases b with
   |false=>exact ih _ _ _ hK h
   |true =>
     simp only [qDr] at h ⊢;unfold vcQ at h ⊢
     cases hp:aP P l o.op with
    |some x=>obtain ⟨c,v⟩:=x;simp only [hp] at h ⊢;exact ⟨h.1,ih _ _ _ hK h.2⟩
    |none=>simp only [hp] at h ⊢;exact qCh h (fun v=>ih _ _ _ hK) (fun v=>ih _ _ _ hK)
  exact mono _ _ _ _ (fun l' hl w' hw'=>yAn _ _ _ (hl w' hw')) h1)
end
def nr.{u} {α:Sort u} {a b:α} (h:a=b):a=b:=h
theorem qGb (t:Nat):lk [] t=none:=nr rfl
theorem qB4 (k:Nat) (v:Value) (r:Env) (t:Nat):lk ((k,v) :: r) t=if k=t then some v else lk r t:=nr rfl
theorem yDr (l:Env) (t:Nat):ev l (.tmp t)=lk l t:=nr rfl
theorem zSo (l:Env) (v:Value):ev l (.const v)=some v:=nr rfl
theorem zLu (l:Env) (g:Nat):ev l (.global g)=some (.pointer (some ⟨g,0,none⟩)):=nr rfl
theorem zYx (l:Env) (f:FuncId):ev l (.func f)=some (.func (.func f) #[] #[]):=nr rfl
theorem zYw (l:Env):evs l []=some []:=nr rfl
theorem zSn (l:Env) (x:Operand) (r:List Operand):evs l (x :: r)=match ev l x with|some v=>(match evs l r with|some vs=>some (v :: vs)|none=>none)|none=>none:=nr rfl
theorem zNe (k:Nat) (v:Value) (l:Env):stp (some k) v l=(k,v) :: l:=nr rfl
theorem zNf (v:Value) (l:Env):stp none v l=l:=nr rfl
theorem zSy  : cJ []=[]:=nr rfl
theorem zL1 (o:Oper) (r:List Oper):cJ (o :: r)=o.dst :: cJ r:=nr rfl
theorem zMp (k:Nat):nE k []=[]:=nr rfl
theorem zDl (k:Nat) (v:Value) (r:List Value):nE k (v :: r)=(k,v) :: nE (k + 1) r:=nr rfl
theorem zAl (k:IntKind) (x:Int) (k':IntKind) (y:Int):gT .add k x k' y=some (k=k',.int k (k.wrap (x + y))):=nr rfl
theorem qZ8 (k:IntKind) (x:Int) (k':IntKind) (y:Int):gT .sub k x k' y=some (k=k',.int k (k.wrap (x - y))):=nr rfl
theorem zAe (k:IntKind) (x:Int) (k':IntKind) (y:Int):gT .mul k x k' y=some (k=k',.int k (k.wrap (x * y))):=nr rfl
theorem zAc (k:IntKind) (x:Int) (k':IntKind) (y:Int):gT .quo k x k' y=some (k=k'∧y≠0,.int k (k.wrap (x.tdiv y))):=nr rfl
theorem zAb (k:IntKind) (x:Int) (k':IntKind) (y:Int):gT .rem k x k' y=some (k=k'∧y≠0,.int k (x.tmod y)):=nr rfl
theorem zAk (k:IntKind) (x:Int) (k':IntKind) (y:Int):gT .and k x k' y=some (k=k',.int k (bits .and k x y)):=nr rfl
theorem zJq (k:IntKind) (x:Int) (k':IntKind) (y:Int):gT .or k x k' y=some (k=k',.int k (bits .or k x y)):=nr rfl
theorem qZ7 (k:IntKind) (x:Int) (k':IntKind) (y:Int):gT .xor k x k' y=some (k=k',.int k (bits .xor k x y)):=nr rfl
theorem qNe (k:IntKind) (x:Int) (k':IntKind) (y:Int):gT .andNot k x k' y=some (k=k',.int k (bits .andNot k x y)):=nr rfl
theorem zAj (k:IntKind) (x:Int) (k':IntKind) (y:Int):gT .eql k x k' y=some (k=k',.bool (decide (x=y))):=nr rfl
theorem zAd (k:IntKind) (x:Int) (k':IntKind) (y:Int):gT .neq k x k' y=some (k=k',.bool (!decide (x=y))):=nr rfl
theorem zAf (k:IntKind) (x:Int) (k':IntKind) (y:Int):gT .lss k x k' y=some (k=k',.bool (decide (x < y))):=nr rfl
theorem zAg (k:IntKind) (x:Int) (k':IntKind) (y:Int):gT .leq k x k' y=some (k=k',.bool (decide (x≤y))):=nr rfl
theorem zAh (k:IntKind) (x:Int) (k':IntKind) (y:Int):gT .gtr k x k' y=some (k=k',.bool (decide (y < x))):=nr rfl
theorem zAi (k:IntKind) (x:Int) (k':IntKind) (y:Int):gT .geq k x k' y=some (k=k',.bool (decide (y≤x))):=nr rfl
theorem zAa (k:IntKind) (x:Int) (k':IntKind) (y:Int):gT .shl k x k' y=some (0≤y,.int k (k.wrap (x * 2 ^ (min y.toNat k.bits)))):=nr rfl
theorem qZ9 (k:IntKind) (x:Int) (k':IntKind) (y:Int):gT .shr k x k' y=some (0≤y,.int k (x.fdiv (2 ^ (min y.toNat k.bits)))):=nr rfl
theorem qXv (x y:Ba):rE .add x y=some (x.size + y.size≤9223372036854775807,.string (x ++ y)):=nr rfl
theorem qXu (x y:Ba):rE .eql x y=some (True,.bool (decide (x=y))):=nr rfl
theorem qXp (x y:Ba):rE .neq x y=some (True,.bool (!decide (x=y))):=nr rfl
theorem qXq (x y:Ba):rE .lss x y=some (True,.bool (Op.bytesLess x.toList y.toList)):=nr rfl
theorem qXr (x y:Ba):rE .leq x y=some (True,.bool (Op.bytesLess x.toList y.toList || decide (x=y))):=nr rfl
theorem qXs (x y:Ba):rE .gtr x y=some (True,.bool (!(Op.bytesLess x.toList y.toList || decide (x=y)))):=nr rfl
theorem qXt (x y:Ba):rE .geq x y=some (True,.bool (!Op.bytesLess x.toList y.toList)):=nr rfl
theorem qUc (P:Program) (b:BinOp) (t:TypeId) (k:IntKind) (x:Int) (k':IntKind) (y:Int):gF P b t (.int k x) (.int k' y)=gT b k x k' y:=nr rfl
theorem qT8 (P:Program) (b:BinOp) (t:TypeId) (x y:Ba):gF P b t (.string x) (.string y)=rE b x y:=nr rfl
theorem qUe (P:Program) (t:TypeId) (x y:Bool):gF P .eql t (.bool x) (.bool y)=some (qNl P t=true,.bool (x == y)):=nr rfl
theorem qUd (P:Program) (t:TypeId) (x y:Bool):gF P .neq t (.bool x) (.bool y)=some (qNl P t=true,.bool (!(x == y))):=nr rfl
theorem qUb (P:Program) (t:TypeId) (p:Option Addr):gF P .eql t (.pointer p) (.pointer none)=some (qH3 P t=true,.bool p.isNone):=nr rfl
theorem qUa (P:Program) (t:TypeId) (p:Option Addr):gF P .neq t (.pointer p) (.pointer none)=some (qH3 P t=true,.bool (!p.isNone)):=nr rfl
theorem qHi (P:Program) (t:TypeId) (a:Option Addr) (n c:Nat):gF P .eql t (.slice a n c) (.slice none 0 0)=some ((bV P t).isSome=true,.bool a.isNone):=nr rfl
theorem qT9 (P:Program) (t:TypeId) (a:Option Addr) (n c:Nat):gF P .neq t (.slice a n c) (.slice none 0 0)=some ((bV P t).isSome=true,.bool (!a.isNone)):=nr rfl
theorem qUf (P:Program) (b:BinOp) (t:TypeId) (x y:Array Value):gF P b t (.agg x) (.agg y)=none:=nr rfl
theorem zLx (P:Program) (t:TypeId) (xs ys:Array Value) (K:Bool→Prop):qA P .eql t (.agg xs) (.agg ys) K=∃ r,EqR P t xs ys r∧K r:=nr rfl
theorem zLw (P:Program) (t:TypeId) (xs ys:Array Value) (K:Bool→Prop):qA P .neq t (.agg xs) (.agg ys) K=∃ r,EqR P t xs ys r∧K (!r):=nr rfl
theorem qYw (b:Bool):qF1 .not (.bool b)=some (True,.bool (!b)):=nr rfl
theorem qYx (k:IntKind) (n:Int):qF1 .neg (.int k n)=some (True,.int k (k.wrap (0 - n))):=nr rfl
theorem qYv (k:IntKind) (n:Int):qF1 .xor (.int k n)=some (True,.int k (bits .xor k (if k.signed then -1 else k.max) n)):=nr rfl
theorem qRc (P:Program) (s d:TypeId) (k:IntKind) (n:Int):pD P s d (.int k n)=match qMt P d with|some k=>some ((P.underlying s).isSome=true,.int k (k.wrap n))|none=>none:=nr rfl
theorem qRb (P:Program) (s d:TypeId) (x:Ba):pD P s d (.string x)=match qAf P d with|true=>some ((P.underlying s).isSome=true∧qAf P d=true,.string x)|false=>none:=nr rfl
def qRa (P:Program) (t f:Nat) (cs:Array Value):oF P t f (.agg cs)=match qE8 P t f with|some (off,none)=>(match cs[off]? with|some v=>some (True,v)|none=>none)|some (off,some n)=>some (True,.agg (cs.extract off (off + n)))|none=>none:=nr (by unfold oF;cases h:qE8 P t f with|none=>rfl|some x=>obtain ⟨off,k⟩:=x;cases k <;> rfl)
theorem qH5 (P:Program) (t:TypeId) (a:Addr) (len c:Nat) (k:IntKind) (n:Int):dU P t (.slice (some a) len c) (.int k n)=match bV P t with|some (_,size)=>some (0≤n∧n < len,.pointer (some (a.add (n.toNat * size))))|none=>none:=nr rfl
theorem qH6 (P:Program) (t:TypeId) (a:Addr) (k:IntKind) (n:Int):dU P t (.pointer (some a)) (.int k n)=match qJ3 P t with|some (len,size)=>some (0≤n∧n < len,.pointer (some (a.add (n.toNat * size))))|none=>none:=nr rfl
theorem qT7 (P:Program) (t:TypeId) (s:Ba) (k:IntKind) (n:Int):qT P t (.string s) (.int k n)=some (qAf P t=true∧0≤n∧n < s.size,.int .u8 (dK s n.toNat)):=nr rfl
theorem zHs (l:Env) (d:Int):mE l none d=some d:=nr rfl
theorem zHr (l:Env) (x:Operand) (d:Int):mE l (some x) d=match ev l x with|some (.int _ n)=>some n|_=>none:=nr rfl
theorem qM8 (P:Program) (t:TypeId) (l:Env) (s:Ba) (lo hi:Option Operand):jB P t l (.string s) lo hi=match mE l lo 0,mE l hi s.size with|some a,some b=>some (qAf P t=true∧0≤a∧a≤b∧b≤s.size,.string (s.extract a.toNat b.toNat))|_,_=>none:=nr rfl
theorem qQ8 (P:Program) (t:TypeId) (l:Env) (p:Option Addr) (len c:Nat) (lo hi:Option Operand):jB P t l (.slice p len c) lo hi=match mE l lo 0,mE l hi len,bV P t with|some a,some b,some (_,size)=>some (0≤a∧a≤b∧b≤c,.slice (gW p c a.toNat size) (b.toNat - a.toNat) (c - a.toNat))|_,_,_=>none:=nr rfl
theorem zG9 (P:Program) (ats:Array TypeId) (a:Option Addr) (n c:Nat):bT P .len ats [.slice a n c]=some ((bV P (ats.getD 0 0)).isSome=true∧ats.size=1,.int .i64 n):=nr rfl
theorem qYz (P:Program) (ats:Array TypeId) (s:Ba):bT P .len ats [.string s]=some (qAf P (ats.getD 0 0)=true∧ats.size=1,.int .i64 s.size):=nr rfl
theorem zHa (P:Program) (ats:Array TypeId) (a:Option Addr) (n c:Nat):bT P .cap ats [.slice a n c]=some ((bV P (ats.getD 0 0)).isSome=true∧ats.size=1,.int .i64 c):=nr rfl
theorem zG8 (P:Program) (ats:Array TypeId) (k k':IntKind) (x y:Int):bT P .max ats [.int k x,.int k' y]=some (True,.int k (if x < y then y else x)):=nr rfl
theorem zG7 (P:Program) (ats:Array TypeId) (k k':IntKind) (x y:Int):bT P .min ats [.int k x,.int k' y]=some (True,.int k (if y < x then y else x)):=nr rfl
theorem zHb (P:Program) (ats:Array TypeId) (vs:List Value):bT P .append ats vs=none:=nr rfl
theorem qY0 (P:Program) (ats:Array TypeId) (vs:List Value):bT P .copy ats vs=none:=nr rfl
theorem zEe (P:Program) (l:Env) (x:Operand):aP P l (.move x)=match ev l x with|some v=>some (True,v)|none=>none:=nr rfl
theorem zHe (P:Program) (l:Env) (x:Operand):aP P l (.assign x)=match ev l x with|some v=>some (True,v)|none=>none:=nr rfl
theorem zV4 (P:Program) (l:Env) (c a b:Operand):aP P l (.pick c a b)=match ev l c with|some (.bool t)=>(match ev l a with|some u=>(match ev l b with|some v=>some (True,bif t then u else v)|none=>none)|none=>none)|_=>none:=nr rfl
theorem zPb (P:Program) (l:Env) (b:BinOp) (t:TypeId) (x y:Operand) (u:TypeId):aP P l (.binOp b t x y u)=match ev l x with|some X=>(match ev l y with|some Y=>gF P b t X Y|none=>none)|none=>none:=nr rfl
theorem yFu (P:Program) (l:Env) (u:UnOp) (t:TypeId) (x:Operand):aP P l (.unOp u t x)=match ev l x with|some X=>qF1 u X|none=>none:=nr rfl
theorem zV6 (P:Program) (l:Env) (s d:TypeId) (x:Operand):aP P l (.convert s d x)=match ev l x with|some X=>pD P s d X|none=>none:=nr rfl
theorem zN8 (P:Program) (l:Env) (t:TypeId) (x:Operand) (f:Nat):aP P l (.field t x f)=match ev l x with|some X=>oF P t f X|none=>none:=nr rfl
theorem qY2 (P:Program) (l:Env) (x:Operand) (i:Nat):aP P l (.extract x i)=match ev l x with|some (.tuple vs)=>(match vs[i]? with|some v=>some (True,v)|none=>none)|_=>none:=nr rfl
theorem zN9 (P:Program) (l:Env) (t:TypeId) (x:Operand) (f:Nat):aP P l (.fieldAddr t x f)=match ev l x with|some (.pointer (some a))=>(match eV P t f with|some off=>some (True,.pointer (some (a.add off)))|none=>none)|_=>none:=nr rfl
theorem zN7 (P:Program) (l:Env) (t:TypeId) (x i:Operand):aP P l (.indexAddr t x i)=match ev l x with|some X=>(match ev l i with|some I=>dU P t X I|none=>none)|none=>none:=nr rfl
theorem zN6 (P:Program) (l:Env) (t:TypeId) (x i:Operand):aP P l (.index t x i)=match ev l x with|some X=>(match ev l i with|some I=>qT P t X I|none=>none)|none=>none:=nr rfl
theorem zN3 (P:Program) (l:Env) (t:TypeId) (x:Operand) (lo hi:Option Operand):aP P l (.slice t x lo hi none)=match ev l x with|some X=>jB P t l X lo hi|none=>none:=nr rfl
theorem yBx (P:Program) (l:Env) (x:Operand):aP P l (.nilCheck x)=match ev l x with|some (.pointer (some a))=>some (True,.pointer (some a))|_=>none:=nr rfl
theorem qY3 (P:Program) (l:Env) (b:Builtin) (args:Array Operand) (ats:Array TypeId):aP P l (.call ⟨.builtin b,args,ats⟩)=match evs l args.toList with|some vs=>bT P b ats vs|none=>none:=nr rfl
theorem zV7 (P:Program) (l:Env) (f:Operand) (args:Array Operand) (ats:Array TypeId):aP P l (.call ⟨.value f,args,ats⟩)=none:=nr rfl
theorem zV5 (P:Program) (l:Env) (t:TypeId) (x:Operand):aP P l (.load t x)=none:=nr rfl
theorem zN2 (P:Program) (l:Env) (t:TypeId) (x y:Operand):aP P l (.store t x y)=none:=nr rfl
theorem zPc (P:Program) (l:Env) (t:TypeId):aP P l (.alloc t)=none:=nr rfl
theorem yBy (P:Program) (l:Env) (t:TypeId) (x:Operand):aP P l (.box t x)=none:=nr rfl
theorem zPa (P:Program) (l:Env) (t:TypeId) (ps:Array (Nat × Operand)):aP P l (.build t ps)=none:=nr rfl
theorem zHd (P:Program) (l:Env) (t:TypeId) (n:Nat) (ps:Array (Nat × Operand)):aP P l (.buildSlice t n ps)=none:=nr rfl
theorem zN5 (P:Program) (l:Env) (t:TypeId) (x y:Operand):aP P l (.makeSlice t x y)=none:=nr rfl
theorem zY1 (P:Program) (l:Env) (ty:TypeId) (w:World) (K KL:Value→World→Prop) (t:TypeId) (x:Operand):bZ P l (.load t x) ty w K KL=match ev l x with|some (.pointer (some a))=>(match bU P t with|some none=>(match w.cell? a with|some v=>K v w|none=>False)|some (some n)=>∃ cs,xZ w a n cs∧KL (.agg cs) w|none=>False)|_=>False:=nr rfl
theorem zSr (P:Program) (l:Env) (ty:TypeId) (w:World) (K KL:Value→World→Prop) (t:TypeId) (x y:Operand):bZ P l (.store t x y) ty w K KL=match ev l x with|some (.pointer (some a))=>(match ev l y with|some v=>∃ w',(storeVar t a v).run P w=.ok () w'∧KL undef w'|none=>False)|_=>False:=nr rfl
theorem zSu (P:Program) (l:Env) (ty:TypeId) (w:World) (K KL:Value→World→Prop) (t:TypeId) (ps:Array (Nat × Operand)):bZ P l (.build t ps) ty w K KL=match kY l ps.toList with|some ps=>∃ v,(∀ w,(Instr.build t ps.toArray).run P w=.ok v w)∧KL v w|none=>False:=nr rfl
theorem zLv (P:Program) (l:Env) (ty:TypeId) (w:World) (K KL:Value→World→Prop) (t:TypeId) (n:Nat) (ps:Array (Nat × Operand)):bZ P l (.buildSlice t n ps) ty w K KL=match kY l ps.toList with|some ps=>∃ v w',(Instr.buildSlice t n ps.toArray).run P w=.ok v w'∧KL v w'|none=>False:=nr rfl
theorem zSt (P:Program) (l:Env) (ty:TypeId) (w:World) (K KL:Value→World→Prop) (t:TypeId) (x y:Operand):bZ P l (.makeSlice t x y) ty w K KL=match ev l x with|some X=>(match ev l y with|some Y=>∃ v w',(Instr.makeSlice t X Y).run P w=.ok v w'∧KL v w'|none=>False)|none=>False:=nr rfl
theorem yDu (P:Program) (l:Env) (ty:TypeId) (w:World) (K KL:Value→World→Prop) (args:Array Operand) (ats:Array TypeId):bZ P l (.call ⟨.builtin .append,args,ats⟩) ty w K KL=match evs l args.toList with|some vs=>∃ v w',(Builtin.append_ ats ty vs.toArray).run P w=.ok v w'∧KL v w'|none=>False:=nr rfl
theorem zY2 (P:Program) (l:Env) (ty:TypeId) (w:World) (K KL:Value→World→Prop) (f:FuncId) (args:Array Operand) (ats:Array TypeId):bZ P l (.call ⟨.value (.func f),args,ats⟩) ty w K KL=match evs l args.toList with|some vs=>aB P f=true∧Calls P f vs.toArray w (Ret fun v w'=>KL v w')|none=>False:=nr rfl
theorem yDt (P:Program) (l:Env) (ty:TypeId) (w:World) (K KL:Value→World→Prop) (b:BinOp) (t:TypeId) (x y:Operand) (u:TypeId):bZ P l (.binOp b t x y u) ty w K KL=match ev l x with|some X=>(match ev l y with|some Y=>qA P b t X Y fun r=>KL (.bool r) w|none=>False)|none=>False:=nr rfl
theorem zYz (P:Program) (l:Env) (w:World) (K KL:Value→Prop) (t:TypeId) (x:Operand):qCz P l (.load t x) w K KL=match ev l x with|some (.pointer (some a))=>(match bU P t with|some none=>(match w.cell? a with|some v=>K v|none=>False)|some (some n)=>∃ cs,xZ w a n cs∧KL (.agg cs)|none=>False)|_=>False:=nr rfl
theorem zSp (P:Program) (l:Env) (w:World) (K KL:Value→Prop) (t:TypeId) (ps:Array (Nat × Operand)):qCz P l (.build t ps) w K KL=match kY l ps.toList with|some ps=>∃ v,(∀ w,(Instr.build t ps.toArray).run P w=.ok v w)∧KL v|none=>False:=nr rfl
theorem zY0 (P:Program) (l:Env) (w:World) (K KL:Value→Prop) (f:FuncId) (args:Array Operand) (ats:Array TypeId):qCz P l (.call ⟨.value (.func f),args,ats⟩) w K KL=match evs l args.toList with|some vs=>aB P f=true∧∃ v,(∀ w',Below w.heap.size w w'→Calls P f vs.toArray w' (Ret fun u w''=>u=v∧Below w.heap.size w w''))∧KL v|none=>False:=nr rfl
theorem yDs (P:Program) (l:Env) (w:World) (K KL:Value→Prop) (b:BinOp) (t:TypeId) (x y:Operand) (u:TypeId):qCz P l (.binOp b t x y u) w K KL=match ev l x with|some X=>(match ev l y with|some Y=>qA P b t X Y fun r=>KL (.bool r)|none=>False)|none=>False:=nr rfl
theorem zHg (l:Env):kY l []=some []:=nr rfl
theorem qZc (l:Env) (i:Nat) (x:Operand) (r:List (Nat × Operand)):kY l ((i,x) :: r)=match ev l x with|some v=>(match kY l r with|some vs=>some ((i,v) :: vs)|none=>none)|none=>none:=nr rfl
theorem zHl (l:Env) (ds:List (Option Nat)):qF4 l ds none=some true:=nr rfl
theorem zHk (l:Env) (ds:List (Option Nat)) (j:Nat) (want:Bool):qF4 l ds (some (j,want))=match ds[j]? with|some (some d)=>(match lk l d with|some (.bool b)=>some (b == want)|some _=>some false|none=>none)|_=>none:=nr rfl
theorem zC8 (N:Nat):eJ N none=true:=nr rfl
theorem zC7 (N k:Nat):eJ N (some k)=decide (k < N):=nr rfl
theorem yB0 (P:Program) (N:Nat) (ds:List (Option Nat)) (l:Env) (o:Oper) (w:World):out P N ds l o w=match qF4 l ds o.guard with|some true=>(match eJ N o.dst with|true=>qEg P l o.op w|false=>.bad)|some false=>(match eJ N o.dst with|true=>.skip|false=>.bad)|none=>.bad:=nr rfl
theorem zWb (P:Program) (N:Nat) (ds:List (Option Nat)) (l:Env) (o:Oper) (w:World):zWc P N ds l o w=match qF4 l ds o.guard with|some true=>(match eJ N o.dst with|true=>zPs P l o.op w|false=>.bad)|some false=>(match eJ N o.dst with|true=>.skip|false=>.bad)|none=>.bad:=nr rfl
theorem zPu (P:Program) (l:Env) (o:Op) (w:World):qEg P l o w=match aP P l o with|some (c,v)=>.go c v w|none=>imm P l o w:=nr rfl
theorem zWd (P:Program) (l:Env) (o:Op) (w:World):zPs P l o w=match aP P l o with|some (c,v)=>.go c v w|none=>qNf P l o w:=nr rfl
theorem zQw (P:Program) (l:Env) (w:World) (t:TypeId) (x:Operand):imm P l (.load t x) w=match ev l x with|some (.pointer (some a))=>(match bU P t with|some none=>(match w.cell? a with|some v=>.go True v w|none=>.bad)|some (some _)=>.eff|none=>.bad)|_=>.bad:=nr rfl
theorem zJ0 (P:Program) (l:Env) (w:World) (t:TypeId) (x:Operand):qNf P l (.load t x) w=match ev l x with|some (.pointer (some a))=>(match bU P t with|some none=>(match w.cell? a with|some v=>.go True v w|none=>.bad)|some (some _)=>.eff|none=>.bad)|_=>.bad:=nr rfl
theorem zJz (P:Program) (l:Env) (w:World) (t:TypeId):imm P l (.alloc t) w=match eD P t with|some z=>.go True (.pointer (some ⟨w.heap.size,0,none⟩)) (w.alloc (.cells z t))|none=>.bad:=nr rfl
theorem zW7 (P:Program) (l:Env) (w:World) (t:TypeId) (x:Operand):imm P l (.box t x) w=match ev l x with|some v=>.go True (.pointer (some ⟨w.heap.size,0,none⟩)) (w.alloc (.cells v.cells t))|none=>.bad:=nr rfl
theorem zJv (P:Program) (l:Env) (w:World) (t:TypeId) (x y:Operand):imm P l (.store t x y) w=.eff:=nr rfl
theorem zJy (P:Program) (l:Env) (w:World) (t:TypeId) (ps:Array (Nat × Operand)):imm P l (.build t ps) w=.eff:=nr rfl
theorem zQx (P:Program) (l:Env) (w:World) (c:Call):imm P l (.call c) w=.eff:=nr rfl
theorem zW8 (P:Program) (l:Env) (w:World) (b:BinOp) (t:TypeId) (x y:Operand) (u:TypeId):imm P l (.binOp b t x y u) w=.eff:=nr rfl
theorem zAr (P:Program) (l:Env) (w:World) (t:TypeId) (ps:Array (Nat × Operand)):qNf P l (.build t ps) w=.eff:=nr rfl
theorem zJ1 (P:Program) (l:Env) (w:World) (c:Call):qNf P l (.call c) w=.eff:=nr rfl
theorem zQz (P:Program) (l:Env) (w:World) (b:BinOp) (t:TypeId) (x y:Operand) (u:TypeId):qNf P l (.binOp b t x y u) w=.eff:=nr rfl
theorem zAq (P:Program) (l:Env) (w:World) (t:TypeId) (n:Nat) (ps:Array (Nat × Operand)):imm P l (.buildSlice t n ps) w=.eff:=nr rfl
theorem zJx (P:Program) (l:Env) (w:World) (t:TypeId) (x y:Operand):imm P l (.makeSlice t x y) w=.eff:=nr rfl
theorem yAs (P:Program) (N:Nat) (ds:List (Option Nat)) (K:Env→World→Prop) (l:Env) (w:World):V2 P N ds K [] l w=K l w:=nr rfl
theorem zUg (P:Program) (N:Nat) (ds:List (Option Nat)) (K:Env→World→Prop) (o:Oper) (rest:List Oper) (l:Env) (w:World):V2 P N ds K (o :: rest) l w=match out P N ds l o w with|.go c v w'=>c∧V2 P N ds K rest (stp o.dst v l) w'|.skip=>V2 P N ds K rest (stp o.dst undef l) w|.eff=>bZ P l o.op o.type w (fun v w'=>V2s P N ds K rest (stp o.dst v l) w') (fun v w'=>V2s P N ds K rest (stp o.dst v l) w')|.bad=>False:=nr rfl
theorem yAr (P:Program) (N:Nat) (ds:List (Option Nat)) (w:World) (K:Env→Prop) (l:Env):Vq P N ds w K [] l=K l:=nr rfl
theorem zUe (P:Program) (N:Nat) (ds:List (Option Nat)) (w:World) (K:Env→Prop) (o:Oper) (rest:List Oper) (l:Env):Vq P N ds w K (o :: rest) l=match zWc P N ds l o w with|.go c v _=>c∧Vq P N ds w K rest (stp o.dst v l)|.skip=>Vq P N ds w K rest (stp o.dst undef l)|.eff=>qCz P l o.op w (fun v=>Vqs P N ds w K rest (stp o.dst v l)) (fun v=>Vqs P N ds w K rest (stp o.dst v l))|.bad=>False:=nr rfl
theorem zM5  : undef=.tuple #[]:=nr rfl
end Go.Eng
