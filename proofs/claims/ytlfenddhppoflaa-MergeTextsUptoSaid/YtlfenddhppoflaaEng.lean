/- What the walk of the law stands on. -/
import Derived.WalkKit
import Derived.WalkSpells
import Derived.WalkLawsBesides
import Derived.Deep.Quiet
import Derived.StillTail
import Derived.Deep.LoopGhost
set_option linter.unusedSimpArgs false
set_option linter.unusedVariables false
namespace Go.Eng
open Go Go.RowKit

def lo64 : Int := -9223372036854775808
def hi64 : Int := 9223372036854775807
def Fits (n : Int) : Prop := lo64 ≤ n ∧ n ≤ hi64
theorem wrapI {n : Int} (h : Fits n) : IntKind.i64.wrap n = n := IntWalk.i64_in n ⟨h.1, h.2⟩
theorem fits_small {n : Int} (h1 : -4611686018427387904 ≤ n) (h2 : n ≤ 4611686018427387904) : Fits n := ⟨by unfold lo64; omega, by unfold hi64; omega⟩

abbrev Env := List (Nat × Value)
def lk : Env → Nat → Option Value
 | [], _ => none
 | (k, v) :: r, t => if k = t then some v else lk r t
def ev (l : Env) : Operand → Option Value
 | .tmp t => lk l t
 | .const v => some v
 | .global g => some (.pointer (some ⟨g, 0, none⟩))
 | .func f => some (.func (.func f) #[] #[])
def evs (l : Env) : List Operand → Option (List Value)
 | [] => some []
 | x :: r => match ev l x with
  | some v => match evs l r with
   | some vs => some (v :: vs)
   | none => none
  | none => none
def stp (d : Option Nat) (v : Value) (l : Env) : Env :=
 match d with
 | some k => (k, v) :: l
 | none => l
def sets (base : Array Value) : Env → Array Value
 | [] => base
 | (k, v) :: r => (sets base r).setIfInBounds k v
structure Fr (N : Nat) where
 base : Array Value
 hN : base.size = N
def mk {N : Nat} (F : Fr N) (l : Env) : Act := ⟨sets F.base l, []⟩
def keysLt (N : Nat) : Env → Bool
 | [] => true
 | p :: r => Nat.blt p.1 N && keysLt N r
def keep (ks : List Nat) (l : Env) : Env :=
 match ks with
 | [] => []
 | k :: r => match lk l k with
  | some v => (k, v) :: keep r l
  | none => keep r l

theorem sets_size (b : Array Value) (l : Env) : (sets b l).size = b.size := by
 induction l with
 | nil => rfl
 | cons p r ih => obtain ⟨k, v⟩ := p; simp [sets, ih]
theorem get_sets {N : Nat} (F : Fr N) : ∀ {l : Env} {t : Nat} {v : Value}, keysLt N l = true → lk l t = some v → (sets F.base l)[t]? = some v
 | [], t, v, _, h => by simp [lk] at h
 | (k, u) :: r, t, v, hk, h => by
  simp only [keysLt, Bool.and_eq_true] at hk
  have hkn : k < N := Nat.le_of_ble_eq_true hk.1
  simp only [lk] at h
  simp only [sets]
  by_cases e : k = t
  ·subst e
   simp only [if_true, Option.some.injEq] at h
   subst h
   rw [Array.getElem?_setIfInBounds_self_of_lt (by rw [sets_size, F.hN]; exact hkn)]
  ·rw [if_neg e] at h
   rw [Array.getElem?_setIfInBounds_ne e]
   exact get_sets F hk.2 h
theorem eval_mk {N : Nat} (F : Fr N) {l : Env} {x : Operand} {v : Value} (hk : keysLt N l = true) (h : ev l x = some v) : (mk F l).eval x = v := by
 cases x with
 | tmp t =>
  simp only [ev] at h
  simp only [Act.eval, mk, Array.getD_eq_getD_getElem?, get_sets F hk h, Option.getD_some]
 | const c => simpa [ev, Act.eval] using h
 | global g => simpa [ev, Act.eval] using h
 | func f => simpa [ev, Act.eval] using h
theorem keysLt_put {N : Nat} {d : Option Nat} {v : Value} {l : Env} (h : keysLt N l = true) (hd : ∀ k, d = some k → k < N) : keysLt N (stp d v l) = true := by
 cases d with
 | none => exact h
 | some k =>
  have : k < N := hd k rfl
  simp [stp, keysLt, h, Nat.blt, Nat.ble_eq]; omega
theorem put_mk {N : Nat} (F : Fr N) (d : Option Nat) (v : Value) (l : Env) : (mk F l).put d v = mk F (stp d v l) := by
 cases d <;> rfl
theorem keep_get {ks : List Nat} {l : Env} : ∀ {k : Nat} {v : Value}, lk (keep ks l) k = some v → lk l k = some v := by
 induction ks with
 | nil => intro k v h; simp [keep, lk] at h
 | cons a r ih =>
  intro k v h
  simp only [keep] at h
  split at h
  ·rename_i u hu
   simp only [lk] at h
   by_cases e : a = k
   ·subst e; rw [if_pos rfl] at h; rw [← h]; exact hu
   ·rw [if_neg e] at h; exact ih h
  ·exact ih h
theorem sets_same {base : Array Value} (l : Env) (h : ∀ p ∈ l, base[p.1]? = some p.2) : sets base l = base := by
 induction l with
 | nil => rfl
 | cons p r ih =>
  obtain ⟨k, v⟩ := p
  simp only [sets]
  rw [ih (fun q hq => h q (List.mem_cons_of_mem _ hq))]
  have := h (k, v) List.mem_cons_self
  apply Array.ext_getElem?
  intro i
  by_cases e : k = i
  ·subst e
   rw [Array.getElem?_setIfInBounds_self]
   simp only at this
   split
   ·exact this.symm
   ·rename_i hn; simp [Array.getElem?_eq_none (Nat.le_of_not_lt hn)] at this
  ·rw [Array.getElem?_setIfInBounds_ne e]
theorem keep_mem {ks : List Nat} {l : Env} : ∀ p ∈ keep ks l, lk l p.1 = some p.2 := by
 induction ks with
 | nil => intro p h; simp [keep] at h
 | cons a r ih =>
  intro p h
  simp only [keep] at h
  split at h
  ·rename_i u hu
   rcases List.mem_cons.1 h with e | e
   ·subst e; exact hu
   ·exact ih p e
  ·exact ih p h
theorem mk_keep {N : Nat} (F : Fr N) {l : Env} (hk : keysLt N l = true) (ks : List Nat) : ∃ F' : Fr N, mk F l = mk F' (keep ks l) :=
 ⟨⟨sets F.base l, by rw [sets_size, F.hN]⟩, by
  show Act.mk _ _ = Act.mk _ _
  rw [sets_same (keep ks l) (fun p hp => get_sets F hk (keep_mem p hp))]⟩

def uSlice (P : Program) (t : TypeId) : Option (Nat × Nat) :=
 match P.underlying t with
 | some (.slice e) => (P.info? e).map fun i => (e, i.size)
 | _ => none
def uArr (P : Program) (t : TypeId) : Option (Nat × Nat) :=
 match P.underlying t with
 | some (.array n e) => (P.info? e).map fun i => (n, i.size)
 | _ => none
def uStr (P : Program) (t : TypeId) : Bool := match P.underlying t with | some .string => true | _ => false
def uBool (P : Program) (t : TypeId) : Bool := match P.underlying t with | some .bool => true | _ => false
def uPtr (P : Program) (t : TypeId) : Bool := match P.underlying t with | some (.pointer _) => true | _ => false
def uInt (P : Program) (t : TypeId) : Option IntKind := match P.underlying t with | some (.int k) => some k | _ => none
def kindT (P : Program) (t : TypeId) : Option (Option Nat) :=
 match P.underlying t, P.info? t with
 | some (.struct _), some i => some (some i.size)
 | some (.array _ _), some i => some (some i.size)
 | some _, some i => if i.size = 1 then some none else none
 | _, _ => none
def fOff (P : Program) (t f : Nat) : Option Nat :=
 match P.underlying t with
 | some (.struct fs) => match fs[f]? with
  | some fl => match P.info? fl.type with
   | some i => if i.size = 0 then none else some fl.offset
   | none => none
  | none => none
 | _ => none
def fPart (P : Program) (t f : Nat) : Option (Nat × Option Nat) :=
 match P.underlying t with
 | some (.struct fs) => match fs[f]? with
  | some fl => (kindT P fl.type).map fun k => (fl.offset, k)
  | none => none
 | _ => none
def zeroT (P : Program) (t : TypeId) : Option (Array Value) := match P.info? t with
 | some i => i.zero.map (·.cells)
 | none => none
def callable (P : Program) (f : FuncId) : Bool := match P.funcs[f]? with
 | some fn => !(fn.name == "runtime.NumGoroutine") && fn.body.isSome
 | none => false

def intBin (b : BinOp) (k : IntKind) (x : Int) (k' : IntKind) (y : Int) : Option (Prop × Value) :=
 match b with
 | .add => some (k = k', .int k (k.wrap (x + y)))
 | .sub => some (k = k', .int k (k.wrap (x - y)))
 | .mul => some (k = k', .int k (k.wrap (x * y)))
 | .quo => some (k = k' ∧ y ≠ 0, .int k (k.wrap (x.tdiv y)))
 | .rem => some (k = k' ∧ y ≠ 0, .int k (x.tmod y))
 | .and => some (k = k', .int k (bits .and k x y))
 | .or => some (k = k', .int k (bits .or k x y))
 | .xor => some (k = k', .int k (bits .xor k x y))
 | .andNot => some (k = k', .int k (bits .andNot k x y))
 | .eql => some (k = k', .bool (decide (x = y)))
 | .neq => some (k = k', .bool (!decide (x = y)))
 | .lss => some (k = k', .bool (decide (x < y)))
 | .leq => some (k = k', .bool (decide (x ≤ y)))
 | .gtr => some (k = k', .bool (decide (y < x)))
 | .geq => some (k = k', .bool (decide (y ≤ x)))
 | .shl => some (0 ≤ y, .int k (k.wrap (x * 2 ^ (min y.toNat k.bits))))
 | .shr => some (0 ≤ y, .int k (x.fdiv (2 ^ (min y.toNat k.bits))))
def strBin (b : BinOp) (x y : ByteArray) : Option (Prop × Value) :=
 match b with
 | .add => some (x.size + y.size ≤ 9223372036854775807, .string (x ++ y))
 | .eql => some (True, .bool (decide (x = y)))
 | .neq => some (True, .bool (!decide (x = y)))
 | .lss => some (True, .bool (Op.bytesLess x.toList y.toList))
 | .leq => some (True, .bool (Op.bytesLess x.toList y.toList || decide (x = y)))
 | .gtr => some (True, .bool (!(Op.bytesLess x.toList y.toList || decide (x = y))))
 | .geq => some (True, .bool (!Op.bytesLess x.toList y.toList))
 | _ => none
def pureBin (P : Program) (b : BinOp) (t : TypeId) (X Y : Value) : Option (Prop × Value) :=
 match X, Y with
 | .int k x, .int k' y => intBin b k x k' y
 | .string x, .string y => strBin b x y
 | .bool x, .bool y => match b with
  | .eql => some (uBool P t = true, .bool (x == y))
  | .neq => some (uBool P t = true, .bool (!(x == y)))
  | _ => none
 | .pointer p, .pointer none => match b with
  | .eql => some (uPtr P t = true, .bool p.isNone)
  | .neq => some (uPtr P t = true, .bool (!p.isNone))
  | _ => none
 | .slice a _ _, .slice none 0 0 => match b with
  | .eql => some ((uSlice P t).isSome = true, .bool a.isNone)
  | .neq => some ((uSlice P t).isSome = true, .bool (!a.isNone))
  | _ => none
 | _, _ => none

theorem toList_dec (x y : ByteArray) : (x.toList == y.toList) = decide (x = y) := by
 rw [ ByteArray.toList_eq, ByteArray.toList_eq, Bool.eq_iff_iff]
 simp only [beq_iff_eq, decide_eq_true_eq]
 exact ⟨fun h => by cases x; cases y; congr 1; exact Array.toList_inj.1 h, fun h => by rw [h]⟩

theorem intBin_ok {P : Program} {b : BinOp} {t : TypeId} {x0 y0 : Operand} {k k' : IntKind} {x y : Int} {c : Prop} {v : Value} (h : intBin b k x k' y = some (c, v)) (hc : c) (w : World) :
  (do eqGuard b t x0 y0 (.int k x) (.int k' y); binOp b t (.int k x) (.int k' y) : Sem Value).run P w = .ok v w := by
 rw [eqGuard_at_int]
 cases b <;> simp only [intBin, Option.some.injEq, Prod.mk.injEq] at h <;> obtain ⟨rfl, rfl⟩ := h
 case quo => obtain ⟨rfl, hy⟩ := hc; simp [binOp, Op.intDiv, hy]
 case rem => obtain ⟨rfl, hy⟩ := hc; simp [binOp, Op.intDiv, hy]
 case shl => simp [binOp, Op.shift, Int.not_lt.2 hc]
 case shr => simp [binOp, Op.shift, Int.not_lt.2 hc]
 case and => subst hc; simp [binOp, intBits_and]
 case or => subst hc; simp [binOp, intBits_or]
 case xor => subst hc; simp [binOp, intBits_xor]
 case andNot => subst hc; simp [binOp, intBits_andNot]
 case add => subst hc; simp [binOp, Op.intArith]
 case sub => subst hc; simp [binOp, Op.intArith]
 case mul => subst hc; simp [binOp, Op.intArith]
 case eql => subst hc; simp [binOp, Op.intCmp]; rfl
 case neq => subst hc; simp [binOp, Op.intCmp, bne]; rfl
 all_goals (subst hc; simp [binOp, Op.intCmp])
theorem strBin_ok {P : Program} {b : BinOp} {t : TypeId} {x0 y0 : Operand} {x y : ByteArray} {c : Prop} {v : Value} (h : strBin b x y = some (c, v)) (hc : c) (w : World) :
  (do eqGuard b t x0 y0 (.string x) (.string y); binOp b t (.string x) (.string y) : Sem Value).run P w = .ok v w := by
 rw [eqGuard_at_string]
 cases b <;> simp only [strBin, Option.some.injEq, Prod.mk.injEq, reduceCtorEq] at h <;> obtain ⟨rfl, rfl⟩ := h
 case add => simp only [binOp]; simpa using run_string_add_sum (P := P) w x y hc
 all_goals simp [binOp, Op.stringOp, toList_dec]

theorem pureBin_ok {P : Program} {b : BinOp} {t : TypeId} {x0 y0 : Operand} {X Y : Value} {c : Prop} {v : Value} (h : pureBin P b t X Y = some (c, v)) (hc : c) (w : World) :
  (do eqGuard b t x0 y0 X Y; binOp b t X Y : Sem Value).run P w = .ok v w := by
 unfold pureBin at h
 split at h
 ·exact intBin_ok h hc w
 ·exact strBin_ok h hc w
 ·rename_i x y
  rw [eqGuard_at_bool]
  split at h <;> simp only [Option.some.injEq, Prod.mk.injEq, reduceCtorEq] at h <;> obtain ⟨rfl, rfl⟩ := h
  all_goals
   have hu : P.underlying t = some .bool := by
    unfold uBool at hc
    split at hc
    ·assumption
    ·cases hc
   simp [binOp, Op.equal, Op.maxDepth, run_equalIn_bool w 9999 t _ _ hu]
 ·rename_i p
  rw [eqGuard_at_pointer]
  have hu : uPtr P t = true → P.underlying t = some (.pointer (P.pointee t)) := by
   intro hc
   unfold uPtr at hc
   split at hc
   ·rename_i e he; simp [Program.pointee, he]
   ·cases hc
  split at h <;> simp only [Option.some.injEq, Prod.mk.injEq, reduceCtorEq] at h <;> obtain ⟨rfl, rfl⟩ := h
  ·simpa using run_eql_pointer_nil (P := P) w t p (hu hc)
  ·simpa using run_neq_pointer_nil (P := P) w t p (hu hc)
 ·rename_i a l c'
  rw [eqGuard_at_slice]
  have hu : (uSlice P t).isSome = true → ∃ e, P.underlying t = some (.slice e) := by
   intro hc
   unfold uSlice at hc
   split at hc
   ·rename_i e he; exact ⟨e, he⟩
   ·cases hc
  split at h <;> simp only [Option.some.injEq, Prod.mk.injEq, reduceCtorEq] at h <;> obtain ⟨rfl, rfl⟩ := h
  ·obtain ⟨e, he⟩ := hu hc
   simp [binOp, run_equal_slice_nil (P := P) w t e a l c' he]
  ·obtain ⟨e, he⟩ := hu hc
   simpa using run_neq_slice_nil (P := P) w t e a l c' he
 ·cases h

def oInt (l : Env) (o : Option Operand) (d : Int) : Option Int :=
 match o with
 | none => some d
 | some x => match ev l x with
  | some (.int _ n) => some n
  | _ => none
def pureUn (u : UnOp) (X : Value) : Option (Prop × Value) :=
 match u, X with
 | .not, .bool b => some (True, .bool (!b))
 | .neg, .int k n => some (True, .int k (k.wrap (0 - n)))
 | .xor, .int k n => some (True, .int k (bits .xor k (if k.signed then -1 else k.max) n))
 | _, _ => none
def pureConv (P : Program) (s d : TypeId) (X : Value) : Option (Prop × Value) :=
 match X with
 | .int _ n => match uInt P d with
  | some k => some ((P.underlying s).isSome = true, .int k (k.wrap n))
  | none => none
 | .string x => match uStr P d with
  | true => some ((P.underlying s).isSome = true ∧ uStr P d = true, .string x)
  | false => none
 | _ => none
def pureField (P : Program) (t f : Nat) (X : Value) : Option (Prop × Value) :=
 match X, fPart P t f with
 | .agg cs, some (off, none) => match cs[off]? with
  | some v => some (True, v)
  | none => none
 | .agg cs, some (off, some n) => some (True, .agg (cs.extract off (off + n)))
 | _, _ => none
def pureIndexAddr (P : Program) (t : TypeId) (X I : Value) : Option (Prop × Value) :=
 match X, I with
 | .slice (some a) len _, .int _ n => match uSlice P t with
  | some (_, size) => some (0 ≤ n ∧ n < len, .pointer (some (a.add (n.toNat * size))))
  | none => none
 | .pointer (some a), .int _ n => match uArr P t with
  | some (len, size) => some (0 ≤ n ∧ n < len, .pointer (some (a.add (n.toNat * size))))
  | none => none
 | _, _ => none
def byteAt (s : ByteArray) (n : Nat) : Int := ((s.data.getD n 0).toNat : Int)
def aCell (P : Program) (t : TypeId) : Option Nat :=
 match P.underlying t with
 | some (.array n e) => match kindT P e with
  | some none => some n
  | _ => none
 | _ => none
def pureIndexA (cs : Array Value) (n : Int) : Option Nat → Option (Prop × Value)
 | some len => match cs[n.toNat]? with
  | some v => some (0 ≤ n ∧ n < len, v)
  | none => none
 | none => none
def pureIndex (P : Program) (t : TypeId) (X I : Value) : Option (Prop × Value) :=
 match X, I with
 | .agg cs, .int _ n => pureIndexA cs n (aCell P t)
 | .string s, .int _ n => some (uStr P t = true ∧ 0 ≤ n ∧ n < s.size, .int .u8 (byteAt s n.toNat))
 | _, _ => none
def subAddr (a : Option Addr) (cap lo size : Nat) : Option Addr := if cap = lo then a else a.map (·.add (lo * size))
def pureSlice (P : Program) (t : TypeId) (l : Env) (X : Value) (lo hi : Option Operand) : Option (Prop × Value) :=
 match X with
 | .string s => match oInt l lo 0, oInt l hi s.size with
  | some a, some b => some (uStr P t = true ∧ 0 ≤ a ∧ a ≤ b ∧ b ≤ s.size, .string (s.extract a.toNat b.toNat))
  | _, _ => none
 | .slice p len cap => match oInt l lo 0, oInt l hi len, uSlice P t with
  | some a, some b, some (_, size) => some (0 ≤ a ∧ a ≤ b ∧ b ≤ cap, .slice (subAddr p cap a.toNat size) (b.toNat - a.toNat) (cap - a.toNat))
  | _, _, _ => none
 | _ => none
def pureBuiltin (P : Program) (b : Builtin) (ats : Array TypeId) (vs : List Value) : Option (Prop × Value) :=
 match b, vs with
 | .len, [.slice _ n _] => some ((uSlice P (ats.getD 0 0)).isSome = true ∧ ats.size = 1, .int .i64 n)
 | .len, [.string s] => some (uStr P (ats.getD 0 0) = true ∧ ats.size = 1, .int .i64 s.size)
 | .cap, [.slice _ _ c] => some ((uSlice P (ats.getD 0 0)).isSome = true ∧ ats.size = 1, .int .i64 c)
 | .max, [.int k x, .int _ y] => some (True, .int k (if x < y then y else x))
 | .min, [.int k x, .int _ y] => some (True, .int k (if y < x then y else x))
 | _, _ => none
def pureOp (P : Program) (l : Env) (o : Op) : Option (Prop × Value) :=
 match o with
 | .move x => match ev l x with | some v => some (True, v) | none => none
 | .assign x => match ev l x with | some v => some (True, v) | none => none
 | .pick c a b => match ev l c with
  | some (.bool t) => match ev l a with
   | some u => match ev l b with
    | some v => some (True, bif t then u else v)
    | none => none
   | none => none
  | _ => none
 | .binOp b t x y _ => match ev l x with
  | some X => match ev l y with
   | some Y => pureBin P b t X Y
   | none => none
  | none => none
 | .unOp u _ x => match ev l x with | some X => pureUn u X | none => none
 | .convert s d x => match ev l x with | some X => pureConv P s d X | none => none
 | .field t x f => match ev l x with | some X => pureField P t f X | none => none
 | .extract x i => match ev l x with
  | some (.tuple vs) => match vs[i]? with | some v => some (True, v) | none => none
  | _ => none
 | .fieldAddr t x f => match ev l x with
  | some (.pointer (some a)) => match fOff P t f with
   | some off => some (True, .pointer (some (a.add off)))
   | none => none
  | _ => none
 | .indexAddr t x i => match ev l x with
  | some X => match ev l i with | some I => pureIndexAddr P t X I | none => none
  | none => none
 | .index t x i => match ev l x with
  | some X => match ev l i with | some I => pureIndex P t X I | none => none
  | none => none
 | .slice t x lo hi none => match ev l x with | some X => pureSlice P t l X lo hi | none => none
 | .nilCheck x => match ev l x with
  | some (.pointer (some a)) => some (True, .pointer (some a))
  | _ => none
 | .call ⟨.builtin b, args, ats⟩ => match evs l args.toList with | some vs => pureBuiltin P b ats vs | none => none
 | _ => none

theorem uSlice_some {P : Program} {t : TypeId} {x : Nat × Nat} (h : uSlice P t = some x) : P.underlying t = some (.slice x.1) ∧ ∃ i, P.info? x.1 = some i ∧ i.size = x.2 := by
 unfold uSlice at h
 split at h
 ·rename_i e he
  cases hi : P.info? e with
  | none => simp [hi] at h
  | some i => simp only [hi, Option.map_some, Option.some.injEq] at h; subst h; exact ⟨he, i, hi, rfl⟩
 ·cases h
theorem uArr_some {P : Program} {t : TypeId} {x : Nat × Nat} (h : uArr P t = some x) : ∃ e i, P.underlying t = some (.array x.1 e) ∧ P.info? e = some i ∧ i.size = x.2 := by
 unfold uArr at h
 split at h
 ·rename_i n e he
  cases hi : P.info? e with
  | none => simp [hi] at h
  | some i => simp only [hi, Option.map_some, Option.some.injEq] at h; subst h; exact ⟨e, i, he, hi, rfl⟩
 ·cases h
theorem uStr_some {P : Program} {t : TypeId} (h : uStr P t = true) : P.underlying t = some .string := by
 unfold uStr at h
 split at h
 ·assumption
 ·cases h
theorem uInt_some {P : Program} {t : TypeId} {k : IntKind} (h : uInt P t = some k) : P.underlying t = some (.int k) := by
 unfold uInt at h
 split at h
 ·rename_i k' hk; cases h; exact hk
 ·cases h
theorem kindT_scalar {P : Program} {t : TypeId} (h : kindT P t = some none) : ∃ d, P.underlying t = some d ∧ (∀ fs, d ≠ .struct fs) ∧ (∀ n e, d ≠ .array n e) ∧ ∃ i, P.info? t = some i ∧ i.size = 1 := by
 unfold kindT at h
 split at h
 ·cases h
 ·cases h
 ·rename_i d i h1 h2 hd hi
  refine ⟨d, hd, fun fs e => h1 fs e, fun n e e' => h2 n e e', i, hi, ?_⟩
  split at h
  ·assumption
  ·cases h
 ·cases h
theorem kindT_agg {P : Program} {t : TypeId} {n : Nat} (h : kindT P t = some (some n)) : (∃ i, P.info? t = some i ∧ i.size = n) ∧ ((∃ fs, P.underlying t = some (.struct fs)) ∨ ∃ m e, P.underlying t = some (.array m e)) := by
 unfold kindT at h
 split at h
 ·rename_i fs i hf hi; cases h; exact ⟨⟨i, hi, rfl⟩, .inl ⟨fs, hf⟩⟩
 ·rename_i m e i hf hi; cases h; exact ⟨⟨i, hi, rfl⟩, .inr ⟨m, e, hf⟩⟩
 ·split at h <;> cases h
 ·cases h
theorem run_isAgg_scalar {P : Program} {t : TypeId} (h : kindT P t = some none) (w : World) : (isAgg t).run P w = .ok false w := by
 obtain ⟨d, hd, h1, h2, _⟩ := kindT_scalar h
 unfold isAgg
 rw [Sem.run_bind, run_underlying hd w]
 cases d <;> simp_all
theorem run_isAgg_agg {P : Program} {t : TypeId} {n : Nat} (h : kindT P t = some (some n)) (w : World) : (isAgg t).run P w = .ok true w := by
 obtain ⟨_, ⟨fs, hd⟩ | ⟨m, e, hd⟩⟩ := kindT_agg h <;>
 ·unfold isAgg
  rw [Sem.run_bind, run_underlying hd w]
  simp
theorem run_sizeOf_agg {P : Program} {t : TypeId} {n : Nat} (h : kindT P t = some (some n)) (w : World) : (sizeOf t).run P w = .ok n w := by
 obtain ⟨⟨i, hi, hs⟩, _⟩ := kindT_agg h
 simp [sizeOf, typeInfo, hi, hs]
theorem evs_map {l : Env} {ρ : Operand → Value} (hρ : ∀ x X, ev l x = some X → ρ x = X) : ∀ {xs : List Operand} {vs : List Value}, evs l xs = some vs → xs.map ρ = vs
 | [], vs, h => by simp only [evs, Option.some.injEq] at h; subst h; rfl
 | x :: r, vs, h => by
  simp only [evs] at h
  split at h
  ·rename_i v hv
   split at h
   ·rename_i us hus
    simp only [Option.some.injEq] at h; subst h
    simp [hρ _ _ hv, evs_map hρ hus]
   ·cases h
  ·cases h
theorem evs_map_arr {l : Env} {ρ : Operand → Value} (hρ : ∀ x X, ev l x = some X → ρ x = X) {xs : Array Operand} {vs : List Value} (h : evs l xs.toList = some vs) : xs.map ρ = vs.toArray := by
 apply Array.toList_inj.1
 simp [Array.toList_map, evs_map hρ h]

theorem pureSlice_ok {P : Program} {t : TypeId} {l : Env} {X : Value} {lo hi : Option Operand} {ρ : Operand → Value} (hρ : ∀ x X, ev l x = some X → ρ x = X) {c : Prop} {v : Value}
  (h : pureSlice P t l X lo hi = some (c, v)) (hc : c) (w : World) : (Instr.sliceAt t X (lo.map ρ) (hi.map ρ) none).run P w = .ok v w := by
 have hb : ∀ (o : Option Operand) (d n : Int), oInt l o d = some n → (o = none ∧ n = d) ∨ ∃ k, o.map ρ = some (.int k n) := by
  intro o d n ho
  cases o with
  | none => simp only [oInt, Option.some.injEq] at ho; exact .inl ⟨rfl, ho.symm⟩
  | some x =>
   simp only [oInt] at ho
   split at ho
   ·rename_i k m hx; cases ho; exact .inr ⟨k, by simp [hρ _ _ hx]⟩
   ·cases ho
 unfold pureSlice at h
 split at h
 ·rename_i s
  split at h
  ·rename_i a b ha hb'
   simp only [Option.some.injEq, Prod.mk.injEq] at h
   obtain ⟨rfl, rfl⟩ := h
   obtain ⟨hu, h0, h1, h2⟩ := hc
   have hu := uStr_some hu
   have e1 : (b.toNat : Int) = b := Int.toNat_of_nonneg (by omega)
   rcases hb _ _ _ ha with ⟨rfl, rfl⟩ | ⟨k, hk⟩ <;> rcases hb _ _ _ hb' with ⟨rfl, rfl⟩ | ⟨k', hk'⟩
   ·simp [Instr.sliceAt, Instr.slice, run_underlying hu, Instr.sliceBounds]
   ·simp [Instr.sliceAt, Instr.slice, run_underlying hu, Instr.sliceBounds, hk', run_sliceBound w k' b s.size .sliceAlen (by omega) h2]
   ·simp [Instr.sliceAt, Instr.slice, run_underlying hu, Instr.sliceBounds, hk, run_sliceBound w k a s.size .sliceB h0 h1]
   ·simp [Instr.sliceAt, Instr.slice, run_underlying hu, Instr.sliceBounds, hk, hk', run_sliceBound w k' b s.size .sliceAlen (by omega) h2, run_sliceBound w k a b.toNat .sliceB h0 (by omega)]
  ·cases h
 ·rename_i p len cap
  split at h
  ·rename_i a b e size ha hb' hu
   simp only [Option.some.injEq, Prod.mk.injEq] at h
   obtain ⟨rfl, rfl⟩ := h
   obtain ⟨h0, h1, h2⟩ := hc
   obtain ⟨hu, i, hi, hs⟩ := uSlice_some hu
   have e1 : (b.toNat : Int) = b := Int.toNat_of_nonneg (by omega)
   simp only at hi hs hu
   rcases hb _ _ _ ha with ⟨rfl, rfl⟩ | ⟨k, hk⟩ <;> rcases hb _ _ _ hb' with ⟨rfl, rfl⟩ | ⟨k', hk'⟩
   ·simp [Instr.sliceAt, Instr.slice, run_underlying hu, Instr.sliceBounds, sizeOf, typeInfo, hi, hs, subAddr]
   ·simp [Instr.sliceAt, Instr.slice, run_underlying hu, Instr.sliceBounds, hk', run_sliceBound w k' b cap .sliceAcap (by omega) h2, sizeOf, typeInfo, hi, hs, subAddr]
   ·simp [Instr.sliceAt, Instr.slice, run_underlying hu, Instr.sliceBounds, hk, run_sliceBound w k a len .sliceB h0 h1, sizeOf, typeInfo, hi, hs, subAddr]
   ·simp [Instr.sliceAt, Instr.slice, run_underlying hu, Instr.sliceBounds, hk, hk', run_sliceBound w k' b cap .sliceAcap (by omega) h2, run_sliceBound w k a b.toNat .sliceB h0 (by omega), sizeOf, typeInfo, hi, hs, subAddr]
  ·cases h
 ·cases h

theorem pureBuiltin_ok {P : Program} {b : Builtin} {ats : Array TypeId} {ty : TypeId} {cs : Array Bool} {vs : List Value} {c : Prop} {v : Value}
  (h : pureBuiltin P b ats vs = some (c, v)) (hc : c) (w : World) : (builtin b ats ty cs vs.toArray).run P w = .ok (.value v) w := by
 have hlen : ∀ {ats : Array TypeId}, ats.size = 1 → ∃ t, ats = #[t] := by
  intro ats h
  obtain ⟨l⟩ := ats
  match l, h with
  | [t], _ => exact ⟨t, rfl⟩
 unfold pureBuiltin at h
 split at h <;> simp only [Option.some.injEq, Prod.mk.injEq, reduceCtorEq] at h
 ·obtain ⟨rfl, rfl⟩ := h
  obtain ⟨hs, h1⟩ := hc
  obtain ⟨t, rfl⟩ := hlen h1
  obtain ⟨x, hx⟩ := Option.isSome_iff_exists.1 hs
  obtain ⟨hu, _⟩ := uSlice_some hx
  replace hu : P.underlying t = some (.slice x.1) := hu
  simp [builtin, Builtin.len_, run_underlying hu, goInt]
 ·obtain ⟨rfl, rfl⟩ := h
  obtain ⟨hs, h1⟩ := hc
  obtain ⟨t, rfl⟩ := hlen h1
  have hu : P.underlying t = some .string := uStr_some hs
  simp [builtin, Builtin.len_, run_underlying hu, goInt]
 ·obtain ⟨rfl, rfl⟩ := h
  obtain ⟨hs, h1⟩ := hc
  obtain ⟨t, rfl⟩ := hlen h1
  obtain ⟨x, hx⟩ := Option.isSome_iff_exists.1 hs
  obtain ⟨hu, _⟩ := uSlice_some hx
  replace hu : P.underlying t = some (.slice x.1) := hu
  simp [builtin, Builtin.cap_, run_underlying hu, goInt]
 ·obtain ⟨rfl, rfl⟩ := h
  simp [builtin, Builtin.max_, Builtin.max2]
 ·obtain ⟨rfl, rfl⟩ := h
  simp [builtin, Builtin.min_, Builtin.min2]

theorem pureOp_ok {P : Program} {l : Env} {o : Oper} {ρ : Operand → Value} (hρ : ∀ x X, ev l x = some X → ρ x = X) {c : Prop} {v : Value}
  (h : pureOp P l o.op = some (c, v)) (hc : c) (w : World) : (execOp ρ o).run P w = .ok (.value v) w := by
 obtain ⟨dst, op, ty, pos, aft, gd⟩ := o
 unfold pureOp at h
 simp only at h
 split at h
 ·split at h
  ·rename_i x X hx; simp only [Option.some.injEq, Prod.mk.injEq] at h; obtain ⟨rfl, rfl⟩ := h; simp [execOp, hρ _ _ hx]
  ·cases h
 ·split at h
  ·rename_i x X hx; simp only [Option.some.injEq, Prod.mk.injEq] at h; obtain ⟨rfl, rfl⟩ := h; simp [execOp, hρ _ _ hx]
  ·cases h
 ·split at h
  ·rename_i t ht
   split at h
   ·rename_i u hu
    split at h
    ·rename_i v' hv
     simp only [Option.some.injEq, Prod.mk.injEq] at h
     obtain ⟨rfl, rfl⟩ := h
     cases t <;> simp [execOp, hρ _ _ ht, hρ _ _ hu, hρ _ _ hv, asBool]
    ·cases h
   ·cases h
  ·cases h
 ·rename_i b t x y yt
  split at h
  ·rename_i X hX
   split at h
   ·rename_i Y hY
    simp only [execOp, hρ _ _ hX, hρ _ _ hY]
    have h' := pureBin_ok (P := P) (x0 := x) (y0 := y) h hc w
    rw [Sem.run_bind, h']
    rfl
   ·cases h
  ·cases h
 ·split at h
  ·rename_i X hX
   unfold pureUn at h
   split at h <;> simp only [Option.some.injEq, Prod.mk.injEq, reduceCtorEq] at h
   ·obtain ⟨rfl, rfl⟩ := h; simp [execOp, hρ _ _ hX, Op.unary]
   ·obtain ⟨rfl, rfl⟩ := h; simp [execOp, hρ _ _ hX, Op.unary, Op.intArith]
   ·obtain ⟨rfl, rfl⟩ := h; simp [execOp, hρ _ _ hX, Op.unary, intBits_xor]
  ·cases h
 ·split at h
  ·rename_i s d x X hX
   unfold pureConv at h
   split at h
   ·split at h
    ·rename_i k hk
     simp only [Option.some.injEq, Prod.mk.injEq] at h
     obtain ⟨rfl, rfl⟩ := h
     obtain ⟨ds, hs⟩ := Option.isSome_iff_exists.1 hc
     simp [execOp, hρ _ _ hX, convert, run_underlying hs, run_underlying (uInt_some hk), Conv.intToInt]
    ·cases h
   ·split at h
    ·simp only [Option.some.injEq, Prod.mk.injEq] at h
     obtain ⟨rfl, rfl⟩ := h
     obtain ⟨ds, hs⟩ := Option.isSome_iff_exists.1 hc.1
     simp [execOp, hρ _ _ hX, convert, run_underlying hs, run_underlying (uStr_some hc.2)]
    ·cases h
   ·cases h
  ·cases h
 ·split at h
  ·rename_i t x f X hX
   unfold pureField at h
   split at h
   ·rename_i cs off hp
    split at h
    ·rename_i v' hv
     simp only [Option.some.injEq, Prod.mk.injEq] at h
     obtain ⟨rfl, rfl⟩ := h
     unfold fPart at hp
     split at hp
     ·rename_i fs hfs
      split at hp
      ·rename_i fl hfl
       cases hk : kindT P fl.type with
       | none => simp [hk] at hp
       | some k =>
        simp only [hk, Option.map_some, Option.some.injEq, Prod.mk.injEq] at hp
        obtain ⟨rfl, rfl⟩ := hp
        simp [execOp, hρ _ _ hX, Instr.field, run_underlying hfs, hfl, asAgg, part, run_isAgg_scalar hk, hv]
      ·cases hp
     ·cases hp
    ·cases h
   ·rename_i cs off n hp
    simp only [Option.some.injEq, Prod.mk.injEq] at h
    obtain ⟨rfl, rfl⟩ := h
    unfold fPart at hp
    split at hp
    ·rename_i fs hfs
     split at hp
     ·rename_i fl hfl
      cases hk : kindT P fl.type with
      | none => simp [hk] at hp
      | some k =>
       simp only [hk, Option.map_some, Option.some.injEq, Prod.mk.injEq] at hp
       obtain ⟨rfl, rfl⟩ := hp
       simp [execOp, hρ _ _ hX, Instr.field, run_underlying hfs, hfl, asAgg, part, run_isAgg_agg hk, run_sizeOf_agg hk]
     ·cases hp
    ·cases hp
   ·cases h
  ·cases h
 ·split at h
  ·rename_i x i vs hx
   split at h
   ·rename_i v' hv
    simp only [Option.some.injEq, Prod.mk.injEq] at h
    obtain ⟨rfl, rfl⟩ := h
    simp [execOp, hρ _ _ hx, Instr.extract, hv]
   ·cases h
  ·cases h
 ·split at h
  ·rename_i t x f a hx
   split at h
   ·rename_i off ho
    simp only [Option.some.injEq, Prod.mk.injEq] at h
    obtain ⟨rfl, rfl⟩ := h
    unfold fOff at ho
    split at ho
    ·rename_i fs hfs
     split at ho
     ·rename_i fl hfl
      split at ho
      ·rename_i i hi
       split at ho
       ·cases ho
       ·rename_i hz
        cases ho
        simp [execOp, hρ _ _ hx, Instr.fieldAt, run_underlying hfs, hfl, Instr.sureAddr, fieldPlace, sizeOf, typeInfo, hi, hz]
      ·cases ho
     ·cases ho
    ·cases ho
   ·cases h
  ·cases h
 ·split at h
  ·rename_i X hX
   split at h
   ·rename_i I hI
    unfold pureIndexAddr at h
    split at h
    ·rename_i a len cap k n
     split at h
     ·rename_i e size hu
      simp only [Option.some.injEq, Prod.mk.injEq] at h
      obtain ⟨rfl, rfl⟩ := h
      obtain ⟨hu, i, hi, hs⟩ := uSlice_some hu
      simp only at hu hi hs
      simp [execOp, hρ _ _ hX, hρ _ _ hI, Instr.indexAt, asIntOf, run_underlying hu, sizeOf, typeInfo, hi, hs, hc.1, hc.2]
     ·cases h
    ·rename_i a k n
     split at h
     ·rename_i len size hu
      simp only [Option.some.injEq, Prod.mk.injEq] at h
      obtain ⟨rfl, rfl⟩ := h
      obtain ⟨e, i, hu, hi, hs⟩ := uArr_some hu
      simp only at hu hi hs
      simp [execOp, hρ _ _ hX, hρ _ _ hI, Instr.indexAt, asIntOf, run_underlying hu, sizeOf, typeInfo, hi, hs, hc.1, hc.2, Instr.sureAddr]
     ·cases h
    ·cases h
   ·cases h
  ·cases h
 ·split at h
  ·rename_i X hX
   split at h
   ·rename_i I hI
    unfold pureIndex at h
    split at h
    ·rename_i cs k n
     unfold pureIndexA at h
     split at h
     ·rename_i len hA
      split at h
      ·rename_i v' hv
       simp only [Option.some.injEq, Prod.mk.injEq] at h
       obtain ⟨rfl, rfl⟩ := h
       unfold aCell at hA
       split at hA
       ·rename_i m e hu
        split at hA
        ·rename_i hk
         simp only [Option.some.injEq] at hA
         subst hA
         obtain ⟨d, hd, -, -, i, hi, h1⟩ := kindT_scalar hk
         simp [execOp, hρ _ _ hX, hρ _ _ hI, Instr.index, asIntOf, run_underlying hu, sizeOf, typeInfo, hi, h1, hc.1, hc.2, part, run_isAgg_scalar hk, hv]
        ·cases hA
       ·cases hA
      ·cases h
     ·cases h
    ·rename_i s k n
     simp only [Option.some.injEq, Prod.mk.injEq] at h
     obtain ⟨rfl, rfl⟩ := h
     obtain ⟨hu, h0, h1⟩ := hc
     have hlt : n.toNat < s.size := by omega
     have hlt' : n.toNat < s.data.size := hlt
     have hg : s[n.toNat]? = some (s.data.getD n.toNat 0) := by
      rw [getElem?_pos s n.toNat hlt]
      simp only [Array.getD_eq_getD_getElem?, Array.getElem?_eq_getElem hlt', Option.getD_some]
      rfl
     simp [execOp, hρ _ _ hX, hρ _ _ hI, Instr.index, asIntOf, run_underlying (uStr_some hu), h0, hg, byteAt]
    ·cases h
   ·cases h
  ·cases h
 ·split at h
  ·rename_i t x lo hi X hX
   simp only [execOp, hρ _ _ hX, Option.map_none]
   rw [Sem.run_bind, pureSlice_ok hρ h hc w]
   rfl
  ·cases h
 ·split at h
  ·rename_i x a hx
   simp only [Option.some.injEq, Prod.mk.injEq] at h
   obtain ⟨rfl, rfl⟩ := h
   simp [execOp, hρ _ _ hx]
  ·cases h
 ·split at h
  ·rename_i b args ats vs hvs
   have hm := evs_map_arr hρ hvs
   simp only [execOp, resolve, invoke]
   simp only [hm]
   simpa using pureBuiltin_ok (P := P) h hc w
  ·cases h
 ·cases h

def CellsAt (w : World) (a : Addr) (n : Nat) (cs : Array Value) : Prop := cs.size = n ∧ ∀ (j : Nat) (v : Value), cs[j]? = some v → w.cell? (a.add j) = some v
def evD (l : Env) (x : Operand) : Value := (ev l x).getD undef
def opOf (o : Op) (ty : TypeId) : Oper := { dst := none, op := o, type := ty, pos := "", after := #[], guard := none }
def Ret (K : Value → World → Prop) (e : Ending) (w : World) : Prop := match e with
 | .returned v => K v w
 | _ => False
theorem ret_of {K : Value → World → Prop} {v : Value} {w : World} (h : K v w) : Ret K (.returned v) w := h
def partsE (l : Env) : List (Nat × Operand) → Option (List (Nat × Value))
 | [] => some []
 | (i, x) :: r => match ev l x with
  | some v => match partsE l r with
   | some vs => some ((i, v) :: vs)
   | none => none
  | none => none
def EqR (P : Program) (t : TypeId) (xs ys : Array Value) (r : Bool) : Prop := P.eqGuardType P.depth t = false ∧ ∀ w, (Op.equal t (.agg xs) (.agg ys)).run P w = .ok r w
def effEq (P : Program) (b : BinOp) (t : TypeId) (X Y : Value) (KL : Bool → Prop) : Prop := match b, X, Y with
 | .eql, .agg xs, .agg ys => ∃ r, EqR P t xs ys r ∧ KL r
 | .neq, .agg xs, .agg ys => ∃ r, EqR P t xs ys r ∧ KL (!r)
 | _, _, _ => False
theorem effEq_ok {P : Program} {b : BinOp} {t : TypeId} {x0 y0 : Operand} {X Y : Value} {K : Bool → Prop} (h : effEq P b t X Y K) :
  ∃ r, K r ∧ ∀ w, (do eqGuard b t x0 y0 X Y; binOp b t X Y : Sem Value).run P w = .ok (.bool r) w := by
 unfold effEq at h
 split at h
 ·rename_i xs ys
  obtain ⟨r, ⟨hg, hr⟩, hK⟩ := h
  exact ⟨r, hK, fun w => by rw [Sem.run_bind, run_eqGuard_agg (P := P) w .eql t x0 y0 xs ys hg]; simp [binOp, hr]⟩
 ·rename_i xs ys
  obtain ⟨r, ⟨hg, hr⟩, hK⟩ := h
  exact ⟨!r, hK, fun w => by rw [Sem.run_bind, run_eqGuard_agg (P := P) w .neq t x0 y0 xs ys hg]; simp [binOp, hr]⟩
 ·exact h.elim
def effOp (P : Program) (l : Env) (o : Op) (ty : TypeId) (w : World) (K KL : Value → World → Prop) : Prop :=
 match o with
 | .load t x => match ev l x with
  | some (.pointer (some a)) => match kindT P t with
   | some none => match w.cell? a with
    | some v => K v w
    | none => False
   | some (some n) => ∃ cs, CellsAt w a n cs ∧ KL (.agg cs) w
   | none => False
  | _ => False
 | .store t x y => match ev l x with
  | some (.pointer (some a)) => match ev l y with
   | some v => ∃ w', (storeVar t a v).run P w = .ok () w' ∧ KL undef w'
   | none => False
  | _ => False
 | .alloc t => match zeroT P t with
  | some z => K (.pointer (some ⟨w.heap.size, 0, none⟩)) (w.alloc (.cells z t))
  | none => False
 | .box t x => match ev l x with
  | some v => K (.pointer (some ⟨w.heap.size, 0, none⟩)) (w.alloc (.cells v.cells t))
  | none => False
 | .build t parts => match partsE l parts.toList with
  | some ps => ∃ v, (∀ w, (Instr.build t ps.toArray).run P w = .ok v w) ∧ KL v w
  | none => False
 | .buildSlice t n parts => match partsE l parts.toList with
  | some ps => ∃ v w', (Instr.buildSlice t n ps.toArray).run P w = .ok v w' ∧ KL v w'
  | none => False
 | .makeSlice t x y => match ev l x with
  | some X => match ev l y with
   | some Y => ∃ v w', (Instr.makeSlice t X Y).run P w = .ok v w' ∧ KL v w'
   | none => False
  | none => False
 | .call ⟨.builtin .append, args, ats⟩ => match evs l args.toList with
  | some vs => ∃ v w', (Builtin.append_ ats ty vs.toArray).run P w = .ok v w' ∧ KL v w'
  | none => False
 | .call ⟨.value (.func f), args, _⟩ => match evs l args.toList with
  | some vs => callable P f = true ∧ Calls P f vs.toArray w (Ret fun v w' => KL v w')
  | none => False
 | .binOp b t x y _ => match ev l x with
  | some X => match ev l y with
   | some Y => effEq P b t X Y fun r => KL (.bool r) w
   | none => False
  | none => False
 | .select _ _ => False
 | o => (∀ x ∈ o.operands, (ev l x).isSome = true) ∧ ∃ v w', (execOp (evD l) (opOf o ty)).run P w = .ok (.value v) w' ∧ KL v w'
def vcOp (P : Program) (l : Env) (o : Op) (ty : TypeId) (w : World) (K KL : Value → World → Prop) : Prop :=
 match pureOp P l o with
 | some (c, v) => c ∧ K v w
 | none => effOp P l o ty w K KL
def Yields (P : Program) (s : Sem Next) (w : World) (K : Value → World → Prop) : Prop :=
 match s.run P w with
 | .ok (.value v) w' => K v w'
 | .ok .skip w' => K undef w'
 | .ok (.enter f args) w' => Calls P f args w' (Ret K)
 | _ => False

theorem parts_map {l : Env} {ρ : Operand → Value} (hρ : ∀ x X, ev l x = some X → ρ x = X) : ∀ {xs : List (Nat × Operand)} {vs : List (Nat × Value)}, partsE l xs = some vs → xs.map (fun (i, x) => (i, ρ x)) = vs
 | [], vs, h => by simp only [partsE, Option.some.injEq] at h; subst h; rfl
 | (i, x) :: r, vs, h => by
  simp only [partsE] at h
  split at h
  ·rename_i v hv
   split at h
   ·rename_i us hus
    simp only [Option.some.injEq] at h; subst h
    simp only [List.map_cons, hρ _ _ hv, parts_map hρ hus]
   ·cases h
  ·cases h
theorem parts_map_arr {l : Env} {ρ : Operand → Value} (hρ : ∀ x X, ev l x = some X → ρ x = X) {xs : Array (Nat × Operand)} {vs : List (Nat × Value)} (h : partsE l xs.toList = some vs) : xs.map (fun (i, x) => (i, ρ x)) = vs.toArray := by
 apply Array.toList_inj.1
 rw [Array.toList_map, parts_map hρ h]
theorem yields_value {P : Program} {s : Sem Next} {w w' : World} {v : Value} {K : Value → World → Prop} (h : s.run P w = .ok (.value v) w') (hk : K v w') : Yields P s w K := by
 unfold Yields; rw [h]; exact hk
theorem yields_skip {P : Program} {s : Sem Next} {w w' : World} {K : Value → World → Prop} (h : s.run P w = .ok .skip w') (hk : K undef w') : Yields P s w K := by
 unfold Yields; rw [h]; exact hk
theorem run_callFunc {P : Program} {f : FuncId} (h : callable P f = true) (args : Array Value) (w : World) : (callFunc f args).run P w = .ok (.enter f args) w := by
 unfold callable at h
 split at h
 ·rename_i fn hf
  simp only [Bool.and_eq_true, Bool.not_eq_true', beq_eq_false_iff_ne] at h
  simp [callFunc, hf, h.1, Option.isSome_iff_ne_none.1 h.2, Option.isNone_iff_eq_none]
 ·cases h

theorem effOp_ok {P : Program} {l : Env} {o : Oper} {ρ : Operand → Value} (hρ : ∀ x X, ev l x = some X → ρ x = X) {w : World} {K : Value → World → Prop}
  (h : effOp P l o.op o.type w K K) : Yields P (execOp ρ o) w K := by
 obtain ⟨dst, op, ty, pos, aft, gd⟩ := o
 unfold effOp at h
 simp only at h
 split at h
 ·split at h
  ·rename_i t x a hx
   split at h
   ·rename_i hk
    split at h
    ·rename_i v hv
     exact yields_value (by simp [execOp, hρ _ _ hx, Instr.loadAt, Instr.sureAddr, loadVar, run_isAgg_scalar hk, run_load, hv]) h
    ·exact h.elim
   ·rename_i n hk
    obtain ⟨cs, ⟨hn, hc⟩, hK⟩ := h
    refine yields_value (v := .agg cs) ?_ hK
    have hl := run_loadCells_list (P := P) w a cs.toList (fun j v hv => hc j v (by simpa using hv))
    simp only [Array.length_toList, Array.toArray_toList, hn] at hl
    simp [execOp, hρ _ _ hx, Instr.loadAt, Instr.sureAddr, loadVar, run_isAgg_agg hk, run_sizeOf_agg hk, hl]
   ·exact h.elim
  ·exact h.elim
 ·split at h
  ·rename_i t x y a hx
   split at h
   ·rename_i v hv
    obtain ⟨w', hw, hK⟩ := h
    exact yields_skip (by simp [execOp, hρ _ _ hx, hρ _ _ hv, Instr.storeAt, Instr.sureAddr, hw]) hK
   ·exact h.elim
  ·exact h.elim
 ·split at h
  ·rename_i t z hz
   unfold zeroT at hz
   split at hz
   ·rename_i i hi
    cases hzz : i.zero with
    | none => simp [hzz] at hz
    | some u =>
     simp only [hzz, Option.map_some, Option.some.injEq] at hz
     subst hz
     exact yields_value (by simp [execOp, Instr.alloc, zeroValue, typeInfo, hi, hzz, newVar, newRow, run_newObj]) h
   ·cases hz
  ·exact h.elim
 ·split at h
  ·rename_i t x v hv
   exact yields_value (by simp [execOp, hρ _ _ hv, Instr.box, newVar, newRow, run_newObj]) h
  ·exact h.elim
 ·split at h
  ·rename_i t parts ps hp
   obtain ⟨v, hr, hK⟩ := h
   refine yields_value (v := v) (w' := w) ?_ hK
   simp only [execOp, parts_map_arr hρ hp]
   rw [Sem.run_bind, hr w]; rfl
  ·exact h.elim
 ·split at h
  ·rename_i t n parts ps hp
   obtain ⟨v, w', hr, hK⟩ := h
   refine yields_value (v := v) (w' := w') ?_ hK
   simp only [execOp, parts_map_arr hρ hp]
   rw [Sem.run_bind, hr]; rfl
  ·exact h.elim
 ·split at h
  ·rename_i t x y X hX
   split at h
   ·rename_i Y hY
    obtain ⟨v, w', hr, hK⟩ := h
    refine yields_value (v := v) (w' := w') ?_ hK
    simp only [execOp, hρ _ _ hX, hρ _ _ hY]
    rw [Sem.run_bind, hr]; rfl
   ·exact h.elim
  ·exact h.elim
 ·split at h
  ·rename_i args ats vs hvs
   obtain ⟨v, w', hr, hK⟩ := h
   refine yields_value (v := v) (w' := w') ?_ hK
   simp only [execOp, resolve, invoke, evs_map_arr hρ hvs, builtin]
   simp [hr]
  ·exact h.elim
 ·split at h
  ·rename_i f args ats _ vs hvs
   obtain ⟨hc, hK⟩ := h
   have hf : ρ (.func f) = .func (.func f) #[] #[] := hρ _ _ rfl
   unfold Yields
   have : (execOp ρ { dst := dst, op := Op.call ⟨.value (.func f), args, ats⟩, type := ty, pos := pos, after := aft, guard := gd }).run P w = .ok (.enter f vs.toArray) w := by
    simp [execOp, resolve, hf, Deferred.ofValue, invoke, evs_map_arr hρ hvs, run_callFunc hc]
   rw [this]
   exact hK
  ·exact h.elim
 ·rename_i b t x y yt
  split at h
  ·rename_i X hX
   split at h
   ·rename_i Y hY
    obtain ⟨r, hK, hr⟩ := effEq_ok (P := P) (x0 := x) (y0 := y) h
    refine yields_value (v := .bool r) (w' := w) ?_ hK
    simp only [execOp, hρ _ _ hX, hρ _ _ hY]
    rw [Sem.run_bind, hr w]; rfl
   ·exact h.elim
  ·exact h.elim
 ·exact h.elim
 ·rename_i hns _
  obtain ⟨hb, v, w', hr, hK⟩ := h
  refine yields_value (v := v) (w' := w') ?_ hK
  rw [← hr]
  have hc : ∀ x ∈ op.operands, ρ x = evD l x := by
   intro x hx
   obtain ⟨X, hX⟩ := Option.isSome_iff_exists.1 (hb x hx)
   rw [hρ _ _ hX]; simp [evD, hX]
  have h1 := execOp_congr (ρ := ρ) (ρ' := evD l) { dst := dst, op := op, type := ty, pos := pos, after := aft, guard := gd } (fun cs b e => by rename_i hsel; exact hsel cs b e) hc
  rw [h1]
  rfl
theorem vcOp_ok {P : Program} {l : Env} {o : Oper} {ρ : Operand → Value} (hρ : ∀ x X, ev l x = some X → ρ x = X) {w : World} {K : Value → World → Prop}
  (h : vcOp P l o.op o.type w K K) : Yields P (execOp ρ o) w K := by
 unfold vcOp at h
 split at h
 ·rename_i c v hp
  exact yields_value (pureOp_ok hρ hp h.1 w) h.2
 ·exact effOp_ok hρ h

def dsts (ops : List Oper) : List (Option Nat) := ops.map (·.dst)
def gd (l : Env) (ds : List (Option Nat)) (g : Option (Nat × Bool)) (k : Bool → Prop) : Prop :=
 match g with
 | none => k true
 | some (j, want) => match ds[j]? with
  | some (some d) => match lk l d with
   | some (.bool b) => k (b == want)
   | some _ => k false
   | none => False
  | _ => False
def dstLt (N : Nat) : Option Nat → Prop
 | none => True
 | some k => k < N
def doOr (b : Bool) (x y : Prop) : Prop := match b with
 | true => x
 | false => y
def VC (P : Program) (N : Nat) (ds : List (Option Nat)) (K : Env → World → Prop) : List Oper → Env → World → Prop
 | [], l, w => K l w
 | o :: rest, l, w => gd l ds o.guard fun run => dstLt N o.dst ∧ doOr run (vcOp P l o.op o.type w (fun v w' => VC P N ds K rest (stp o.dst v l) w') (fun v w' => VC P N ds K rest (stp o.dst v l) w')) (VC P N ds K rest (stp o.dst undef l) w)
def VCs (P : Program) (N : Nat) (ds : List (Option Nat)) (K : Env → World → Prop) (rest : List Oper) (l : Env) (w : World) : Prop := VC P N ds K rest l w
theorem gd_wanted {N : Nat} (F : Fr N) {l : Env} (hk : keysLt N l = true) {ops : List Oper} {o : Oper} {k : Bool → Prop} (h : gd l (dsts ops) o.guard k) :
  k (Region.wanted o (yielded ops.toArray (mk F l).tmps)) := by
 unfold gd at h
 split at h
 ·rename_i hg; simp only [Region.wanted, hg]; exact h
 ·rename_i j want hg
  split at h
  ·rename_i d hd
   split at h
   ·rename_i b hb
    have h1 : (ops[j]?).bind (·.dst) = some d := by
     simp only [dsts, List.getElem?_map, Option.map_eq_some_iff] at hd
     obtain ⟨x, hx, hx'⟩ := hd
     simp [hx, hx']
    have h2 := get_sets F hk hb
    have : yielded ops.toArray (mk F l).tmps j = some b := by
     unfold yielded
     simp only [List.getElem?_toArray, h1, Option.bind_some, mk, h2]
    simp only [Region.wanted, hg, this]
    have e : (some b == some want) = (b == want) := by cases b <;> cases want <;> rfl
    rw [e]; exact h
   ·rename_i v hv hb
    have h1 : (ops[j]?).bind (·.dst) = some d := by
     simp only [dsts, List.getElem?_map, Option.map_eq_some_iff] at hd
     obtain ⟨x, hx, hx'⟩ := hd
     simp [hx, hx']
    have h2 := get_sets F hk hb
    have : yielded ops.toArray (mk F l).tmps j = none := by
     unfold yielded
     simp only [List.getElem?_toArray, h1, Option.bind_some, mk, h2]
     split
     ·rename_i b e; cases e; exact (hv b rfl).elim
     ·rfl
    simp only [Region.wanted, hg, this]
    exact h
   ·exact h.elim
  ·exact h.elim
theorem wp_of_yields {P : Program} {o : Oper} {a : Act} {w : World} {next : Act → World → Prop} {Q : Exit → Act → World → Prop} (h : Yields P (execOp a.eval o) w fun v w' => next (a.put o.dst v) w') : o.wp P a w next Q := by
 unfold Yields at h
 unfold Oper.wp
 generalize (execOp a.eval o).run P w = r at *
 cases r with
 | ok n w' =>
  cases n <;> simp only at h <;> simp only [Oper.upon]
  case value => exact h
  case skip => exact h
  case enter f args =>
   exact Calls.mono h (fun e w'' he => by cases e <;> simp only [Ret] at he <;> exact he)
 | halt x w' => exact h.elim
theorem Yields.mono {P : Program} {s : Sem Next} {w : World} {K K' : Value → World → Prop} (h : Yields P s w K) (hk : ∀ v w', K v w' → K' v w') : Yields P s w K' := by
 unfold Yields at *
 generalize s.run P w = r at *
 cases r with
 | ok n w' =>
  cases n <;> simp only at h ⊢
  case value => exact hk _ _ h
  case skip => exact hk _ _ h
  case enter f args => exact Calls.mono h (fun e w'' he => by cases e <;> simp only [Ret] at he ⊢; exact hk _ _ he)
 | halt x w' => exact h.elim
theorem VC_sound {P : Program} {N : Nat} (F : Fr N) {ops : List Oper} {K : Env → World → Prop} {Q : Exit → Act → World → Prop}
  (hQ : ∀ l w, keysLt N l = true → K l w → Q .normal (mk F l) w) : ∀ (rest : List Oper) (l : Env) (w : World), keysLt N l = true → VC P N (dsts ops) K rest l w → wpList P ops.toArray Q rest (mk F l) w
 | [], l, w, hk, h => hQ l w hk h
 | o :: rest, l, w, hk, h => by
  have h := gd_wanted F hk h
  obtain ⟨hd, h⟩ := h
  have hk' : ∀ v, keysLt N (stp o.dst v l) = true := fun v => keysLt_put hk (fun k e => by rw [e] at hd; exact hd)
  unfold wpList
  cases hw : Region.wanted o (yielded ops.toArray (mk F l).tmps)
  ·rw [hw] at h
   simp only [doOr] at h
   rw [if_neg (by simp), put_mk]
   exact VC_sound F hQ rest _ _ (hk' _) h
  ·rw [hw] at h
   simp only [doOr] at h
   rw [if_pos rfl]
   refine .inl (wp_of_yields ((vcOp_ok (fun x X hx => eval_mk F hk hx) h).mono fun v w' hv => ?_))
   rw [put_mk]
   exact VC_sound F hQ rest _ _ (hk' _) hv

def effQ (P : Program) (l : Env) (o : Op) (w : World) (K KL : Value → Prop) : Prop :=
 match o with
 | .load t x => match ev l x with
  | some (.pointer (some a)) => match kindT P t with
   | some none => match w.cell? a with
    | some v => K v
    | none => False
   | some (some n) => ∃ cs, CellsAt w a n cs ∧ KL (.agg cs)
   | none => False
  | _ => False
 | .build t parts => match partsE l parts.toList with
  | some ps => ∃ v, (∀ w, (Instr.build t ps.toArray).run P w = .ok v w) ∧ KL v
  | none => False
 | .call ⟨.value (.func f), args, _⟩ => match evs l args.toList with
  | some vs => callable P f = true ∧ ∃ v, (∀ w', Below w.heap.size w w' → Calls P f vs.toArray w' (Ret fun u w'' => u = v ∧ Below w.heap.size w w'')) ∧ KL v
  | none => False
 | .binOp b t x y _ => match ev l x with
  | some X => match ev l y with
   | some Y => effEq P b t X Y fun r => KL (.bool r)
   | none => False
  | none => False
 | .index _ _ _ | .field _ _ _ => (∀ x ∈ o.operands, (ev l x).isSome = true) ∧ ∃ v, (∀ w, (execOp (evD l) (opOf o 0)).run P w = .ok (.value v) w) ∧ KL v
 | .convert _ _ _ => (∀ x ∈ o.operands, (ev l x).isSome = true) ∧ ∃ v, (∀ w', Below w.heap.size w w' → (execOp (evD l) (opOf o 0)).run P w' = .ok (.value v) w') ∧ KL v
 | _ => False
def vcQ (P : Program) (l : Env) (o : Op) (w : World) (K KL : Value → Prop) : Prop :=
 match pureOp P l o with
 | some (c, v) => c ∧ K v
 | none => effQ P l o w K KL
def VCq (P : Program) (N : Nat) (ds : List (Option Nat)) (w : World) (K : Env → Prop) : List Oper → Env → Prop
 | [], l => K l
 | o :: rest, l => gd l ds o.guard fun run => dstLt N o.dst ∧ doOr run (vcQ P l o.op w (fun v => VCq P N ds w K rest (stp o.dst v l)) (fun v => VCq P N ds w K rest (stp o.dst v l))) (VCq P N ds w K rest (stp o.dst undef l))
theorem below_cell {w w' : World} (h : Below w.heap.size w w') {a : Addr} {v : Value} (hv : w.cell? a = some v) : w'.cell? a = some v := by
 rw [h.cell (block_lt_of_cell hv)]; exact hv
theorem effQ_eff {P : Program} {l : Env} {o : Op} {ty : TypeId} {w : World} {K : Value → Prop} (h : effQ P l o w K K) : ∃ v, K v ∧ ∀ w', Below w.heap.size w w' → effOp P l o ty w' (fun u w'' => u = v ∧ Below w.heap.size w w'') (fun u w'' => u = v ∧ Below w.heap.size w w'') := by
 unfold effQ at h
 split at h
 ·split at h
  ·rename_i t x a hx
   split at h
   ·rename_i hk
    split at h
    ·rename_i v hv
     exact ⟨v, h, fun w' hw => by simp only [effOp, hx, hk, below_cell hw hv]; exact ⟨trivial, hw⟩⟩
    ·exact h.elim
   ·rename_i n hk
    obtain ⟨cs, hc, hK⟩ := h
    exact ⟨_, hK, fun w' hw => by simp only [effOp, hx, hk]; exact ⟨cs, ⟨hc.1, fun j v hj => below_cell hw (hc.2 j v hj)⟩, rfl, hw⟩⟩
   ·exact h.elim
  ·exact h.elim
 ·split at h
  ·rename_i t parts ps hp
   obtain ⟨v, hr, hK⟩ := h
   exact ⟨v, hK, fun w' hw => by simp only [effOp, hp]; exact ⟨v, hr, rfl, hw⟩⟩
  ·exact h.elim
 ·split at h
  ·rename_i f args ats _ vs hvs
   obtain ⟨hc, v, hr, hK⟩ := h
   exact ⟨v, hK, fun w' hw => by
    simp only [effOp, hvs]
    exact ⟨hc, hr w' hw⟩⟩
  ·exact h.elim
 ·split at h
  ·rename_i X hX
   split at h
   ·rename_i Y hY
    have h' := h
    unfold effEq at h'
    split at h'
    ·obtain ⟨r, hr, hK⟩ := h'
     exact ⟨.bool r, hK, fun w' hw => by simp only [effOp, hX, hY, effEq]; exact ⟨r, hr, rfl, hw⟩⟩
    ·obtain ⟨r, hr, hK⟩ := h'
     exact ⟨.bool (!r), hK, fun w' hw => by simp only [effOp, hX, hY, effEq]; exact ⟨r, hr, rfl, hw⟩⟩
    ·exact h'.elim
   ·exact h.elim
  ·exact h.elim
 ·obtain ⟨hb, v, hr, hK⟩ := h
  exact ⟨v, hK, fun w' hw => by simp only [effOp]; exact ⟨hb, v, w', hr w', rfl, hw⟩⟩
 ·obtain ⟨hb, v, hr, hK⟩ := h
  exact ⟨v, hK, fun w' hw => by simp only [effOp]; exact ⟨hb, v, w', hr w', rfl, hw⟩⟩
 ·obtain ⟨hb, v, hr, hK⟩ := h
  exact ⟨v, hK, fun w' hw => by simp only [effOp]; exact ⟨hb, v, w', hr w' hw, rfl, hw⟩⟩
 ·exact h.elim
theorem vcQ_vc {P : Program} {l : Env} {o : Op} {ty : TypeId} {w : World} {K : Value → Prop} (h : vcQ P l o w K K) : ∃ v, K v ∧ ∀ w', Below w.heap.size w w' → vcOp P l o ty w' (fun u w'' => u = v ∧ Below w.heap.size w w'') (fun u w'' => u = v ∧ Below w.heap.size w w'') := by
 unfold vcQ at h
 split at h
 ·rename_i c v hp
  exact ⟨v, h.2, fun w' hw => by unfold vcOp; rw [hp]; exact ⟨h.1, rfl, hw⟩⟩
 ·rename_i hp
  obtain ⟨v, hK, hv⟩ := effQ_eff (ty := ty) h
  exact ⟨v, hK, fun w' hw => by unfold vcOp; rw [hp]; exact hv w' hw⟩

abbrev Post := Exit → Env → World → Prop
def lift (N : Nat) (Q : Post) (e : Exit) (a : Act) (w : World) : Prop := ∃ (F : Fr N) (l : Env), a = mk F l ∧ keysLt N l = true ∧ Q e l w
def W (P : Program) (N : Nat) (c : Code) (Q : Post) (l : Env) (w : World) : Prop := keysLt N l = true → ∀ F : Fr N, c.wp P (lift N Q) (mk F l) w
def seqQ (K : Env → World → Prop) (Q : Post) : Post
 | .normal, l, w => K l w
 | e, l, w => Q e l w
def blkQ (id : Nat) (Q : Post) : Post
 | .exit id', l, w => if id' = id then Q .normal l w else Q (.exit id') l w
 | e, l, w => Q e l w
section
variable {P : Program} {N : Nat} {Q : Post} {l : Env} {w : World}
theorem W.mono {c : Code} {Q' : Post} (h : W P N c Q l w) (hq : ∀ e l w, Q e l w → Q' e l w) : W P N c Q' l w :=
 fun hk F => Code.wp_mono (fun e a w ⟨F', l', ha, hk', hQ⟩ => ⟨F', l', ha, hk', hq _ _ _ hQ⟩) (h hk F)
theorem W_seq {x y : Code} (h : W P N x (seqQ (fun l w => W P N y Q l w) Q) l w) : W P N (.seq x y) Q l w := fun hk F => by
 refine wp_seq (Code.wp_mono ?_ (h hk F))
 rintro e a w' ⟨F', l', rfl, hk', hQ⟩
 cases e with
 | normal => exact hQ hk' F'
 | _ => exact ⟨F', l', rfl, hk', hQ⟩
theorem W_region {id : Nat} {ops : List Oper} (h : ∀ K : Env → World → Prop, (∀ l' w', Q .normal l' w' → K l' w') → VC P N (dsts ops) K ops l w) : W P N (.region id ops.toArray false) Q l w := fun hk F =>
 wp_region_lit (VC_sound F (K := fun l w => Q .normal l w) (fun l' w' hk' hK => ⟨F, l', rfl, hk', hK⟩) ops l w hk (h _ fun _ _ h => h))
theorem W_cond {c : Operand} {x y : Code} {b : Bool} (hc : ev l c = some (.bool b)) (ht : b = true → W P N x Q l w) (hf : b = false → W P N y Q l w) : W P N (.cond c x y) Q l w := fun hk F => by
 have he := eval_mk F hk hc
 cases b with
 | true => exact wp_cond (t := true) he (ht rfl hk F)
 | false => exact wp_cond (t := false) he (hf rfl hk F)
theorem W_true {c : Operand} {x y : Code} (hc : ev l c = some (.bool true)) (ht : W P N x Q l w) : W P N (.cond c x y) Q l w := W_cond hc (fun _ => ht) (fun h => by cases h)
theorem W_false {c : Operand} {x y : Code} (hc : ev l c = some (.bool false)) (hf : W P N y Q l w) : W P N (.cond c x y) Q l w := W_cond hc (fun h => by cases h) (fun _ => hf)
theorem W_block {id : Nat} {c : Code} (h : W P N c (blkQ id Q) l w) : W P N (.block id c) Q l w := fun hk F => by
 refine wp_block (Code.wp_mono ?_ (h hk F))
 rintro e a w' ⟨F', l', rfl, hk', hQ⟩
 cases e with
 | exit id' =>
  simp only [Exit.inBlock]
  simp only [blkQ] at hQ
  split
  ·rename_i e; rw [if_pos e] at hQ; exact ⟨F', l', rfl, hk', hQ⟩
  ·rename_i e; rw [if_neg e] at hQ; exact ⟨F', l', rfl, hk', hQ⟩
 | _ => exact ⟨F', l', rfl, hk', hQ⟩
theorem W_skip (h : Q .normal l w) : W P N .skip Q l w := fun hk F => wp_skip ⟨F, l, rfl, hk, h⟩
theorem W_ret (h : Q .ret l w) : W P N .ret Q l w := fun hk F => wp_ret ⟨F, l, rfl, hk, h⟩
theorem W_exit {id : Nat} (h : Q (.exit id) l w) : W P N (.exit id) Q l w := fun hk F => wp_exit ⟨F, l, rfl, hk, h⟩
theorem qV {K : Env → World → Prop} (h : K l w) : seqQ K Q .normal l w := h
theorem seqQ_ret {K : Env → World → Prop} (h : Q .ret l w) : seqQ K Q .ret l w := h
theorem seqQ_exit {K : Env → World → Prop} {id : Nat} (h : Q (.exit id) l w) : seqQ K Q (.exit id) l w := h
theorem qY {id : Nat} (h : Q .normal l w) : blkQ id Q .normal l w := h
theorem blkQ_ret {id : Nat} (h : Q .ret l w) : blkQ id Q .ret l w := h
theorem blkQ_exit {id : Nat} (h : Q .normal l w) : blkQ id Q (.exit id) l w := by simp only [blkQ, if_true]; exact h
theorem blkQ_other {id id' : Nat} (hne : (id' == id) = false) (h : Q (.exit id') l w) : blkQ id Q (.exit id') l w := by simp only [blkQ]; rw [if_neg (by simpa using hne)]; exact h
theorem keysLt_get {l : Env} : ∀ {k : Nat} {v : Value}, keysLt N l = true → lk l k = some v → k < N := by
 induction l with
 | nil => intro k v _ h; simp [lk] at h
 | cons p r ih =>
  obtain ⟨a, u⟩ := p
  intro k v hk h
  simp only [keysLt, Bool.and_eq_true] at hk
  simp only [lk] at h
  by_cases e : a = k
  ·subst e; exact Nat.le_of_ble_eq_true hk.1
  ·rw [if_neg e] at h; exact ih hk.2 h
theorem keysLt_keep (hk : keysLt N l = true) (ks : List Nat) : keysLt N (keep ks l) = true := by
 induction ks with
 | nil => rfl
 | cons a r ih =>
  simp only [keep]
  split
  ·rename_i v hv
   have := keysLt_get hk hv
   simp only [keysLt, ih, Bool.and_true]
   exact Nat.ble_eq_true_of_le this
  ·exact ih
theorem W_keep {c : Code} (ks : List Nat) (h : W P N c Q (keep ks l) w) : W P N c Q l w := fun hk F => by
 obtain ⟨F', e⟩ := mk_keep F hk ks
 rw [e]
 exact h (keysLt_keep hk ks) F'
theorem W_loop {ι : Type} {c : Code} (E : ι → Env) (I : ι → World → Prop) (μ : ι → Nat) (ks : List Nat) (i : ι) (h0 : keep ks l = E i) (hI : I i w)
  (round : ∀ (i : ι) (w : World), I i w → W P N c (seqQ (fun l' w' => ∃ j, keep ks l' = E j ∧ I j w' ∧ μ j < μ i) Q) (E i) w) : W P N (.loop c) Q l w := fun hk F => by
 obtain ⟨F', e⟩ := mk_keep F hk ks
 rw [e, h0]
 have hk0 : keysLt N (E i) = true := by rw [← h0]; exact keysLt_keep hk ks
 refine wp_loop_ghost (fun n a w => ∃ j, μ j = n ∧ (∃ F : Fr N, a = mk F (E j)) ∧ keysLt N (E j) = true ∧ I j w) (μ i) ⟨i, rfl, ⟨F', rfl⟩, hk0, hI⟩ ?_
 rintro n a w ⟨j, rfl, ⟨F, rfl⟩, hkj, hIj⟩
 refine Code.wp_mono ?_ (round j w hIj hkj F)
 rintro e a w' ⟨F1, l1, rfl, hk1, hQ⟩
 cases e with
 | normal =>
  obtain ⟨j', hE, hI', hμ⟩ := hQ
  obtain ⟨F2, e2⟩ := mk_keep F1 hk1 ks
  exact ⟨μ j', hμ, j', rfl, ⟨F2, by rw [e2, hE]⟩, by rw [← hE]; exact keysLt_keep hk1 ks, hI'⟩
 | _ => exact ⟨F1, l1, rfl, hk1, hQ⟩
theorem W_kept {c : Code} (ks : List Nat) {l' : Env} (he : keep ks l = l') (h : W P N c Q l' w) : W P N c Q l w := W_keep ks (by rw [he]; exact h)
theorem W_cut {ι : Type} {x y : Code} (E : ι → Env) (I : ι → World → Prop) (ks : List Nat) (hx : W P N x (seqQ (fun l' w' => ∃ j, keep ks l' = E j ∧ I j w') Q) l w)
  (hy : ∀ (j : ι) (w : World), I j w → W P N y Q (E j) w) : W P N (.seq x y) Q l w :=
 W_seq (hx.mono fun e l' w' h => by
  cases e with
  | normal =>
   obtain ⟨j, hE, hI⟩ := h
   exact W_keep ks (by rw [hE]; exact hy j w' hI)
  | _ => exact h)
end
def resE (P : Program) (l : Env) (w : World) : List ResultVar → (List Value → Prop) → Prop
 | [], K => K []
 | .tmp t :: r, K => match lk l t with
  | some v => resE P l w r fun vs => K (v :: vs)
  | none => False
 | .cell p t :: r, K => match lk l p with
  | some (.pointer (some a)) => match kindT P t with
   | some none => match w.cell? a with
    | some v => resE P l w r fun vs => K (v :: vs)
    | none => False
   | some (some n) => ∃ cs, CellsAt w a n cs ∧ resE P l w r fun vs => K (.agg cs :: vs)
   | none => False
  | _ => False
def tup : List Value → Value
 | [v] => v
 | vs => .tuple vs.toArray
def funQ (P : Program) (rs : List ResultVar) (R : Value → World → Prop) : Post
 | .normal, l, w => resE P l w rs fun vs => R (tup vs) w
 | .ret, l, w => resE P l w rs fun vs => R (tup vs) w
 | _, _, _ => False
def argsE : Nat → List Value → Env
 | _, [] => []
 | k, v :: r => (k, v) :: argsE (k + 1) r
def rv (tmps : Array Value) : ResultVar → Sem Value
 | .tmp t => pure (tmps.getD t undef)
 | .cell a t => do loadVar t (← asAddr (tmps.getD a undef))
theorem resE_run {P : Program} {N : Nat} (F : Fr N) {l : Env} {w : World} (hk : keysLt N l = true) : ∀ (rs : List ResultVar) (K : List Value → Prop), resE P l w rs K →
  ∃ vs, K vs ∧ (rs.mapM (rv (mk F l).tmps)).run P w = .ok vs w
 | [], K, h => ⟨[], h, by simp⟩
 | .tmp t :: r, K, h => by
  simp only [resE] at h
  split at h
  ·rename_i v hv
   obtain ⟨vs, hK, hr⟩ := resE_run F hk r _ h
   have := get_sets F hk hv
   have e : (rv (mk F l).tmps (.tmp t)).run P w = .ok v w := by simp [rv, mk, this]
   exact ⟨v :: vs, hK, by rw [List.mapM_cons, Sem.run_bind, e]; simp only [Result.andThen_ok]; rw [Sem.run_bind, hr]; rfl⟩
  ·exact h.elim
 | .cell p t :: r, K, h => by
  simp only [resE] at h
  split at h
  ·rename_i a hp
   have := get_sets F hk hp
   split at h
   ·rename_i hkd
    split at h
    ·rename_i v hv
     obtain ⟨vs, hK, hr⟩ := resE_run F hk r _ h
     have e : (rv (mk F l).tmps (.cell p t)).run P w = .ok v w := by simp [rv, mk, this, asAddr, loadVar, run_isAgg_scalar hkd, run_load, hv]
     exact ⟨v :: vs, hK, by rw [List.mapM_cons, Sem.run_bind, e]; simp only [Result.andThen_ok]; rw [Sem.run_bind, hr]; rfl⟩
    ·exact h.elim
   ·rename_i n hkd
    obtain ⟨cs, ⟨hn, hc⟩, h⟩ := h
    obtain ⟨vs, hK, hr⟩ := resE_run F hk r _ h
    have hl := run_loadCells_list (P := P) w a cs.toList (fun j v hv => hc j v (by simpa using hv))
    simp only [Array.length_toList, Array.toArray_toList, hn] at hl
    have e : (rv (mk F l).tmps (.cell p t)).run P w = .ok (.agg cs) w := by simp [rv, mk, this, asAddr, loadVar, run_isAgg_agg hkd, run_sizeOf_agg hkd, hl]
    exact ⟨.agg cs :: vs, hK, by rw [List.mapM_cons, Sem.run_bind, e]; simp only [Result.andThen_ok]; rw [Sem.run_bind, hr]; rfl⟩
   ·exact h.elim
  ·exact h.elim
theorem results_rv (fn : Func) (tmps : Array Value) : results fn tmps = (do let vs ← fn.results.mapM (rv tmps); pure (if h : vs.size = 1 then vs[0] else .tuple vs)) := rfl
theorem results_of {P : Program} {N : Nat} (F : Fr N) {l : Env} {w : World} (hk : keysLt N l = true) {fn : Func} {R : Value → World → Prop} (h : resE P l w fn.results.toList fun vs => R (tup vs) w) :
  ∃ v, (results fn (mk F l).tmps).run P w = .ok v w ∧ R v w := by
 obtain ⟨vs, hK, hr⟩ := resE_run F hk _ _ h
 refine ⟨tup vs, ?_, hK⟩
 rw [results_rv, Array.mapM_eq_mapM_toList, Sem.run_bind]
 simp only [Sem.run_map, hr]
 match vs with
 | [] => rfl
 | [v] => rfl
 | a :: b :: r => simp [tup, Result.andThen]
theorem argsE_keys {N : Nat} : ∀ (k : Nat) (vs : List Value), k + vs.length ≤ N → keysLt N (argsE k vs) = true
 | _, [], _ => rfl
 | k, v :: r, h => by
  simp only [argsE, keysLt, Bool.and_eq_true]
  simp only [List.length_cons] at h
  exact ⟨Nat.ble_eq_true_of_le (by omega), argsE_keys (k + 1) r (by omega)⟩
theorem argsE_mem : ∀ (vs : List Value) (k : Nat), ∀ p ∈ argsE k vs, k ≤ p.1 ∧ vs[p.1 - k]? = some p.2
 | [], k, p, h => by simp [argsE] at h
 | u :: r, k, p, h => by
  simp only [argsE, List.mem_cons] at h
  rcases h with rfl | h
  ·exact ⟨Nat.le_refl _, by simp⟩
  ·obtain ⟨h1, h2⟩ := argsE_mem r (k + 1) p h
   refine ⟨by omega, ?_⟩
   rw [show p.1 - k = (p.1 - (k + 1)) + 1 by omega]
   simpa using h2
theorem calls_W {P : Program} {f : FuncId} {fn : Func} {c : Code} {args : List Value} {w : World} {R : Value → World → Prop} {N : Nat} {rs : Array ResultVar}
  (hf : P.funcs[f]? = some fn) (hb : fn.body = some c) (hN : fn.ntmps = N) (hrs : fn.results = rs) (hle : args.length ≤ N)
  (h : W P N c (funQ P rs.toList R) (argsE 0 args) w) : Calls P f args.toArray w (Ret R) := by
 subst hN; subst hrs
 refine calls_of_wp hf hb ?_
 let F : Fr fn.ntmps := ⟨args.toArray ++ Array.replicate (fn.ntmps - args.toArray.size) undef, by simp; omega⟩
 have e : mk F (argsE 0 args) = { tmps := args.toArray ++ Array.replicate (fn.ntmps - args.toArray.size) undef, defers := [] } := by
  show Act.mk _ _ = Act.mk _ _
  rw [sets_same]
  intro p hp
  obtain ⟨_, h2⟩ := argsE_mem args 0 p hp
  simp only [Nat.sub_zero] at h2
  have hlt : p.1 < args.length := by
   rcases Nat.lt_or_ge p.1 args.length with h | h
   ·exact h
   ·rw [List.getElem?_eq_none h] at h2; cases h2
  show (args.toArray ++ Array.replicate (fn.ntmps - args.toArray.size) undef)[p.1]? = some p.2
  rw [Array.getElem?_append_left (by simpa using hlt)]
  simpa using h2
 rw [← e]
 refine Code.wp_mono ?_ (h (argsE_keys 0 args (by simpa using hle)) F)
 rintro ex a w' ⟨F', l', rfl, hk', hQ⟩
 cases ex with
 | normal => obtain ⟨v, h1, h2⟩ := results_of F' hk' hQ; exact ⟨rfl, v, h1, h2⟩
 | ret => obtain ⟨v, h1, h2⟩ := results_of F' hk' hQ; exact ⟨rfl, v, h1, h2⟩
 | exit id => exact hQ.elim
 | goto l => exact hQ.elim
 | panic c => exact hQ.elim
 | outgrown => exact hQ.elim
theorem Ret.mono {K K' : Value → World → Prop} {P : Program} {f : FuncId} {args : Array Value} {w : World} (h : Calls P f args w (Ret K)) (hk : ∀ v w', K v w' → K' v w') : Calls P f args w (Ret K') :=
 Calls.mono h fun e w' he => by cases e <;> simp only [Ret] at he ⊢; exact hk _ _ he

def edgeB (ops : List Oper) (k j : Nat) : Bool := match ops[k]? with
 | some o => o.after.any fun e => Region.binds .any e && e.on == j
 | none => false
def dstAt (ops : List Oper) (j : Nat) : Option Nat := (ops[j]?).bind (·.dst)
def noSel (o : Oper) : Bool := match o.op with | .select .. => false | _ => true
def regOk (keys : List Nat) (ops : List Oper) (n : Nat) : Bool :=
 (decide (n ≤ ops.length)) && ops.all noSel &&
 ((List.range ops.length).all fun i => match ops[i]? with
  | some o => o.after.all fun e => !Region.binds .any e || decide (e.on < i)
  | none => true) &&
 ((List.range n).all fun i => match ops[i]? with
  | none => false
  | some o => (o.looksAt ops.toArray).all fun t =>
   ((List.range n).all fun j => dstAt ops j != some t || (decide (j < i) && edgeB ops i j)) &&
   (((List.range i).any fun j => dstAt ops j == some t) || keys.contains t)) &&
 ((List.range n).all fun i => (List.range i).all fun j => dstAt ops i == none || dstAt ops i != dstAt ops j) &&
 ((List.range ops.length).all fun i => decide (i < n) || (List.range i).all fun j => (List.range (i + 1)).any fun k => decide (j < k) && edgeB ops k j)

structure Heads (P : Program) (N : Nat) (C : World → Prop) (ops : List Oper) (n : Nat) (l : Env) (ds : List (Option Nat)) (envs : Nat → Env) (vs : Nat → Value) : Prop where
 zero : envs 0 = l
 succ : ∀ i o, i < n → ops[i]? = some o → envs (i + 1) = stp o.dst (vs i) (envs i)
 lt : ∀ i o, i < n → ops[i]? = some o → dstLt N o.dst
 run : ∀ i o, i < n → ops[i]? = some o → ∃ b, gd (envs i) ds o.guard (· = b) ∧ (b = true → ∀ w, C w → Yields P (execOp (evD (envs i)) o) w fun u w' => u = vs i ∧ C w') ∧ (b = false → vs i = undef)

theorem gd_val {l : Env} {ds : List (Option Nat)} {g : Option (Nat × Bool)} {k : Bool → Prop} (h : gd l ds g k) : ∃ b, gd l ds g (· = b) ∧ k b := by
 unfold gd at *
 split at h
 ·exact ⟨true, rfl, h⟩
 ·split at h
  ·split at h
   ·exact ⟨_, rfl, h⟩
   ·exact ⟨_, rfl, h⟩
   ·exact h.elim
  ·exact h.elim
theorem heads_of {P : Program} {N : Nat} {w0 : World} {K : Env → Prop} {ds : List (Option Nat)} : ∀ (ops : List Oper) (l : Env), VCq P N ds w0 K ops l → ∃ envs vs, Heads P N (Below w0.heap.size w0) ops ops.length l ds envs vs ∧ K (envs ops.length)
 | [], l, h => ⟨fun _ => l, fun _ => undef, ⟨rfl, fun i o hi => absurd hi (Nat.not_lt_zero _), fun i o hi => absurd hi (Nat.not_lt_zero _), fun i o hi => absurd hi (Nat.not_lt_zero _)⟩, h⟩
 | o :: rest, l, h => by
  obtain ⟨b, hb, hd, h⟩ := gd_val h
  have main : ∃ v, VCq P N ds w0 K rest (stp o.dst v l) ∧ (b = true → ∀ w, Below w0.heap.size w0 w → Yields P (execOp (evD l) o) w fun u w' => u = v ∧ Below w0.heap.size w0 w') ∧ (b = false → v = undef) := by
   cases b with
   | true =>
    simp only [doOr] at h
    obtain ⟨v, hK, hv⟩ := vcQ_vc (ty := o.type) h
    exact ⟨v, hK, fun _ w hw => vcOp_ok (fun x X hx => by simp [evD, hx]) (hv w hw), fun e => by cases e⟩
   | false =>
    simp only [doOr] at h
    exact ⟨undef, h, (fun e => by cases e), fun _ => rfl⟩
  obtain ⟨v, hV, h1, h2⟩ := main
  obtain ⟨envs, vs, H, hK⟩ := heads_of rest _ hV
  refine ⟨fun | 0 => l | i + 1 => envs i, fun | 0 => v | i + 1 => vs i, ⟨rfl, ?_, ?_, ?_⟩, hK⟩
  ·intro i o' hi ho
   cases i with
   | zero => simp only [List.getElem?_cons_zero, Option.some.injEq] at ho; subst ho; exact H.zero
   | succ i => exact H.succ i o' (by simpa using hi) (by simpa using ho)
  ·intro i o' hi ho
   cases i with
   | zero => simp only [List.getElem?_cons_zero, Option.some.injEq] at ho; subst ho; exact hd
   | succ i => exact H.lt i o' (by simpa using hi) (by simpa using ho)
  ·intro i o' hi ho
   cases i with
   | zero => simp only [List.getElem?_cons_zero, Option.some.injEq] at ho; subst ho; exact ⟨b, hb, h1, h2⟩
   | succ i => exact H.run i o' (by simpa using hi) (by simpa using ho)

section
variable {P : Program} {N : Nat} {C : World → Prop} {ops : List Oper} {n : Nat} {l : Env} {envs : Nat → Env} {vs : Nat → Value} {ds : List (Option Nat)}
theorem dstAt_some {j : Nat} {t : Nat} (h : dstAt ops j = some t) : ∃ o, ops[j]? = some o ∧ o.dst = some t := by
 unfold dstAt at h
 cases ho : ops[j]? with
 | none => simp [ho] at h
 | some o => exact ⟨o, rfl, by simpa [ho] using h⟩
theorem heads_keys (H : Heads P N C ops n l ds envs vs) (hn : n ≤ ops.length) (hk : keysLt N l = true) : ∀ i, i ≤ n → keysLt N (envs i) = true
 | 0, _ => by rw [H.zero]; exact hk
 | i + 1, hi => by
  have ho : ops[i]? = some (ops[i]'(by omega)) := List.getElem?_eq_getElem _
  rw [H.succ i _ (by omega) ho]
  refine keysLt_put (heads_keys H hn hk i (by omega)) (fun k e => ?_)
  have := H.lt i _ (by omega) ho
  rw [e] at this; exact this
theorem heads_old (H : Heads P N C ops n l ds envs vs) (hn : n ≤ ops.length) (base : Array Value) (t : Nat) : ∀ i, i ≤ n → (∀ j, j < i → dstAt ops j ≠ some t) →
  lk (envs i) t = lk l t ∧ (sets base (envs i))[t]? = (sets base l)[t]?
 | 0, _, _ => by rw [H.zero]; exact ⟨rfl, rfl⟩
 | i + 1, hi, h => by
  obtain ⟨h1, h2⟩ := heads_old H hn base t i (by omega) (fun j hj => h j (by omega))
  have ho : ops[i]? = some (ops[i]'(by omega)) := List.getElem?_eq_getElem _
  rw [H.succ i _ (by omega) ho]
  have hne := h i (by omega)
  unfold dstAt at hne
  rw [ho] at hne
  simp only [Option.bind_some] at hne
  cases hd : (ops[i]'(by omega)).dst with
  | none => exact ⟨h1, h2⟩
  | some d =>
   have : d ≠ t := fun e => hne (by rw [hd, e])
   simp only [stp, lk, sets, if_neg this]
   exact ⟨h1, by rw [Array.getElem?_setIfInBounds_ne this]; exact h2⟩
theorem heads_new (H : Heads P N C ops n l ds envs vs) (hn : n ≤ ops.length) {base : Array Value} (hbase : base.size = N) {t j : Nat} (hj : dstAt ops j = some t) (huniq : ∀ k, k < n → k ≠ j → dstAt ops k ≠ some t) : ∀ i, i ≤ n → j < i →
  lk (envs i) t = some (vs j) ∧ (sets base (envs i))[t]? = some (vs j)
 | 0, _, h => absurd h (Nat.not_lt_zero _)
 | i + 1, hi, h => by
  have ho : ops[i]? = some (ops[i]'(by omega)) := List.getElem?_eq_getElem _
  rw [H.succ i _ (by omega) ho]
  by_cases e : j = i
  ·subst e
   obtain ⟨o, ho', hd⟩ := dstAt_some hj
   have : o = ops[j]'(by omega) := by rw [ho] at ho'; exact (Option.some.inj ho').symm
   subst this
   have hlt := H.lt j _ (by omega) ho
   rw [hd] at hlt ⊢
   simp only [stp, lk, sets, if_true, true_and]
   rw [Array.getElem?_setIfInBounds_self_of_lt (by rw [sets_size, hbase]; exact hlt)]
  ·obtain ⟨h1, h2⟩ := heads_new H hn hbase hj huniq i (by omega) (by omega)
   have hne := huniq i (by omega) (Ne.symm e)
   unfold dstAt at hne
   rw [ho] at hne
   simp only [Option.bind_some] at hne
   cases hd : (ops[i]'(by omega)).dst with
   | none => exact ⟨h1, h2⟩
   | some d =>
    have : d ≠ t := fun e => hne (by rw [hd, e])
    simp only [stp, lk, sets, if_neg this]
    exact ⟨h1, by rw [Array.getElem?_setIfInBounds_ne this]; exact h2⟩

structure RegOk (keys : List Nat) (ops : List Oper) (n : Nat) : Prop where
 hn : n ≤ ops.length
 sel : ∀ (i : Nat) (o : Oper), ops[i]? = some o → ∀ (cs : Array SelectCase) (b : Bool), o.op ≠ Op.select cs b
 down : ∀ (i : Nat) (o : Oper) (e : Edge), ops[i]? = some o → e ∈ o.after → Region.binds .any e = true → e.on < i
 looks : ∀ (i : Nat) (o : Oper) (t : Nat), i < n → ops[i]? = some o → t ∈ o.looksAt ops.toArray → (∀ j, j < n → dstAt ops j = some t → j < i ∧ edgeB ops i j = true) ∧ ((∃ j, j < i ∧ dstAt ops j = some t) ∨ t ∈ keys)
 uniq : ∀ i j, i < n → j < i → dstAt ops i = none ∨ dstAt ops i ≠ dstAt ops j
 tail : ∀ i j, i < ops.length → n ≤ i → j < i → ∃ k, k ≤ i ∧ j < k ∧ edgeB ops k j = true
theorem regOk_spec {keys : List Nat} (h : regOk keys ops n = true) : RegOk keys ops n := by
 simp only [regOk, Bool.and_eq_true, decide_eq_true_eq, List.all_eq_true, List.mem_range] at h
 obtain ⟨⟨⟨⟨⟨h1, h2⟩, h3⟩, h4⟩, h5⟩, h6⟩ := h
 refine ⟨h1, ?_, ?_, ?_, ?_, ?_⟩
 ·intro i o ho cs b e
  have := h2 o (List.mem_of_getElem? ho)
  simp [noSel, e] at this
 ·intro i o e ho he hb
  have hi : i < ops.length := (List.getElem?_eq_some_iff.1 ho).1
  have := h3 i hi
  rw [ho] at this
  simp only [Array.all_eq_true_iff_forall_mem] at this
  have := this e he
  rw [hb] at this
  simpa using this
 ·intro i o t hi ho ht
  have := h4 i hi
  rw [ho] at this
  simp only [List.all_eq_true] at this
  have := this t ht
  simp only [Bool.and_eq_true, List.all_eq_true, List.mem_range, Bool.or_eq_true, List.any_eq_true, bne_iff_ne, ne_eq, decide_eq_true_eq, beq_iff_eq, List.contains_iff_mem] at this
  obtain ⟨a1, a2⟩ := this
  exact ⟨fun j hj hd => (a1 j hj).resolve_left (fun e => e hd), a2⟩
 ·intro i j hi hj
  have := h5 i hi j hj
  simpa only [Bool.or_eq_true, beq_iff_eq, bne_iff_ne] using this
 ·intro i j hi hni hj
  have := h6 i hi
  simp only [Bool.or_eq_true, decide_eq_true_eq, List.all_eq_true, List.mem_range, List.any_eq_true, Bool.and_eq_true] at this
  rcases this with h | h
  ·omega
  ·obtain ⟨k, h1, h2, h3⟩ := h j hj
   exact ⟨k, by omega, h2, h3⟩
theorem ready_edge {listed : Array Bool} {i j : Nat} (hi : i ∈ Region.ready .any ops.toArray listed) (he : edgeB ops i j = true) : listed.getD j false = true := by
 obtain ⟨_, o, ho, hall⟩ := mem_ready.1 hi
 have ho' : ops[i]? = some o := by simpa using ho
 unfold edgeB at he
 rw [ho'] at he
 simp only [Array.any_eq_true] at he
 obtain ⟨k, hk, he⟩ := he
 simp only [Bool.and_eq_true, beq_iff_eq] at he
 have := hall o.after[k] (Array.getElem_mem hk) he.1
 rw [he.2] at this; exact this
theorem drawn_tail {keys : List Nat} (ok : RegOk keys ops n) {Q : Exit → Act → World → Prop} : ∀ (fuel m : Nat) (listed : Array Bool) (a : Act) (w : World), m + fuel = ops.length → n ≤ m → listed.size = ops.length →
  (∀ i, i < ops.length → (listed.getD i false = true ↔ i < m)) → wpList P ops.toArray Q (ops.drop m) a w → wpAny P .any ops.toArray Q fuel listed a w
 | 0, m, listed, a, w, hm, _, hs, hl, h => by
  have hmem : ∀ i, ¬ i ∈ Region.ready .any ops.toArray listed := fun i hi => by
   obtain ⟨h0, o, ho, _⟩ := mem_ready.1 hi
   have hi' : i < ops.length := by simpa using (Array.getElem?_eq_some_iff.1 ho).1
   have := (hl i hi').2 (by omega)
   rw [getD_both h0] at this; cases this
  refine ⟨List.eq_nil_iff_forall_not_mem.2 hmem, ?_⟩
  rw [List.drop_eq_nil_of_le (by omega)] at h
  exact h
 | fuel + 1, m, listed, a, w, hm, hnm, hs, hl, h => by
  have hmlt : m < ops.length := by omega
  have ho : ops[m]? = some (ops[m]'hmlt) := List.getElem?_eq_getElem _
  have hmem : ∀ i, i ∈ Region.ready .any ops.toArray listed → i = m := fun i hi => by
   obtain ⟨h0, o, ho, _⟩ := mem_ready.1 hi
   have hi' : i < ops.length := by simpa using (Array.getElem?_eq_some_iff.1 ho).1
   have h1 : ¬ i < m := fun hlt => by
    have := (hl i hi').2 hlt
    rw [getD_both h0] at this; cases this
   rcases Nat.lt_or_ge m i with hlt | hge
   ·exfalso
    have key : ∀ d j, i - j = d → m ≤ j → j < i → listed.getD j false = true := by
     intro d
     induction d using Nat.strongRecOn with
     | _ d ih =>
      intro j hd hmj hji
      obtain ⟨k, hk1, hk2, hk3⟩ := ok.tail i j hi' (by omega) hji
      rcases Nat.lt_or_ge k i with hki | hki
      ·have hlk := ih (i - k) (by omega) k rfl (by omega) hki
       have := (hl k (by omega)).1 hlk
       omega
      ·have : k = i := by omega
       subst this
       exact ready_edge hi hk3
    have := (hl m hmlt).1 (key _ m rfl (Nat.le_refl _) hlt)
    omega
   ·omega
  have hm_ready : m ∈ Region.ready .any ops.toArray listed := by
   refine mem_ready.2 ⟨?_, ops[m]'hmlt, by simp, fun e he hb => ?_⟩
   ·have : listed.getD m false ≠ true := fun e => by have := (hl m hmlt).1 e; omega
    have h2 : m < listed.size := by omega
    simp only [Array.getD, h2, dite_true] at this ⊢
    simpa using this
   ·have := ok.down m _ e ho he hb
    exact (hl e.on (by omega)).2 this
  refine ⟨fun h0 => absurd hm_ready (by rw [h0]; simp), fun i hi => ?_⟩
  have := hmem i hi
  subst this
  rw [List.drop_eq_getElem_cons hmlt] at h
  unfold wpOp
  simp only [List.getElem?_toArray, ho]
  unfold wpList at h
  have next : ∀ a' w', wpList P ops.toArray Q (ops.drop (i + 1)) a' w' → wpAny P .any ops.toArray Q fuel (listed.setIfInBounds i true) a' w' := fun a' w' h' =>
   drawn_tail ok fuel (i + 1) _ a' w' (by omega) (by omega) (by simpa using hs) (fun j hj => by
    by_cases e : i = j
    ·subst e
     have : i < listed.size := by omega
     simp [this]
    ·rw [getD_set_ne false e, hl j hj]; omega) h'
  split
  ·rename_i hw; rw [if_pos hw] at h; exact h.imp (Oper.wp_mono next) id
  ·rename_i hw; rw [if_neg hw] at h; exact next _ _ h

structure Mid (N : Nat) (C : World → Prop) (ops : List Oper) (n : Nat) (base : Array Value) (vs : Nat → Value) (listed : Array Bool) (a : Act) (w : World) : Prop where
 size : listed.size = ops.length
 clos : ∀ i j, listed.getD i false = true → edgeB ops i j = true → listed.getD j false = true
 heads : ∀ i, listed.getD i false = true → i < n
 defers : a.defers = []
 tsize : a.tmps.size = N
 new : ∀ j t, j < n → listed.getD j false = true → dstAt ops j = some t → a.tmps[t]? = some (vs j)
 old : ∀ t, (∀ j, j < n → listed.getD j false = true → dstAt ops j ≠ some t) → a.tmps[t]? = base[t]?
 cls : C w
def unl (listed : Array Bool) : Nat := (listed.toList.filter (!·)).length
theorem unl_set {listed : Array Bool} {i : Nat} (h : listed.getD i true = false) : unl listed = unl (listed.setIfInBounds i true) + 1 := by
 obtain ⟨l⟩ := listed
 unfold unl
 simp only [List.setIfInBounds_toArray]
 have h' : l[i]? = some false := by
  simp only [Array.getD_eq_getD_getElem?, List.getElem?_toArray] at h
  cases hl : l[i]? with
  | none => rw [hl] at h; cases h
  | some b => rw [hl] at h; simpa using h
 clear h
 induction l generalizing i with
 | nil => simp at h'
 | cons b r ih =>
  cases i with
  | zero => simp only [List.getElem?_cons_zero, Option.some.injEq] at h'; subst h'; simp
  | succ i =>
   have := ih (i := i) (by simpa using h')
   cases b <;> simp_all
theorem unl_zero {listed : Array Bool} (h : unl listed = 0) {i : Nat} (hi : i < listed.size) : listed.getD i false = true := by
 unfold unl at h
 have h1 : listed.toList.filter (!·) = [] := List.eq_nil_of_length_eq_zero h
 have h2 := List.filter_eq_nil_iff.1 h1 (listed[i]) (by simp)
 simp only [Array.getD, hi, dite_true]
 simpa using h2
theorem unl_replicate (m : Nat) : unl (Array.replicate m false) = m := by simp [unl, List.filter_replicate]
theorem looks_tmp {o : Oper} {opsA : Array Oper} {t : Nat} (h : Operand.tmp t ∈ o.op.operands) : t ∈ o.looksAt opsA := by
 unfold Oper.looksAt
 exact List.mem_append_left _ (List.mem_filterMap.2 ⟨.tmp t, by simpa using h, rfl⟩)
theorem looks_guard {o : Oper} {ops : List Oper} {g d : Nat} {b : Bool} (h : o.guard = some (g, b)) (hd : dstAt ops g = some d) : d ∈ o.looksAt ops.toArray := by
 unfold Oper.looksAt
 refine List.mem_append_right _ ?_
 rw [h]
 unfold dstAt at hd
 simp [hd]

theorem drawn_heads {keys : List Nat} (ok : RegOk keys ops n) (F : Fr N) (hk : keysLt N l = true) (hkeys : ∀ t ∈ keys, ∃ v, lk l t = some v) (H : Heads P N C ops n l (dsts ops) envs vs)
  {Q : Exit → Act → World → Prop} (hT : ∀ w, C w → wpList P ops.toArray Q (ops.drop n) (mk F (envs n)) w) :
  ∀ (fuel : Nat) (listed : Array Bool) (a : Act) (w : World), unl listed = fuel → Mid N C ops n (sets F.base l) vs listed a w → wpAny P .any ops.toArray Q fuel listed a w := by
 have uniq : ∀ i j t, i < n → j < n → dstAt ops i = some t → dstAt ops j = some t → i = j := by
  intro i j t hi hj h1 h2
  rcases Nat.lt_trichotomy i j with h | h | h
  ·rcases ok.uniq j i hj h with e | e
   ·rw [h2] at e; cases e
   ·exact absurd (h2.trans h1.symm) e
  ·exact h
  ·rcases ok.uniq i j hi h with e | e
   ·rw [h1] at e; cases e
   ·exact absurd (h1.trans h2.symm) e
 have final : ∀ (listed : Array Bool) (a : Act) (w : World), Mid N C ops n (sets F.base l) vs listed a w → (∀ j, j < n → listed.getD j false = true) → a = mk F (envs n) := by
  intro listed a w M hall
  obtain ⟨tm, df⟩ := a
  have hd : df = [] := M.defers
  subst hd
  show Act.mk _ _ = Act.mk _ _
  congr 1
  apply Array.ext_getElem?
  intro t
  by_cases h : ∃ j, j < n ∧ dstAt ops j = some t
  ·obtain ⟨j, hj, hd⟩ := h
   have h1 := M.new j t hj (hall j hj) hd
   have h2 := (heads_new H ok.hn F.hN hd (fun k hk hne e => hne (uniq k j t hk hj e hd)) n (Nat.le_refl _) hj).2
   exact h1.trans h2.symm
  ·have h' : ∀ j, j < n → dstAt ops j ≠ some t := fun j hj e => h ⟨j, hj, e⟩
   have h1 := M.old t (fun j hj _ => h' j hj)
   have h2 := (heads_old H ok.hn F.base t n (Nat.le_refl _) h').2
   exact h1.trans h2.symm
 have slot : ∀ (listed : Array Bool) (a : Act) (w : World) (i : Nat) (o : Oper) (t : Nat), Mid N C ops n (sets F.base l) vs listed a w → i < n → ops[i]? = some o → i ∈ Region.ready .any ops.toArray listed → t ∈ o.looksAt ops.toArray →
   ∃ X, a.tmps[t]? = some X ∧ lk (envs i) t = some X := by
  intro listed a w i o t M hi ho hr ht
  obtain ⟨l1, l2⟩ := ok.looks i o t hi ho ht
  by_cases h : ∃ j, j < n ∧ dstAt ops j = some t
  ·obtain ⟨j, hj, hd⟩ := h
   obtain ⟨hji, he⟩ := l1 j hj hd
   exact ⟨vs j, M.new j t hj (ready_edge hr he) hd, (heads_new H ok.hn F.hN hd (fun k hk hne e => hne (uniq k j t hk hj e hd)) i (by omega) hji).1⟩
  ·have h' : ∀ j, j < n → dstAt ops j ≠ some t := fun j hj e => h ⟨j, hj, e⟩
   rcases l2 with ⟨j, hj, hd⟩ | hkey
   ·exact absurd hd (h' j (by omega))
   ·obtain ⟨v, hv⟩ := hkeys t hkey
    refine ⟨v, ?_, ?_⟩
    ·rw [M.old t (fun j hj _ => h' j hj)]; exact get_sets F hk hv
    ·rw [(heads_old H ok.hn F.base t i (by omega) (fun j hj => h' j (by omega))).1]; exact hv
 intro fuel
 induction fuel with
 | zero =>
  intro listed a w hu M
  have hall : ∀ j, j < ops.length → listed.getD j false = true := fun j hj => unl_zero hu (by rw [M.size]; exact hj)
  have hn : n = ops.length := by
   rcases Nat.lt_or_ge n ops.length with h | h
   ·have := M.heads n (hall n h); omega
   ·have := ok.hn; omega
  have ha := final listed a w M (fun j hj => hall j (by omega))
  subst ha
  exact drawn_tail ok 0 n listed _ w (by omega) (Nat.le_refl _) M.size (fun i hi => ⟨fun _ => by omega, fun _ => hall i hi⟩) (hT w M.cls)
 | succ fuel ih =>
  intro listed a w hu M
  by_cases hdone : ∀ j, j < n → listed.getD j false = true
  ·have ha := final listed a w M hdone
   subst ha
   have hcount : ∀ (m : Nat) (x : Array Bool), x.size = ops.length → (∀ i, i < ops.length → (x.getD i false = true ↔ i < m)) → m ≤ ops.length → m + unl x = ops.length := by
    intro m
    generalize hd : ops.length - m = d
    induction d generalizing m with
    | zero =>
     intro x hx hl hm
     have : unl x = 0 := by
      unfold unl
      rw [List.length_eq_zero_iff, List.filter_eq_nil_iff]
      intro b hb
      obtain ⟨i, hi, rfl⟩ := List.getElem_of_mem hb
      have hi' : i < x.size := by simpa using hi
      have := (hl i (by omega)).2 (by omega)
      simp only [Array.getD, hi', dite_true] at this
      simp [show x.toList[i] = true from this]
     omega
    | succ d ihd =>
     intro x hx hl hm
     have hmlt : m < ops.length := by omega
     have h0 : x.getD m true = false := by
      have : ¬ x.getD m false = true := fun e => by have := (hl m hmlt).1 e; omega
      have hm' : m < x.size := by omega
      simp only [Array.getD, hm', dite_true] at this ⊢
      simpa using this
     have := ihd (m + 1) (by omega) (x.setIfInBounds m true) (by simpa using hx) (fun i hi => by
      by_cases e : m = i
      ·subst e
       have : m < x.size := by omega
       simp [this]
      ·rw [getD_set_ne false e, hl i hi]; omega) (by omega)
     have := unl_set h0
     omega
   have hl : ∀ i, i < ops.length → (listed.getD i false = true ↔ i < n) := fun i hi => ⟨M.heads i, hdone i⟩
   have := hcount n listed M.size hl ok.hn
   exact drawn_tail ok (fuel + 1) n listed _ w (by omega) (Nat.le_refl _) M.size hl (hT w M.cls)
  ·have hex : ∃ j, j < n ∧ listed.getD j false ≠ true := by
    refine Classical.byContradiction fun hne => hdone fun j hj => ?_
    refine Classical.byContradiction fun h => hne ⟨j, hj, h⟩
   have hn := ok.hn
   have hready : ∃ j, j ∈ Region.ready .any ops.toArray listed := by
    obtain ⟨j, hj, hjl⟩ := hex
    have : ∀ d j, j = d → j < n → listed.getD j false ≠ true → ∃ j, j ∈ Region.ready .any ops.toArray listed := by
     intro d
     induction d using Nat.strongRecOn with
     | _ d ihd =>
      intro j hd hj hjl
      subst hd
      have ho : ops[j]? = some (ops[j]'(by omega)) := List.getElem?_eq_getElem _
      by_cases hall : ∀ e ∈ (ops[j]'(by omega)).after, Region.binds .any e = true → listed.getD e.on false = true
      ·refine ⟨j, mem_ready.2 ⟨?_, ops[j]'(by omega), by simp, hall⟩⟩
       have h2 : j < listed.size := by rw [M.size]; omega
       simp only [Array.getD, h2, dite_true] at hjl ⊢
       simpa using hjl
      ·have : ∃ e ∈ (ops[j]'(by omega)).after, Region.binds .any e = true ∧ listed.getD e.on false ≠ true := by
        refine Classical.byContradiction fun hne => hall fun e he hb => ?_
        refine Classical.byContradiction fun h => hne ⟨e, he, hb, h⟩
       obtain ⟨e, he, hb, hl⟩ := this
       have hlt := ok.down j _ e ho he hb
       exact ihd e.on hlt e.on rfl (by omega) hl
    exact this j j rfl hj hjl
   obtain ⟨j0, hj0⟩ := hready
   refine ⟨fun h0 => absurd hj0 (by rw [h0]; simp), fun i hi => ?_⟩
   obtain ⟨hun, o, ho, hall⟩ := mem_ready.1 hi
   have ho' : ops[i]? = some o := by simpa using ho
   have hilt : i < ops.length := (List.getElem?_eq_some_iff.1 ho').1
   have hin : i < n := by
    rcases Nat.lt_or_ge i n with h | h
    ·exact h
    ·exfalso
     apply hdone
     have key : ∀ d j, i - j = d → j < i → listed.getD j false = true := by
      intro d
      induction d using Nat.strongRecOn with
      | _ d ihd =>
       intro j hd hji
       obtain ⟨k, hk1, hk2, hk3⟩ := ok.tail i j hilt h hji
       rcases Nat.lt_or_ge k i with hki | hki
       ·exact M.clos k j (ihd (i - k) (by omega) k rfl hki) hk3
       ·have : k = i := by omega
        subst this
        exact ready_edge hi hk3
     exact fun j hj => key _ j rfl (by omega)
   have hu' : unl (listed.setIfInBounds i true) = fuel := by have := unl_set hun; omega
   have step : ∀ u w', u = vs i → C w' → Mid N C ops n (sets F.base l) vs (listed.setIfInBounds i true) (a.put o.dst u) w' := by
    intro u w' hu hC
    subst hu
    have hlt := H.lt i o hin ho'
    have hdi : dstAt ops i = o.dst := by unfold dstAt; rw [ho']; rfl
    have hset : ∀ j, (listed.setIfInBounds i true).getD j false = true → j = i ∨ listed.getD j false = true := by
     intro j h
     by_cases e : i = j
     ·exact .inl e.symm
     ·rw [getD_set_ne false e] at h; exact .inr h
    have hseti : (listed.setIfInBounds i true).getD i false = true := by
     have : i < listed.size := by rw [M.size]; exact hilt
     simp [this]
    refine ⟨by simpa using M.size, ?_, ?_, ?_, ?_, ?_, ?_, hC⟩
    ·intro k j hk he
     rcases hset k hk with rfl | hk
     ·exact getD_set_true (ready_edge hi he)
     ·exact getD_set_true (M.clos k j hk he)
    ·intro k hk
     rcases hset k hk with rfl | hk
     ·exact hin
     ·exact M.heads k hk
    ·cases hd : o.dst <;> exact M.defers
    ·cases hd : o.dst with
     | none => exact M.tsize
     | some d => simp only [Act.put, Array.size_setIfInBounds]; exact M.tsize
    ·intro j t hj hjl hd
     rcases hset j hjl with rfl | hjl'
     ·rw [hdi] at hd
      rw [hd] at hlt ⊢
      simp only [Act.put]
      rw [Array.getElem?_setIfInBounds_self_of_lt (by rw [M.tsize]; exact hlt)]
     ·by_cases e : j = i
      ·subst e
       rw [hdi] at hd
       rw [hd] at hlt ⊢
       simp only [Act.put]
       rw [Array.getElem?_setIfInBounds_self_of_lt (by rw [M.tsize]; exact hlt)]
      ·have h1 := M.new j t hj hjl' hd
       cases hdo : o.dst with
       | none => exact h1
       | some d =>
        have hne : d ≠ t := fun e' => e (uniq j i t hj hin hd (by rw [hdi, hdo, e']))
        simp only [Act.put]
        rw [Array.getElem?_setIfInBounds_ne hne]; exact h1
    ·intro t ht
     have h1 := M.old t (fun j hj hjl => ht j hj (getD_set_true hjl))
     have h2 := ht i hin hseti
     rw [hdi] at h2
     cases hdo : o.dst with
     | none => exact h1
     | some d =>
      have hne : d ≠ t := fun e' => h2 (by rw [hdo, e'])
      simp only [Act.put]
      rw [Array.getElem?_setIfInBounds_ne hne]; exact h1
   obtain ⟨b, hb, hbt, hbf⟩ := H.run i o hin ho'
   have hw : Region.wanted o (yielded ops.toArray a.tmps) = b := by
    unfold gd at hb
    split at hb
    ·rename_i hg; simp only [Region.wanted, hg]; exact hb
    ·rename_i g want hg
     split at hb
     ·rename_i d hd
      split at hb
      ·rename_i bb hbb
       have hdd : dstAt ops g = some d := by
        unfold dstAt
        simp only [dsts, List.getElem?_map, Option.map_eq_some_iff] at hd
        obtain ⟨x, hx, hx'⟩ := hd
        simp [hx, hx']
       obtain ⟨X, hX1, hX2⟩ := slot listed a w i o d M hin ho' hi (looks_guard hg hdd)
       rw [hbb] at hX2
       cases hX2
       have : yielded ops.toArray a.tmps g = some bb := by
        unfold yielded
        unfold dstAt at hdd
        simp only [List.getElem?_toArray, hdd, Option.bind_some, hX1]
       simp only [Region.wanted, hg, this]
       rw [← hb]
       cases bb <;> cases want <;> rfl
      ·rename_i bb hnb hbb
       have hdd : dstAt ops g = some d := by
        unfold dstAt
        simp only [dsts, List.getElem?_map, Option.map_eq_some_iff] at hd
        obtain ⟨x, hx, hx'⟩ := hd
        simp [hx, hx']
       obtain ⟨X, hX1, hX2⟩ := slot listed a w i o d M hin ho' hi (looks_guard hg hdd)
       rw [hbb] at hX2
       cases hX2
       have : yielded ops.toArray a.tmps g = none := by
        unfold yielded
        unfold dstAt at hdd
        simp only [List.getElem?_toArray, hdd, Option.bind_some, hX1]
        split
        ·rename_i b' e; cases e; exact (hnb b' rfl).elim
        ·rfl
       simp only [Region.wanted, hg, this]
       rw [← hb]
       rfl
      ·exact hb.elim
     ·exact hb.elim
   unfold wpOp
   simp only [ho, hw]
   cases b with
   | true =>
    simp only [if_true]
    refine .inl (wp_of_yields ?_)
    have hcong : execOp a.eval o = execOp (evD (envs i)) o := by
     refine execOp_congr o (ok.sel i o ho') (fun x hx => ?_)
     cases x with
     | tmp t =>
      obtain ⟨X, hX1, hX2⟩ := slot listed a w i o t M hin ho' hi (looks_tmp hx)
      simp [Act.eval, evD, ev, hX1, hX2]
     | const c => rfl
     | global g => rfl
     | func f => rfl
    rw [hcong]
    exact (hbt rfl w M.cls).mono fun u w' ⟨hu, hC⟩ => ih _ _ _ hu' (step u w' hu hC)
   | false =>
    simp only [Bool.false_eq_true, if_false]
    exact ih _ _ _ hu' (step undef w (hbf rfl).symm M.cls)
end
def keysE (l : Env) : List Nat := l.map (·.1)
theorem keysE_get : ∀ {l : Env} {t : Nat}, t ∈ keysE l → ∃ v, lk l t = some v
 | [], t, h => by simp [keysE] at h
 | (k, v) :: r, t, h => by
  simp only [lk]
  by_cases e : k = t
  ·exact ⟨v, by rw [if_pos e]⟩
  ·rw [if_neg e]
   refine keysE_get ?_
   simp only [keysE, List.map_cons, List.mem_cons] at h
   rcases h with h | h
   ·exact absurd h.symm e
   ·exact h
section
variable {P : Program} {N : Nat} {Q : Post} {l : Env} {w : World}
theorem W_drawn {id : Nat} {ops : List Oper} (keys : List Nat) (n : Nat) (hm : P.follows .mixedOrders = true) (hkeys : keysE l = keys) (hok : regOk keys ops n = true)
  (h : ∀ K : Env → World → Prop, (∀ l' w', Q .normal l' w' → K l' w') → VCq P N (dsts ops) w (fun l' => ∀ w', Below w.heap.size w w' → VCs P N (dsts ops) K (ops.drop n) l' w') (ops.take n) l) : W P N (.region id ops.toArray true) Q l w := fun hk F => by
 have ok := regOk_spec hok
 have hlen : (ops.take n).length = n := by rw [List.length_take]; have := ok.hn; omega
 obtain ⟨envs, vs, H, hK⟩ := heads_of _ _ (h _ fun _ _ h => h)
 rw [hlen] at H hK
 have get_take : ∀ {i : Nat} {o : Oper}, i < n → ops[i]? = some o → (ops.take n)[i]? = some o := fun hi ho => by rw [List.getElem?_take_of_lt hi]; exact ho
 have H' : Heads P N (Below w.heap.size w) ops n l (dsts ops) envs vs := ⟨H.zero, fun i o hi ho => H.succ i o hi (get_take hi ho), fun i o hi ho => H.lt i o hi (get_take hi ho), fun i o hi ho => H.run i o hi (get_take hi ho)⟩
 refine wp_region_any hm ?_
 have hkn := heads_keys H' ok.hn hk n (Nat.le_refl _)
 have := drawn_heads ok F hk (fun t ht => keysE_get (by rw [hkeys]; exact ht)) H' (Q := lift N Q)
  (fun w' hw' => VC_sound F (K := fun l w => Q .normal l w) (fun l' w' hk' hK => ⟨F, l', rfl, hk', hK⟩) _ _ _ hkn (hK w' hw'))
  ops.length (Array.replicate ops.length false) (mk F l) w.drew (unl_replicate _)
  ⟨by simp, (fun i j hi => by rw [getD_replicate_false] at hi; cases hi), (fun i hi => by rw [getD_replicate_false] at hi; cases hi), rfl, by simp [mk, sets_size, F.hN], (fun j t _ hl => by rw [getD_replicate_false] at hl; cases hl), fun t _ => rfl, (Below.refl _ _).drew⟩
 simpa using this
end
inductive Out where
 | go (c : Prop) (v : Value) (w : World)
 | skip
 | eff
 | bad
def outG (l : Env) (ds : List (Option Nat)) (g : Option (Nat × Bool)) : Option Bool :=
 match g with
 | none => some true
 | some (j, want) => match ds[j]? with
  | some (some d) => match lk l d with
   | some (.bool b) => some (b == want)
   | some _ => some false
   | none => none
  | _ => none
def dstOk (N : Nat) : Option Nat → Bool
 | none => true
 | some k => decide (k < N)
def imm (P : Program) (l : Env) (o : Op) (w : World) : Out :=
 match o with
 | .load t x => match ev l x with
  | some (.pointer (some a)) => match kindT P t with
   | some none => match w.cell? a with
    | some v => .go True v w
    | none => .bad
   | some (some _) => .eff
   | none => .bad
  | _ => .bad
 | .alloc t => match zeroT P t with
  | some z => .go True (.pointer (some ⟨w.heap.size, 0, none⟩)) (w.alloc (.cells z t))
  | none => .bad
 | .box t x => match ev l x with
  | some v => .go True (.pointer (some ⟨w.heap.size, 0, none⟩)) (w.alloc (.cells v.cells t))
  | none => .bad
 | _ => .eff
def immQ (P : Program) (l : Env) (o : Op) (w : World) : Out :=
 match o with
 | .load t x => match ev l x with
  | some (.pointer (some a)) => match kindT P t with
   | some none => match w.cell? a with
    | some v => .go True v w
    | none => .bad
   | some (some _) => .eff
   | none => .bad
  | _ => .bad
 | _ => .eff
def outOp (P : Program) (l : Env) (o : Op) (w : World) : Out := match pureOp P l o with
 | some (c, v) => .go c v w
 | none => imm P l o w
def outQ (P : Program) (l : Env) (o : Op) (w : World) : Out := match pureOp P l o with
 | some (c, v) => .go c v w
 | none => immQ P l o w
def out (P : Program) (N : Nat) (ds : List (Option Nat)) (l : Env) (o : Oper) (w : World) : Out := match outG l ds o.guard with
 | some true => (match dstOk N o.dst with | true => outOp P l o.op w | false => .bad)
 | some false => (match dstOk N o.dst with | true => .skip | false => .bad)
 | none => .bad
def outR (P : Program) (N : Nat) (ds : List (Option Nat)) (l : Env) (o : Oper) (w : World) : Out := match outG l ds o.guard with
 | some true => (match dstOk N o.dst with | true => outQ P l o.op w | false => .bad)
 | some false => (match dstOk N o.dst with | true => .skip | false => .bad)
 | none => .bad
def V2 (P : Program) (N : Nat) (ds : List (Option Nat)) (K : Env → World → Prop) : List Oper → Env → World → Prop
 | [], l, w => K l w
 | o :: rest, l, w => match out P N ds l o w with
  | .go c v w' => c ∧ V2 P N ds K rest (stp o.dst v l) w'
  | .skip => V2 P N ds K rest (stp o.dst undef l) w
  | .eff => effOp P l o.op o.type w (fun v w' => V2 P N ds K rest (stp o.dst v l) w') (fun v w' => V2 P N ds K rest (stp o.dst v l) w')
  | .bad => False
def V2s (P : Program) (N : Nat) (ds : List (Option Nat)) (K : Env → World → Prop) (rest : List Oper) (l : Env) (w : World) : Prop := V2 P N ds K rest l w
theorem v2s {P : Program} {N : Nat} {ds : List (Option Nat)} {K : Env → World → Prop} {rest : List Oper} {l : Env} {w : World} (h : V2 P N ds K rest l w) : V2s P N ds K rest l w := h
def Vq (P : Program) (N : Nat) (ds : List (Option Nat)) (w : World) (K : Env → Prop) : List Oper → Env → Prop
 | [], l => K l
 | o :: rest, l => match outR P N ds l o w with
  | .go c v _ => c ∧ Vq P N ds w K rest (stp o.dst v l)
  | .skip => Vq P N ds w K rest (stp o.dst undef l)
  | .eff => effQ P l o.op w (fun v => Vq P N ds w K rest (stp o.dst v l)) (fun v => Vq P N ds w K rest (stp o.dst v l))
  | .bad => False
def Vqs (P : Program) (N : Nat) (ds : List (Option Nat)) (w : World) (K : Env → Prop) (rest : List Oper) (l : Env) : Prop := Vq P N ds w K rest l
theorem vqs {P : Program} {N : Nat} {ds : List (Option Nat)} {w : World} {K : Env → Prop} {rest : List Oper} {l : Env} (h : Vq P N ds w K rest l) : Vqs P N ds w K rest l := h
theorem dstOk_lt {N : Nat} {d : Option Nat} (h : dstOk N d = true) : dstLt N d := by
 cases d with
 | none => trivial
 | some k => simpa [dstOk, dstLt] using h
theorem gd_out {l : Env} {ds : List (Option Nat)} {g : Option (Nat × Bool)} {r : Bool} (h : outG l ds g = some r) {k : Bool → Prop} (hk : k r) : gd l ds g k := by
 cases g with
 | none => simp only [outG, Option.some.injEq] at h; subst h; exact hk
 | some p =>
  obtain ⟨j, want⟩ := p
  unfold outG at h
  unfold gd
  simp only at h ⊢
  cases hds : ds[j]? with
  | none => simp [hds] at h
  | some od =>
   cases od with
   | none => simp [hds] at h
   | some d =>
    simp only [hds] at h ⊢
    cases hl : lk l d with
    | none => simp [hl] at h
    | some v =>
     simp only [hl] at h ⊢
     cases v <;> simp only [Option.some.injEq] at h ⊢ <;> (subst h; exact hk)
theorem imm_eff {P : Program} {l : Env} {o : Op} {ty : TypeId} {w w' : World} {c : Prop} {v : Value} {K : Value → World → Prop} (h : imm P l o w = .go c v w') : effOp P l o ty w (fun u x => u = v ∧ x = w') K := by
 unfold imm at h
 split at h
 ·split at h
  ·rename_i hx
   split at h
   ·rename_i hk
    split at h
    ·rename_i hv
     simp only [Out.go.injEq] at h
     obtain ⟨_, rfl, rfl⟩ := h
     simp only [effOp, hx, hk, hv]
     exact ⟨trivial, trivial⟩
    ·cases h
   ·cases h
   ·cases h
  ·cases h
 ·split at h
  ·rename_i hz
   simp only [Out.go.injEq] at h
   obtain ⟨_, rfl, rfl⟩ := h
   simp only [effOp, hz]
   exact ⟨trivial, trivial⟩
  ·cases h
 ·split at h
  ·rename_i hz
   simp only [Out.go.injEq] at h
   obtain ⟨_, rfl, rfl⟩ := h
   simp only [effOp, hz]
   exact ⟨trivial, trivial⟩
  ·cases h
 ·cases h
theorem immQ_eff {P : Program} {l : Env} {o : Op} {w w' : World} {c : Prop} {v : Value} {K : Value → Prop} (h : immQ P l o w = .go c v w') : effQ P l o w (fun u => u = v) K := by
 unfold immQ at h
 split at h
 ·split at h
  ·rename_i hx
   split at h
   ·rename_i hk
    split at h
    ·rename_i hv
     simp only [Out.go.injEq] at h
     obtain ⟨_, rfl, rfl⟩ := h
     simp only [effQ, hx, hk, hv]
    ·cases h
   ·cases h
   ·cases h
  ·cases h
 ·cases h
theorem effOp_left {P : Program} {l : Env} {o : Op} {ty : TypeId} {w : World} {K KL K' : Value → World → Prop} (h : effOp P l o ty w K KL) (h1 : ∀ v w, K v w → K' v w) (h2 : ∀ v w, KL v w → K' v w) : effOp P l o ty w K' K' := by
 unfold effOp at *
 split at h
 ·split at h
  ·split at h
   ·split at h
    ·exact h1 _ _ h
    ·exact h.elim
   ·obtain ⟨cs, a, b⟩ := h; exact ⟨cs, a, h2 _ _ b⟩
   ·exact h.elim
  ·exact h.elim
 ·split at h
  ·split at h
   ·obtain ⟨x, a, b⟩ := h; exact ⟨x, a, h2 _ _ b⟩
   ·exact h.elim
  ·exact h.elim
 ·split at h
  ·exact h1 _ _ h
  ·exact h.elim
 ·split at h
  ·exact h1 _ _ h
  ·exact h.elim
 ·split at h
  ·obtain ⟨x, a, b⟩ := h; exact ⟨x, a, h2 _ _ b⟩
  ·exact h.elim
 ·split at h
  ·obtain ⟨x, y, a, b⟩ := h; exact ⟨x, y, a, h2 _ _ b⟩
  ·exact h.elim
 ·split at h
  ·split at h
   ·obtain ⟨x, y, a, b⟩ := h; exact ⟨x, y, a, h2 _ _ b⟩
   ·exact h.elim
  ·exact h.elim
 ·split at h
  ·obtain ⟨x, y, a, b⟩ := h; exact ⟨x, y, a, h2 _ _ b⟩
  ·exact h.elim
 ·split at h
  ·exact ⟨h.1, Ret.mono h.2 (fun v w' => h2 v w')⟩
  ·exact h.elim
 ·split at h
  ·split at h
   ·unfold effEq at *
    split at h
    ·obtain ⟨x, a, b⟩ := h; exact ⟨x, a, h2 _ _ b⟩
    ·obtain ⟨x, a, b⟩ := h; exact ⟨x, a, h2 _ _ b⟩
    ·exact h.elim
   ·exact h.elim
  ·exact h.elim
 ·exact h.elim
 ·obtain ⟨hb, x, y, a, b⟩ := h; exact ⟨hb, x, y, a, h2 _ _ b⟩
theorem outOp_go {P : Program} {l : Env} {o : Oper} {ρ : Operand → Value} (hρ : ∀ x X, ev l x = some X → ρ x = X) {w w' : World} {c : Prop} {v : Value} (h : outOp P l o.op w = .go c v w') (hc : c) :
  Yields P (execOp ρ o) w fun u x => u = v ∧ x = w' := by
 unfold outOp at h
 split at h
 ·rename_i c' v' hp
  simp only [Out.go.injEq] at h
  obtain ⟨rfl, rfl, rfl⟩ := h
  exact yields_value (pureOp_ok hρ hp hc w) ⟨rfl, rfl⟩
 ·exact effOp_ok hρ (effOp_left (imm_eff (ty := o.type) (K := fun _ _ => False) h) (fun _ _ h => h) (fun _ _ h => h.elim))
theorem wanted_out {N : Nat} (F : Fr N) {l : Env} (hk : keysLt N l = true) {ops : List Oper} {o : Oper} {r : Bool} (h : outG l (dsts ops) o.guard = some r) :
  Region.wanted o (yielded ops.toArray (mk F l).tmps) = r := gd_wanted F hk (k := fun x => x = r) (gd_out h rfl)
theorem V2_sound {P : Program} {N : Nat} (F : Fr N) {ops : List Oper} {K : Env → World → Prop} {Q : Exit → Act → World → Prop}
  (hQ : ∀ l w, keysLt N l = true → K l w → Q .normal (mk F l) w) : ∀ (rest : List Oper) (l : Env) (w : World), keysLt N l = true → V2 P N (dsts ops) K rest l w → wpList P ops.toArray Q rest (mk F l) w
 | [], l, w, hk, h => hQ l w hk h
 | o :: rest, l, w, hk, h => by
  rw [V2] at h
  unfold out at h
  have ih : ∀ l w, keysLt N l = true → V2 P N (dsts ops) K rest l w → wpList P ops.toArray Q rest (mk F l) w := V2_sound F hQ rest
  unfold wpList
  cases hg : outG l (dsts ops) o.guard with
  | none => simp only [hg] at h
  | some r =>
   rw [wanted_out F hk hg]
   simp only [hg] at h
   cases hd : dstOk N o.dst with
   | false => cases r <;> simp only [hd] at h
   | true =>
    have hk' : ∀ v, keysLt N (stp o.dst v l) = true := fun v => keysLt_put hk (fun k e => by have := dstOk_lt hd; rw [e] at this; exact this)
    cases r with
    | false =>
     simp only [hd] at h
     rw [if_neg (by simp), put_mk]
     exact ih _ _ (hk' _) h
    | true =>
     simp only [hd] at h
     rw [if_pos rfl]
     refine .inl (wp_of_yields ?_)
     cases ho : outOp P l o.op w with
     | go c v w' =>
      simp only [ho] at h
      refine (outOp_go (fun x X hx => eval_mk F hk hx) ho h.1).mono fun u x ⟨hu, hx⟩ => ?_
      subst hu; subst hx
      rw [put_mk]
      exact ih _ _ (hk' _) h.2
     | skip =>
      exfalso
      unfold outOp at ho
      split at ho
      ·cases ho
      ·unfold imm at ho
       repeat' split at ho
       all_goals cases ho
     | eff =>
      simp only [ho] at h
      refine (effOp_ok (fun x X hx => eval_mk F hk hx) h).mono fun v w' hv => ?_
      rw [put_mk]
      exact ih _ _ (hk' _) hv
     | bad => simp only [ho] at h
theorem effQ_left {P : Program} {l : Env} {o : Op} {w : World} {K KL K' : Value → Prop} (h : effQ P l o w K KL) (h1 : ∀ v, K v → K' v) (h2 : ∀ v, KL v → K' v) : effQ P l o w K' K' := by
 unfold effQ at *
 split at h
 ·split at h
  ·split at h
   ·split at h
    ·exact h1 _ h
    ·exact h.elim
   ·obtain ⟨cs, a, b⟩ := h; exact ⟨cs, a, h2 _ b⟩
   ·exact h.elim
  ·exact h.elim
 ·split at h
  ·obtain ⟨x, a, b⟩ := h; exact ⟨x, a, h2 _ b⟩
  ·exact h.elim
 ·split at h
  ·obtain ⟨a0, x, a, b⟩ := h; exact ⟨a0, x, a, h2 _ b⟩
  ·exact h.elim
 ·split at h
  ·split at h
   ·unfold effEq at *
    split at h
    ·obtain ⟨x, a, b⟩ := h; exact ⟨x, a, h2 _ b⟩
    ·obtain ⟨x, a, b⟩ := h; exact ⟨x, a, h2 _ b⟩
    ·exact h.elim
   ·exact h.elim
  ·exact h.elim
 ·obtain ⟨hb, x, a, b⟩ := h; exact ⟨hb, x, a, h2 _ b⟩
 ·obtain ⟨hb, x, a, b⟩ := h; exact ⟨hb, x, a, h2 _ b⟩
 ·obtain ⟨a0, x, a, b⟩ := h; exact ⟨a0, x, a, h2 _ b⟩
 ·exact h.elim
theorem Vq_vc {P : Program} {N : Nat} {ds : List (Option Nat)} {w : World} {K : Env → Prop} : ∀ (ops : List Oper) (l : Env), Vq P N ds w K ops l → VCq P N ds w K ops l
 | [], l, h => h
 | o :: rest, l, h => by
  rw [Vq] at h
  unfold outR at h
  have ih : ∀ l, Vq P N ds w K rest l → VCq P N ds w K rest l := Vq_vc rest
  show gd l ds o.guard _
  cases hg : outG l ds o.guard with
  | none => simp only [hg] at h
  | some r =>
   refine gd_out hg ?_
   simp only [hg] at h
   cases hd : dstOk N o.dst with
   | false => cases r <;> simp only [hd] at h
   | true =>
    refine ⟨dstOk_lt hd, ?_⟩
    cases r with
    | false => simp only [hd] at h; exact ih _ h
    | true =>
     simp only [hd] at h
     show vcQ P l o.op w (fun v => VCq P N ds w K rest (stp o.dst v l)) (fun v => VCq P N ds w K rest (stp o.dst v l))
     unfold vcQ
     cases hp : pureOp P l o.op with
     | some x =>
      obtain ⟨c, v⟩ := x
      simp only [outQ, hp] at h
      exact ⟨h.1, ih _ h.2⟩
     | none =>
      simp only [outQ, hp] at h
      cases ho : immQ P l o.op w with
      | go c v w' =>
       simp only [ho] at h
       exact effQ_left (immQ_eff (K := fun _ => False) ho) (fun u hu => by subst hu; exact ih _ h.2) (fun _ h => h.elim)
      | skip =>
       exfalso
       unfold immQ at ho
       repeat' split at ho
       all_goals cases ho
      | eff => simp only [ho] at h; exact effQ_left h (fun v => ih _) (fun v => ih _)
      | bad => simp only [ho] at h
section
variable {P : Program} {N : Nat} {Q : Post} {l : Env} {w : World}
theorem W_reg {id : Nat} {ops : List Oper} (h : ∀ K : Env → World → Prop, (∀ l' w', Q .normal l' w' → K l' w') → V2 P N (dsts ops) K ops l w) : W P N (.region id ops.toArray false) Q l w := fun hk F =>
 wp_region_lit (V2_sound F (K := fun l w => Q .normal l w) (fun l' w' hk' hK => ⟨F, l', rfl, hk', hK⟩) ops l w hk (h _ fun _ _ h => h))
theorem V2_vc {ds : List (Option Nat)} {K : Env → World → Prop} : ∀ (ops : List Oper) (l : Env) (w : World), V2 P N ds K ops l w → VC P N ds K ops l w
 | [], l, w, h => h
 | o :: rest, l, w, h => by
  rw [V2] at h
  unfold out at h
  have ih : ∀ l w, V2 P N ds K rest l w → VC P N ds K rest l w := V2_vc rest
  show gd l ds o.guard _
  cases hg : outG l ds o.guard with
  | none => simp only [hg] at h
  | some r =>
   refine gd_out hg ?_
   simp only [hg] at h
   cases hd : dstOk N o.dst with
   | false => cases r <;> simp only [hd] at h
   | true =>
    refine ⟨dstOk_lt hd, ?_⟩
    cases r with
    | false => simp only [hd] at h; exact ih _ _ h
    | true =>
     simp only [hd] at h
     show vcOp P l o.op o.type w (fun v w' => VC P N ds K rest (stp o.dst v l) w') (fun v w' => VC P N ds K rest (stp o.dst v l) w')
     unfold vcOp
     cases hp : pureOp P l o.op with
     | some x =>
      obtain ⟨c, v⟩ := x
      simp only [outOp, hp] at h
      exact ⟨h.1, ih _ _ h.2⟩
     | none =>
      simp only [outOp, hp] at h
      cases ho : imm P l o.op w with
      | go c v w' =>
       simp only [ho] at h
       exact effOp_left (imm_eff (K := fun _ _ => False) ho) (fun u x hu => by obtain ⟨h1, h2⟩ := hu; subst h1; subst h2; exact ih _ _ h.2) (fun _ _ h => h.elim)
      | skip =>
       exfalso
       unfold imm at ho
       repeat' split at ho
       all_goals cases ho
      | eff => simp only [ho] at h; exact effOp_left h (fun v w' => ih _ _) (fun v w' => ih _ _)
      | bad => simp only [ho] at h
theorem W_drw {id : Nat} {ops : List Oper} (keys : List Nat) (n : Nat) (hm : P.follows .mixedOrders = true) (hkeys : keysE l = keys) (hok : regOk keys ops n = true)
  (h : ∀ K : Env → World → Prop, (∀ l' w', Q .normal l' w' → K l' w') → Vq P N (dsts ops) w (fun l' => ∀ w', Below w.heap.size w w' → V2s P N (dsts ops) K (ops.drop n) l' w') (ops.take n) l) : W P N (.region id ops.toArray true) Q l w :=
 W_drawn keys n hm hkeys hok (fun K hK => by
  have h1 := Vq_vc _ _ (h K hK)
  have mono : ∀ (ops' : List Oper) (l : Env) (K1 K2 : Env → Prop), (∀ l, K1 l → K2 l) → VCq P N (dsts ops) w K1 ops' l → VCq P N (dsts ops) w K2 ops' l := by
   intro ops'
   induction ops' with
   | nil => intro l K1 K2 hK h; exact hK _ h
   | cons o rest ih =>
    intro l K1 K2 hK h
    obtain ⟨b, hb, hd, h⟩ := gd_val h
    have : gd l (dsts ops) o.guard (· = b) := hb
    have gen : ∀ (k : Bool → Prop), k b → gd l (dsts ops) o.guard k := by
     intro k hk
     unfold gd at hb ⊢
     split at hb
     ·subst hb; exact hk
     ·split at hb
      ·split at hb
       ·subst hb; exact hk
       ·subst hb; exact hk
       ·exact hb.elim
      ·exact hb.elim
    refine gen _ ⟨hd, ?_⟩
    cases b with
    | false => exact ih _ _ _ hK h
    | true =>
     simp only [doOr] at h ⊢
     unfold vcQ at h ⊢
     cases hp : pureOp P l o.op with
     | some x => obtain ⟨c, v⟩ := x; simp only [hp] at h ⊢; exact ⟨h.1, ih _ _ _ hK h.2⟩
     | none => simp only [hp] at h ⊢; exact effQ_left h (fun v => ih _ _ _ hK) (fun v => ih _ _ _ hK)
  exact mono _ _ _ _ (fun l' hl w' hw' => V2_vc _ _ _ (hl w' hw')) h1)
end
theorem nr.{u} {α : Sort u} {a b : α} (h : a = b) : a = b := h
theorem lk_nil (t : Nat) : lk [] t = none := nr rfl
theorem lk_cons (k : Nat) (v : Value) (r : Env) (t : Nat) : lk ((k, v) :: r) t = if k = t then some v else lk r t := nr rfl
theorem ev_tmp (l : Env) (t : Nat) : ev l (.tmp t) = lk l t := nr rfl
theorem ev_const (l : Env) (v : Value) : ev l (.const v) = some v := nr rfl
theorem ev_global (l : Env) (g : Nat) : ev l (.global g) = some (.pointer (some ⟨g, 0, none⟩)) := nr rfl
theorem ev_func (l : Env) (f : FuncId) : ev l (.func f) = some (.func (.func f) #[] #[]) := nr rfl
theorem evs_nil (l : Env) : evs l [] = some [] := nr rfl
theorem evs_cons (l : Env) (x : Operand) (r : List Operand) : evs l (x :: r) = match ev l x with | some v => (match evs l r with | some vs => some (v :: vs) | none => none) | none => none := nr rfl
theorem stp_some (k : Nat) (v : Value) (l : Env) : stp (some k) v l = (k, v) :: l := nr rfl
theorem stp_none (v : Value) (l : Env) : stp none v l = l := nr rfl
theorem dsts_nil  : dsts [] = [] := nr rfl
theorem dsts_cons (o : Oper) (r : List Oper) : dsts (o :: r) = o.dst :: dsts r := nr rfl
theorem argsE_nil (k : Nat) : argsE k [] = [] := nr rfl
theorem argsE_cons (k : Nat) (v : Value) (r : List Value) : argsE k (v :: r) = (k, v) :: argsE (k + 1) r := nr rfl
theorem intBin_add (k : IntKind) (x : Int) (k' : IntKind) (y : Int) : intBin .add k x k' y = some (k = k', .int k (k.wrap (x + y))) := nr rfl
theorem intBin_sub (k : IntKind) (x : Int) (k' : IntKind) (y : Int) : intBin .sub k x k' y = some (k = k', .int k (k.wrap (x - y))) := nr rfl
theorem intBin_mul (k : IntKind) (x : Int) (k' : IntKind) (y : Int) : intBin .mul k x k' y = some (k = k', .int k (k.wrap (x * y))) := nr rfl
theorem intBin_quo (k : IntKind) (x : Int) (k' : IntKind) (y : Int) : intBin .quo k x k' y = some (k = k' ∧ y ≠ 0, .int k (k.wrap (x.tdiv y))) := nr rfl
theorem intBin_rem (k : IntKind) (x : Int) (k' : IntKind) (y : Int) : intBin .rem k x k' y = some (k = k' ∧ y ≠ 0, .int k (x.tmod y)) := nr rfl
theorem intBin_and (k : IntKind) (x : Int) (k' : IntKind) (y : Int) : intBin .and k x k' y = some (k = k', .int k (bits .and k x y)) := nr rfl
theorem intBin_or (k : IntKind) (x : Int) (k' : IntKind) (y : Int) : intBin .or k x k' y = some (k = k', .int k (bits .or k x y)) := nr rfl
theorem intBin_xor (k : IntKind) (x : Int) (k' : IntKind) (y : Int) : intBin .xor k x k' y = some (k = k', .int k (bits .xor k x y)) := nr rfl
theorem intBin_andNot (k : IntKind) (x : Int) (k' : IntKind) (y : Int) : intBin .andNot k x k' y = some (k = k', .int k (bits .andNot k x y)) := nr rfl
theorem intBin_eql (k : IntKind) (x : Int) (k' : IntKind) (y : Int) : intBin .eql k x k' y = some (k = k', .bool (decide (x = y))) := nr rfl
theorem intBin_neq (k : IntKind) (x : Int) (k' : IntKind) (y : Int) : intBin .neq k x k' y = some (k = k', .bool (!decide (x = y))) := nr rfl
theorem intBin_lss (k : IntKind) (x : Int) (k' : IntKind) (y : Int) : intBin .lss k x k' y = some (k = k', .bool (decide (x < y))) := nr rfl
theorem intBin_leq (k : IntKind) (x : Int) (k' : IntKind) (y : Int) : intBin .leq k x k' y = some (k = k', .bool (decide (x ≤ y))) := nr rfl
theorem intBin_gtr (k : IntKind) (x : Int) (k' : IntKind) (y : Int) : intBin .gtr k x k' y = some (k = k', .bool (decide (y < x))) := nr rfl
theorem intBin_geq (k : IntKind) (x : Int) (k' : IntKind) (y : Int) : intBin .geq k x k' y = some (k = k', .bool (decide (y ≤ x))) := nr rfl
theorem intBin_shl (k : IntKind) (x : Int) (k' : IntKind) (y : Int) : intBin .shl k x k' y = some (0 ≤ y, .int k (k.wrap (x * 2 ^ (min y.toNat k.bits)))) := nr rfl
theorem intBin_shr (k : IntKind) (x : Int) (k' : IntKind) (y : Int) : intBin .shr k x k' y = some (0 ≤ y, .int k (x.fdiv (2 ^ (min y.toNat k.bits)))) := nr rfl
theorem strBin_add (x y : ByteArray) : strBin .add x y = some (x.size + y.size ≤ 9223372036854775807, .string (x ++ y)) := nr rfl
theorem strBin_eql (x y : ByteArray) : strBin .eql x y = some (True, .bool (decide (x = y))) := nr rfl
theorem strBin_neq (x y : ByteArray) : strBin .neq x y = some (True, .bool (!decide (x = y))) := nr rfl
theorem strBin_lss (x y : ByteArray) : strBin .lss x y = some (True, .bool (Op.bytesLess x.toList y.toList)) := nr rfl
theorem strBin_leq (x y : ByteArray) : strBin .leq x y = some (True, .bool (Op.bytesLess x.toList y.toList || decide (x = y))) := nr rfl
theorem strBin_gtr (x y : ByteArray) : strBin .gtr x y = some (True, .bool (!(Op.bytesLess x.toList y.toList || decide (x = y)))) := nr rfl
theorem strBin_geq (x y : ByteArray) : strBin .geq x y = some (True, .bool (!Op.bytesLess x.toList y.toList)) := nr rfl
theorem pureBin_int (P : Program) (b : BinOp) (t : TypeId) (k : IntKind) (x : Int) (k' : IntKind) (y : Int) : pureBin P b t (.int k x) (.int k' y) = intBin b k x k' y := nr rfl
theorem pureBin_str (P : Program) (b : BinOp) (t : TypeId) (x y : ByteArray) : pureBin P b t (.string x) (.string y) = strBin b x y := nr rfl
theorem pureBin_beq (P : Program) (t : TypeId) (x y : Bool) : pureBin P .eql t (.bool x) (.bool y) = some (uBool P t = true, .bool (x == y)) := nr rfl
theorem pureBin_bne (P : Program) (t : TypeId) (x y : Bool) : pureBin P .neq t (.bool x) (.bool y) = some (uBool P t = true, .bool (!(x == y))) := nr rfl
theorem pureBin_peq (P : Program) (t : TypeId) (p : Option Addr) : pureBin P .eql t (.pointer p) (.pointer none) = some (uPtr P t = true, .bool p.isNone) := nr rfl
theorem pureBin_pne (P : Program) (t : TypeId) (p : Option Addr) : pureBin P .neq t (.pointer p) (.pointer none) = some (uPtr P t = true, .bool (!p.isNone)) := nr rfl
theorem pureBin_seq (P : Program) (t : TypeId) (a : Option Addr) (n c : Nat) : pureBin P .eql t (.slice a n c) (.slice none 0 0) = some ((uSlice P t).isSome = true, .bool a.isNone) := nr rfl
theorem pureBin_sne (P : Program) (t : TypeId) (a : Option Addr) (n c : Nat) : pureBin P .neq t (.slice a n c) (.slice none 0 0) = some ((uSlice P t).isSome = true, .bool (!a.isNone)) := nr rfl
theorem pureBin_agg (P : Program) (b : BinOp) (t : TypeId) (x y : Array Value) : pureBin P b t (.agg x) (.agg y) = none := nr rfl
theorem effEq_eql (P : Program) (t : TypeId) (xs ys : Array Value) (K : Bool → Prop) : effEq P .eql t (.agg xs) (.agg ys) K = ∃ r, EqR P t xs ys r ∧ K r := nr rfl
theorem effEq_neq (P : Program) (t : TypeId) (xs ys : Array Value) (K : Bool → Prop) : effEq P .neq t (.agg xs) (.agg ys) K = ∃ r, EqR P t xs ys r ∧ K (!r) := nr rfl
theorem pureUn_not (b : Bool) : pureUn .not (.bool b) = some (True, .bool (!b)) := nr rfl
theorem pureUn_neg (k : IntKind) (n : Int) : pureUn .neg (.int k n) = some (True, .int k (k.wrap (0 - n))) := nr rfl
theorem pureUn_xor (k : IntKind) (n : Int) : pureUn .xor (.int k n) = some (True, .int k (bits .xor k (if k.signed then -1 else k.max) n)) := nr rfl
theorem pureConv_int (P : Program) (s d : TypeId) (k : IntKind) (n : Int) : pureConv P s d (.int k n) = match uInt P d with | some k => some ((P.underlying s).isSome = true, .int k (k.wrap n)) | none => none := nr rfl
theorem pureConv_str (P : Program) (s d : TypeId) (x : ByteArray) : pureConv P s d (.string x) = match uStr P d with | true => some ((P.underlying s).isSome = true ∧ uStr P d = true, .string x) | false => none := nr rfl
theorem pureField_eq (P : Program) (t f : Nat) (cs : Array Value) : pureField P t f (.agg cs) = match fPart P t f with | some (off, none) => (match cs[off]? with | some v => some (True, v) | none => none) | some (off, some n) => some (True, .agg (cs.extract off (off + n))) | none => none := nr (by unfold pureField; cases h : fPart P t f with | none => rfl | some x => obtain ⟨off, k⟩ := x; cases k <;> rfl)
theorem pureIndexAddr_s (P : Program) (t : TypeId) (a : Addr) (len c : Nat) (k : IntKind) (n : Int) : pureIndexAddr P t (.slice (some a) len c) (.int k n) = match uSlice P t with | some (_, size) => some (0 ≤ n ∧ n < len, .pointer (some (a.add (n.toNat * size)))) | none => none := nr rfl
theorem pureIndexAddr_p (P : Program) (t : TypeId) (a : Addr) (k : IntKind) (n : Int) : pureIndexAddr P t (.pointer (some a)) (.int k n) = match uArr P t with | some (len, size) => some (0 ≤ n ∧ n < len, .pointer (some (a.add (n.toNat * size)))) | none => none := nr rfl
theorem pureIndex_s (P : Program) (t : TypeId) (s : ByteArray) (k : IntKind) (n : Int) : pureIndex P t (.string s) (.int k n) = some (uStr P t = true ∧ 0 ≤ n ∧ n < s.size, .int .u8 (byteAt s n.toNat)) := nr rfl
theorem oInt_none (l : Env) (d : Int) : oInt l none d = some d := nr rfl
theorem oInt_some (l : Env) (x : Operand) (d : Int) : oInt l (some x) d = match ev l x with | some (.int _ n) => some n | _ => none := nr rfl
theorem pureSlice_str (P : Program) (t : TypeId) (l : Env) (s : ByteArray) (lo hi : Option Operand) : pureSlice P t l (.string s) lo hi = match oInt l lo 0, oInt l hi s.size with | some a, some b => some (uStr P t = true ∧ 0 ≤ a ∧ a ≤ b ∧ b ≤ s.size, .string (s.extract a.toNat b.toNat)) | _, _ => none := nr rfl
theorem pureSlice_sl (P : Program) (t : TypeId) (l : Env) (p : Option Addr) (len c : Nat) (lo hi : Option Operand) : pureSlice P t l (.slice p len c) lo hi = match oInt l lo 0, oInt l hi len, uSlice P t with | some a, some b, some (_, size) => some (0 ≤ a ∧ a ≤ b ∧ b ≤ c, .slice (subAddr p c a.toNat size) (b.toNat - a.toNat) (c - a.toNat)) | _, _, _ => none := nr rfl
theorem pureB_len (P : Program) (ats : Array TypeId) (a : Option Addr) (n c : Nat) : pureBuiltin P .len ats [.slice a n c] = some ((uSlice P (ats.getD 0 0)).isSome = true ∧ ats.size = 1, .int .i64 n) := nr rfl
theorem pureB_lens (P : Program) (ats : Array TypeId) (s : ByteArray) : pureBuiltin P .len ats [.string s] = some (uStr P (ats.getD 0 0) = true ∧ ats.size = 1, .int .i64 s.size) := nr rfl
theorem pureB_cap (P : Program) (ats : Array TypeId) (a : Option Addr) (n c : Nat) : pureBuiltin P .cap ats [.slice a n c] = some ((uSlice P (ats.getD 0 0)).isSome = true ∧ ats.size = 1, .int .i64 c) := nr rfl
theorem pureB_max (P : Program) (ats : Array TypeId) (k k' : IntKind) (x y : Int) : pureBuiltin P .max ats [.int k x, .int k' y] = some (True, .int k (if x < y then y else x)) := nr rfl
theorem pureB_min (P : Program) (ats : Array TypeId) (k k' : IntKind) (x y : Int) : pureBuiltin P .min ats [.int k x, .int k' y] = some (True, .int k (if y < x then y else x)) := nr rfl
theorem pureB_app (P : Program) (ats : Array TypeId) (vs : List Value) : pureBuiltin P .append ats vs = none := nr rfl
theorem pureB_copy (P : Program) (ats : Array TypeId) (vs : List Value) : pureBuiltin P .copy ats vs = none := nr rfl
theorem po_move (P : Program) (l : Env) (x : Operand) : pureOp P l (.move x) = match ev l x with | some v => some (True, v) | none => none := nr rfl
theorem po_assign (P : Program) (l : Env) (x : Operand) : pureOp P l (.assign x) = match ev l x with | some v => some (True, v) | none => none := nr rfl
theorem po_pick (P : Program) (l : Env) (c a b : Operand) : pureOp P l (.pick c a b) = match ev l c with | some (.bool t) => (match ev l a with | some u => (match ev l b with | some v => some (True, bif t then u else v) | none => none) | none => none) | _ => none := nr rfl
theorem po_bin (P : Program) (l : Env) (b : BinOp) (t : TypeId) (x y : Operand) (u : TypeId) : pureOp P l (.binOp b t x y u) = match ev l x with | some X => (match ev l y with | some Y => pureBin P b t X Y | none => none) | none => none := nr rfl
theorem po_un (P : Program) (l : Env) (u : UnOp) (t : TypeId) (x : Operand) : pureOp P l (.unOp u t x) = match ev l x with | some X => pureUn u X | none => none := nr rfl
theorem po_conv (P : Program) (l : Env) (s d : TypeId) (x : Operand) : pureOp P l (.convert s d x) = match ev l x with | some X => pureConv P s d X | none => none := nr rfl
theorem po_field (P : Program) (l : Env) (t : TypeId) (x : Operand) (f : Nat) : pureOp P l (.field t x f) = match ev l x with | some X => pureField P t f X | none => none := nr rfl
theorem po_extract (P : Program) (l : Env) (x : Operand) (i : Nat) : pureOp P l (.extract x i) = match ev l x with | some (.tuple vs) => (match vs[i]? with | some v => some (True, v) | none => none) | _ => none := nr rfl
theorem po_faddr (P : Program) (l : Env) (t : TypeId) (x : Operand) (f : Nat) : pureOp P l (.fieldAddr t x f) = match ev l x with | some (.pointer (some a)) => (match fOff P t f with | some off => some (True, .pointer (some (a.add off))) | none => none) | _ => none := nr rfl
theorem po_iaddr (P : Program) (l : Env) (t : TypeId) (x i : Operand) : pureOp P l (.indexAddr t x i) = match ev l x with | some X => (match ev l i with | some I => pureIndexAddr P t X I | none => none) | none => none := nr rfl
theorem po_index (P : Program) (l : Env) (t : TypeId) (x i : Operand) : pureOp P l (.index t x i) = match ev l x with | some X => (match ev l i with | some I => pureIndex P t X I | none => none) | none => none := nr rfl
theorem po_slice (P : Program) (l : Env) (t : TypeId) (x : Operand) (lo hi : Option Operand) : pureOp P l (.slice t x lo hi none) = match ev l x with | some X => pureSlice P t l X lo hi | none => none := nr rfl
theorem po_nil (P : Program) (l : Env) (x : Operand) : pureOp P l (.nilCheck x) = match ev l x with | some (.pointer (some a)) => some (True, .pointer (some a)) | _ => none := nr rfl
theorem po_builtin (P : Program) (l : Env) (b : Builtin) (args : Array Operand) (ats : Array TypeId) : pureOp P l (.call ⟨.builtin b, args, ats⟩) = match evs l args.toList with | some vs => pureBuiltin P b ats vs | none => none := nr rfl
theorem po_call (P : Program) (l : Env) (f : Operand) (args : Array Operand) (ats : Array TypeId) : pureOp P l (.call ⟨.value f, args, ats⟩) = none := nr rfl
theorem po_load (P : Program) (l : Env) (t : TypeId) (x : Operand) : pureOp P l (.load t x) = none := nr rfl
theorem po_store (P : Program) (l : Env) (t : TypeId) (x y : Operand) : pureOp P l (.store t x y) = none := nr rfl
theorem po_alloc (P : Program) (l : Env) (t : TypeId) : pureOp P l (.alloc t) = none := nr rfl
theorem po_box (P : Program) (l : Env) (t : TypeId) (x : Operand) : pureOp P l (.box t x) = none := nr rfl
theorem po_build (P : Program) (l : Env) (t : TypeId) (ps : Array (Nat × Operand)) : pureOp P l (.build t ps) = none := nr rfl
theorem po_buildS (P : Program) (l : Env) (t : TypeId) (n : Nat) (ps : Array (Nat × Operand)) : pureOp P l (.buildSlice t n ps) = none := nr rfl
theorem po_makeS (P : Program) (l : Env) (t : TypeId) (x y : Operand) : pureOp P l (.makeSlice t x y) = none := nr rfl
theorem eo_load (P : Program) (l : Env) (ty : TypeId) (w : World) (K KL : Value → World → Prop) (t : TypeId) (x : Operand) : effOp P l (.load t x) ty w K KL = match ev l x with | some (.pointer (some a)) => (match kindT P t with | some none => (match w.cell? a with | some v => K v w | none => False) | some (some n) => ∃ cs, CellsAt w a n cs ∧ KL (.agg cs) w | none => False) | _ => False := nr rfl
theorem eo_store (P : Program) (l : Env) (ty : TypeId) (w : World) (K KL : Value → World → Prop) (t : TypeId) (x y : Operand) : effOp P l (.store t x y) ty w K KL = match ev l x with | some (.pointer (some a)) => (match ev l y with | some v => ∃ w', (storeVar t a v).run P w = .ok () w' ∧ KL undef w' | none => False) | _ => False := nr rfl
theorem eo_build (P : Program) (l : Env) (ty : TypeId) (w : World) (K KL : Value → World → Prop) (t : TypeId) (ps : Array (Nat × Operand)) : effOp P l (.build t ps) ty w K KL = match partsE l ps.toList with | some ps => ∃ v, (∀ w, (Instr.build t ps.toArray).run P w = .ok v w) ∧ KL v w | none => False := nr rfl
theorem eo_buildS (P : Program) (l : Env) (ty : TypeId) (w : World) (K KL : Value → World → Prop) (t : TypeId) (n : Nat) (ps : Array (Nat × Operand)) : effOp P l (.buildSlice t n ps) ty w K KL = match partsE l ps.toList with | some ps => ∃ v w', (Instr.buildSlice t n ps.toArray).run P w = .ok v w' ∧ KL v w' | none => False := nr rfl
theorem eo_makeS (P : Program) (l : Env) (ty : TypeId) (w : World) (K KL : Value → World → Prop) (t : TypeId) (x y : Operand) : effOp P l (.makeSlice t x y) ty w K KL = match ev l x with | some X => (match ev l y with | some Y => ∃ v w', (Instr.makeSlice t X Y).run P w = .ok v w' ∧ KL v w' | none => False) | none => False := nr rfl
theorem eo_app (P : Program) (l : Env) (ty : TypeId) (w : World) (K KL : Value → World → Prop) (args : Array Operand) (ats : Array TypeId) : effOp P l (.call ⟨.builtin .append, args, ats⟩) ty w K KL = match evs l args.toList with | some vs => ∃ v w', (Builtin.append_ ats ty vs.toArray).run P w = .ok v w' ∧ KL v w' | none => False := nr rfl
theorem eo_call (P : Program) (l : Env) (ty : TypeId) (w : World) (K KL : Value → World → Prop) (f : FuncId) (args : Array Operand) (ats : Array TypeId) : effOp P l (.call ⟨.value (.func f), args, ats⟩) ty w K KL = match evs l args.toList with | some vs => callable P f = true ∧ Calls P f vs.toArray w (Ret fun v w' => KL v w') | none => False := nr rfl
theorem eo_bin (P : Program) (l : Env) (ty : TypeId) (w : World) (K KL : Value → World → Prop) (b : BinOp) (t : TypeId) (x y : Operand) (u : TypeId) : effOp P l (.binOp b t x y u) ty w K KL = match ev l x with | some X => (match ev l y with | some Y => effEq P b t X Y fun r => KL (.bool r) w | none => False) | none => False := nr rfl
theorem eq_load (P : Program) (l : Env) (w : World) (K KL : Value → Prop) (t : TypeId) (x : Operand) : effQ P l (.load t x) w K KL = match ev l x with | some (.pointer (some a)) => (match kindT P t with | some none => (match w.cell? a with | some v => K v | none => False) | some (some n) => ∃ cs, CellsAt w a n cs ∧ KL (.agg cs) | none => False) | _ => False := nr rfl
theorem eq_build (P : Program) (l : Env) (w : World) (K KL : Value → Prop) (t : TypeId) (ps : Array (Nat × Operand)) : effQ P l (.build t ps) w K KL = match partsE l ps.toList with | some ps => ∃ v, (∀ w, (Instr.build t ps.toArray).run P w = .ok v w) ∧ KL v | none => False := nr rfl
theorem eq_call (P : Program) (l : Env) (w : World) (K KL : Value → Prop) (f : FuncId) (args : Array Operand) (ats : Array TypeId) : effQ P l (.call ⟨.value (.func f), args, ats⟩) w K KL = match evs l args.toList with | some vs => callable P f = true ∧ ∃ v, (∀ w', Below w.heap.size w w' → Calls P f vs.toArray w' (Ret fun u w'' => u = v ∧ Below w.heap.size w w'')) ∧ KL v | none => False := nr rfl
theorem eq_bin (P : Program) (l : Env) (w : World) (K KL : Value → Prop) (b : BinOp) (t : TypeId) (x y : Operand) (u : TypeId) : effQ P l (.binOp b t x y u) w K KL = match ev l x with | some X => (match ev l y with | some Y => effEq P b t X Y fun r => KL (.bool r) | none => False) | none => False := nr rfl
theorem parts_nil (l : Env) : partsE l [] = some [] := nr rfl
theorem parts_cons (l : Env) (i : Nat) (x : Operand) (r : List (Nat × Operand)) : partsE l ((i, x) :: r) = match ev l x with | some v => (match partsE l r with | some vs => some ((i, v) :: vs) | none => none) | none => none := nr rfl
theorem outG_none (l : Env) (ds : List (Option Nat)) : outG l ds none = some true := nr rfl
theorem outG_some (l : Env) (ds : List (Option Nat)) (j : Nat) (want : Bool) : outG l ds (some (j, want)) = match ds[j]? with | some (some d) => (match lk l d with | some (.bool b) => some (b == want) | some _ => some false | none => none) | _ => none := nr rfl
theorem dstOk_none (N : Nat) : dstOk N none = true := nr rfl
theorem dstOk_some (N k : Nat) : dstOk N (some k) = decide (k < N) := nr rfl
theorem out_eq (P : Program) (N : Nat) (ds : List (Option Nat)) (l : Env) (o : Oper) (w : World) : out P N ds l o w = match outG l ds o.guard with | some true => (match dstOk N o.dst with | true => outOp P l o.op w | false => .bad) | some false => (match dstOk N o.dst with | true => .skip | false => .bad) | none => .bad := nr rfl
theorem outR_eq (P : Program) (N : Nat) (ds : List (Option Nat)) (l : Env) (o : Oper) (w : World) : outR P N ds l o w = match outG l ds o.guard with | some true => (match dstOk N o.dst with | true => outQ P l o.op w | false => .bad) | some false => (match dstOk N o.dst with | true => .skip | false => .bad) | none => .bad := nr rfl
theorem outOp_eq (P : Program) (l : Env) (o : Op) (w : World) : outOp P l o w = match pureOp P l o with | some (c, v) => .go c v w | none => imm P l o w := nr rfl
theorem outQ_eq (P : Program) (l : Env) (o : Op) (w : World) : outQ P l o w = match pureOp P l o with | some (c, v) => .go c v w | none => immQ P l o w := nr rfl
theorem imm_load (P : Program) (l : Env) (w : World) (t : TypeId) (x : Operand) : imm P l (.load t x) w = match ev l x with | some (.pointer (some a)) => (match kindT P t with | some none => (match w.cell? a with | some v => .go True v w | none => .bad) | some (some _) => .eff | none => .bad) | _ => .bad := nr rfl
theorem immQ_load (P : Program) (l : Env) (w : World) (t : TypeId) (x : Operand) : immQ P l (.load t x) w = match ev l x with | some (.pointer (some a)) => (match kindT P t with | some none => (match w.cell? a with | some v => .go True v w | none => .bad) | some (some _) => .eff | none => .bad) | _ => .bad := nr rfl
theorem imm_alloc (P : Program) (l : Env) (w : World) (t : TypeId) : imm P l (.alloc t) w = match zeroT P t with | some z => .go True (.pointer (some ⟨w.heap.size, 0, none⟩)) (w.alloc (.cells z t)) | none => .bad := nr rfl
theorem imm_box (P : Program) (l : Env) (w : World) (t : TypeId) (x : Operand) : imm P l (.box t x) w = match ev l x with | some v => .go True (.pointer (some ⟨w.heap.size, 0, none⟩)) (w.alloc (.cells v.cells t)) | none => .bad := nr rfl
theorem imm_store (P : Program) (l : Env) (w : World) (t : TypeId) (x y : Operand) : imm P l (.store t x y) w = .eff := nr rfl
theorem imm_build (P : Program) (l : Env) (w : World) (t : TypeId) (ps : Array (Nat × Operand)) : imm P l (.build t ps) w = .eff := nr rfl
theorem imm_call (P : Program) (l : Env) (w : World) (c : Call) : imm P l (.call c) w = .eff := nr rfl
theorem imm_bin (P : Program) (l : Env) (w : World) (b : BinOp) (t : TypeId) (x y : Operand) (u : TypeId) : imm P l (.binOp b t x y u) w = .eff := nr rfl
theorem immQ_build (P : Program) (l : Env) (w : World) (t : TypeId) (ps : Array (Nat × Operand)) : immQ P l (.build t ps) w = .eff := nr rfl
theorem immQ_call (P : Program) (l : Env) (w : World) (c : Call) : immQ P l (.call c) w = .eff := nr rfl
theorem immQ_bin (P : Program) (l : Env) (w : World) (b : BinOp) (t : TypeId) (x y : Operand) (u : TypeId) : immQ P l (.binOp b t x y u) w = .eff := nr rfl
theorem imm_buildS (P : Program) (l : Env) (w : World) (t : TypeId) (n : Nat) (ps : Array (Nat × Operand)) : imm P l (.buildSlice t n ps) w = .eff := nr rfl
theorem imm_makeS (P : Program) (l : Env) (w : World) (t : TypeId) (x y : Operand) : imm P l (.makeSlice t x y) w = .eff := nr rfl
theorem v2_nil (P : Program) (N : Nat) (ds : List (Option Nat)) (K : Env → World → Prop) (l : Env) (w : World) : V2 P N ds K [] l w = K l w := nr rfl
theorem v2_cons (P : Program) (N : Nat) (ds : List (Option Nat)) (K : Env → World → Prop) (o : Oper) (rest : List Oper) (l : Env) (w : World) : V2 P N ds K (o :: rest) l w = match out P N ds l o w with | .go c v w' => c ∧ V2 P N ds K rest (stp o.dst v l) w' | .skip => V2 P N ds K rest (stp o.dst undef l) w | .eff => effOp P l o.op o.type w (fun v w' => V2s P N ds K rest (stp o.dst v l) w') (fun v w' => V2s P N ds K rest (stp o.dst v l) w') | .bad => False := nr rfl
theorem vq_nil (P : Program) (N : Nat) (ds : List (Option Nat)) (w : World) (K : Env → Prop) (l : Env) : Vq P N ds w K [] l = K l := nr rfl
theorem vq_cons (P : Program) (N : Nat) (ds : List (Option Nat)) (w : World) (K : Env → Prop) (o : Oper) (rest : List Oper) (l : Env) : Vq P N ds w K (o :: rest) l = match outR P N ds l o w with | .go c v _ => c ∧ Vq P N ds w K rest (stp o.dst v l) | .skip => Vq P N ds w K rest (stp o.dst undef l) | .eff => effQ P l o.op w (fun v => Vqs P N ds w K rest (stp o.dst v l)) (fun v => Vqs P N ds w K rest (stp o.dst v l)) | .bad => False := nr rfl
theorem undef_eq  : undef = .tuple #[] := nr rfl
end Go.Eng
