/-
  Plain: a disk: items by path, limits by volume; what its calls make of it.
-/
import Derived.Test.YtdfjeokjmigkaaaGreatTrC
import Derived.Test.YtdfjeokjmigkaaaGreatMq
set_option linter.unusedSimpArgs false
set_option linter.unusedVariables false
namespace Go.Dk
open Go Go.Tr Go.Eng
structure Itm where
 dir : Bool
 data : ByteArray
 kept : ByteArray
 loose : Bool
 anew : Bool
 stamp : Int
def Itm.val (x : Itm) : Value := .agg #[.bool x.dir, .string x.data, .string x.kept, .bool x.loose, .bool x.anew, .int .i64 x.stamp]
def Itm.hv (x : Itm) : HV := .agg [.v (.bool x.dir), .v (.string x.data), .v (.string x.kept), .v (.bool x.loose), .v (.bool x.anew), .v (.int .i64 x.stamp)]
def itm0 : Itm := ⟨false, ByteArray.empty, ByteArray.empty, false, false, 0⟩
section
variable {α : Type}
def lookD : List (ByteArray × α) → ByteArray → Option α
 | [], _ => none
 | (t, x) :: r, s => if t = s then some x else lookD r s
def bltD (a b : ByteArray) : Bool := Op.bytesLess a.data.toList b.data.toList
theorem bltD_eq (a b : ByteArray) : bltD a b = blt a b := by rw [blt, bltD, Lib.toList_data, Lib.toList_data]
def put (s : ByteArray) (x : α) : List (ByteArray × α) → List (ByteArray × α)
 | [] => [(s, x)]
 | (t, y) :: r => if t = s then (s, x) :: r else if bltD s t then (s, x) :: (t, y) :: r else (t, y) :: put s x r
theorem look_put (s : ByteArray) (x : α) (u : ByteArray) : ∀ (L : List (ByteArray × α)), lookD (put s x L) u = if u = s then some x else lookD L u
 | [] => by
  simp only [put, lookD]
  by_cases e : u = s
  ·subst e; simp
  ·rw [if_neg (fun h => e h.symm), if_neg e]
 | (t, y) :: r => by
  simp only [put]
  by_cases h1 : t = s
  ·subst h1
   rw [if_pos rfl]
   simp only [lookD]
   by_cases e : t = u
   ·subst e; simp
   ·rw [if_neg e, if_neg (fun h => e h.symm), if_neg e]
  ·rw [if_neg h1]
   split
   ·simp only [lookD]
    by_cases e : s = u
    ·subst e; simp
    ·rw [if_neg e, if_neg (show ¬ u = s from fun h => e h.symm)]
   ·simp only [lookD]
    rw [look_put s x u r]
    by_cases e : t = u
    ·subst e; simp [h1]
    ·rw [if_neg e, if_neg e]
def tab (f : α → Value) (L : List (ByteArray × α)) : MTab := fun s => (lookD L (mkB s)).map f
theorem tab_at (f : α → Value) (L : List (ByteArray × α)) (s : ByteArray) : tab f L s.data.toList = (lookD L s).map f := by rw [tab, mkB_data]
theorem mkB_eq {q : List UInt8} {s : ByteArray} : mkB q = s ↔ q = s.data.toList := by
 constructor
 ·rintro rfl; rfl
 ·rintro rfl; exact mkB_data s
theorem tab_put (f : α → Value) (L : List (ByteArray × α)) (s : ByteArray) (x : α) : (tab f L).put s.data.toList (f x) = tab f (put s x L) := by
 funext q
 simp only [MTab.put, tab, look_put]
 by_cases e : q = s.data.toList
 ·rw [if_pos e, if_pos (mkB_eq.2 e)]; rfl
 ·rw [if_neg e, if_neg (fun h => e (mkB_eq.1 h))]
end
def numV (n : Int) : Value := .int .i64 n
theorem num_look (L : List (ByteArray × Int)) (s : ByteArray) : hvOf ((tab numV L s.data.toList).getD (.int .i64 0)) = .v (.int .i64 ((lookD L s).getD 0)) := by
 rw [tab_at]
 cases lookD L s <;> rfl
structure Dk where
 L : List (ByteArray × Itm)
 R : List (ByteArray × Int)
 steps : Int
 stamps : Int
 armed : Int
 down : Bool
 n : Nat
 m : Nat
def Dk.new : Dk := ⟨[], [], 0, 0, -1, false, 0, 0⟩
def Dk.cells (d : Dk) (r1 r2 : Nat) : List HV := [.v (.map (some r1)), .v (.map (some r2)), .v (.int .i64 d.steps), .v (.int .i64 d.stamps), .v (.int .i64 d.armed), .v (.bool d.down)]
def Dk.maps (d : Dk) (k r1 r2 : Nat) : MS := [.map r1 k d.n (tab Itm.val d.L), .map r2 k d.m (tab numV d.R)]
def deep (p : ByteArray) : Int := if p = { data := #[] } then 0 else (p.data.toList.count 47 : Nat) + 1
def may (d : Dk) (p : ByteArray) (names : Int) : Int := if d.down then 14 else if pOk p 6 = false ∨ deep p ≤ names then 10 else 0
def stepD (d : Dk) : Int × Dk := if d.armed = 0 then (14, { d with down := true, armed := -1 }) else (0, { d with armed := if 0 < d.armed then d.armed - 1 else d.armed, steps := d.steps + 1 })
def item (d : Dk) (p : ByteArray) : Itm := (lookD d.L p).getD itm0
def has (d : Dk) (p : ByteArray) : Bool := (lookD d.L p).isSome
def under (d : Dk) (p : ByteArray) : Bool := decide (deep p = 1) || (item d (par p)).dir
def setD (d : Dk) (p : ByteArray) (x : Itm) : Dk := { d with stamps := d.stamps + 1, L := put p { x with stamp := d.stamps + 1 } d.L, n := d.n + 1 }
def volI : List UInt8 → Nat
 | [] => 0
 | c :: r => if c = 47 then 0 else volI r + 1
def vol (p : ByteArray) : ByteArray := p.extract 0 (volI p.data.toList)
def usedL (v : ByteArray) : List (ByteArray × Itm) → Int
 | [] => 0
 | (p, x) :: r => (if vol p = v then (x.data.size : Int) else 0) + usedL v r
def used (d : Dk) (v : ByteArray) : Int := usedL v d.L
def room (d : Dk) (p : ByteArray) (more : Int) : Bool := match lookD d.R (vol p) with
 | none => true
 | some n => decide (more ≤ 0) || decide (used d (vol p) + more ≤ n)
def write (d : Dk) (p s : ByteArray) : Int × Dk :=
 if may d p 1 ≠ 0 then (may d p 1, d) else if under d p = false then (11, d) else if (item d p).dir = true then (12, d) else if room d p ((s.size : Int) - (item d p).data.size) = false then (13, d) else
  if (stepD d).1 ≠ 0 then stepD d else (0, setD (stepD d).2 p { item d p with data := s, loose := true, anew := true })
def file (d : Dk) (p : ByteArray) : Int := if may d p 1 ≠ 0 then may d p 1 else if has d p = false then 11 else if (item d p).dir = true then 12 else 0
def append (d : Dk) (p s : ByteArray) : Int × Dk :=
 if file d p ≠ 0 then (file d p, d) else if room d p s.size = false then (13, d) else if (stepD d).1 ≠ 0 then stepD d else
  (0, setD (stepD d).2 p { item d p with data := (item d p).data ++ s, loose := true })
def kind (d : Dk) (p : ByteArray) : Int := if has d p = false then 0 else if (item d p).dir = true then 1 else 2
section
variable {α : Type}
def Rise (L : List (ByteArray × α)) : Prop := L.Pairwise fun a b => blt a.1 b.1 = true
theorem mem_put {s : ByteArray} {x : α} {e : ByteArray × α} : ∀ {L : List (ByteArray × α)}, e ∈ put s x L → e = (s, x) ∨ e ∈ L
 | [], h => by simp only [put, List.mem_singleton] at h; exact .inl h
 | (t, y) :: r, h => by
  simp only [put] at h
  split at h
  ·rcases List.mem_cons.1 h with h | h
   ·exact .inl h
   ·exact .inr (List.mem_cons_of_mem _ h)
  ·split at h
   ·rcases List.mem_cons.1 h with h | h
    ·exact .inl h
    ·exact .inr h
   ·rcases List.mem_cons.1 h with h | h
    ·exact .inr (by simp [h])
    ·rcases mem_put h with h | h
     ·exact .inl h
     ·exact .inr (List.mem_cons_of_mem _ h)
theorem rise_put (s : ByteArray) (x : α) : ∀ {L : List (ByteArray × α)}, Rise L → Rise (put s x L)
 | [], _ => by simp [put, Rise]
 | (t, y) :: r, h => by
  obtain ⟨h1, h2⟩ := List.pairwise_cons.1 h
  simp only [put]
  split
  ·rename_i e; subst e
   exact List.pairwise_cons.2 ⟨h1, h2⟩
  ·rename_i hne
   split
   ·rename_i hb
    refine List.pairwise_cons.2 ⟨fun e he => ?_, h⟩
    rw [bltD_eq] at hb
    rcases List.mem_cons.1 he with rfl | he
    ·exact hb
    ·exact blt_trans hb (h1 e he)
   ·rename_i hb
    rw [bltD_eq] at hb
    refine List.pairwise_cons.2 ⟨fun e he => ?_, rise_put s x h2⟩
    rcases mem_put he with rfl | he
    ·rcases blt_tri t s with h | h | h
     ·exact h
     ·exact absurd h hne
     ·exact absurd h hb
    ·exact h1 e he
theorem lookD_mem {s : ByteArray} {x : α} : ∀ {L : List (ByteArray × α)}, lookD L s = some x → (s, x) ∈ L
 | [], h => by simp [lookD] at h
 | (t, y) :: r, h => by
  simp only [lookD] at h
  split at h
  ·rename_i e; subst e
   simp only [Option.some.injEq] at h
   simp [h]
  ·exact List.mem_cons_of_mem _ (lookD_mem h)
theorem mem_lookD {s : ByteArray} {x : α} : ∀ {L : List (ByteArray × α)}, Rise L → (s, x) ∈ L → lookD L s = some x
 | [], _, h => by simp at h
 | (t, y) :: r, hR, h => by
  obtain ⟨h1, h2⟩ := List.pairwise_cons.1 hR
  simp only [lookD]
  rcases List.mem_cons.1 h with h | h
  ·cases h; rw [if_pos rfl]
  ·rw [if_neg (fun e => by subst e; have := h1 _ h; rw [blt_irr] at this; cases this)]
   exact mem_lookD h2 h
end
def tot : List (ByteArray × Itm) → Int
 | [] => 0
 | (_, x) :: r => (x.data.size : Int) + tot r
theorem data_inj {a b : ByteArray} (h : a.data.toList = b.data.toList) : a = b := by rw [← mkB_data a, ← mkB_data b, h]
structure Dk.Ok (d : Dk) (B : Int) : Prop where
 rise : Rise d.L
 keys : ∀ e ∈ d.L, e.1.size ≤ 1048576
 size : tot d.L ≤ B
 n : (d.n : Int) ≤ B
 m : (d.m : Int) ≤ B
 steps : 0 ≤ d.steps ∧ d.steps ≤ B
 stamps : 0 ≤ d.stamps ∧ d.stamps ≤ B
 armed : -1 ≤ d.armed ∧ d.armed ≤ 9223372036854775807
end Go.Dk
