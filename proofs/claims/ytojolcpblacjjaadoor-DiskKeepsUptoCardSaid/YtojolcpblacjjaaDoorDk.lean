/-
  Plain: a disk: items by path, limits by volume; what its calls make of it.
-/
import Derived.Test.YtojolcpblacjjaaDoorTrC
import Derived.Test.YtojolcpblacjjaaDoorMq
set_option linter.unusedSimpArgs false
set_option linter.unusedVariables false
namespace Go.Dk
open Go Go.Tr Go.Eng
structure Itm where
 dir : Bool
 data : ByteArray
 kept : ByteArray
 loose : Bool
 anew : Bool
 stamp : Int
def Itm.val (x : Itm) : Value := .agg #[.bool x.dir, .string x.data, .string x.kept, .bool x.loose, .bool x.anew, .int .i64 x.stamp]
def Itm.hv (x : Itm) : HV := .agg [.v (.bool x.dir), .v (.string x.data), .v (.string x.kept), .v (.bool x.loose), .v (.bool x.anew), .v (.int .i64 x.stamp)]
def itm0 : Itm := ⟨false, ByteArray.empty, ByteArray.empty, false, false, 0⟩
def itmD : Itm := ⟨true, ByteArray.empty, ByteArray.empty, false, false, 0⟩
section
variable {α : Type}
def lookD : List (ByteArray × α) → ByteArray → Option α
 | [], _ => none
 | (t, x) :: r, s => if t = s then some x else lookD r s
def bltD (a b : ByteArray) : Bool := Op.bytesLess a.data.toList b.data.toList
theorem bltD_eq (a b : ByteArray) : bltD a b = blt a b := by rw [blt, bltD, Lib.toList_data, Lib.toList_data]
def put (s : ByteArray) (x : α) : List (ByteArray × α) → List (ByteArray × α)
 | [] => [(s, x)]
 | (t, y) :: r => if t = s then (s, x) :: r else if bltD s t then (s, x) :: (t, y) :: r else (t, y) :: put s x r
def del (s : ByteArray) : List (ByteArray × α) → List (ByteArray × α)
 | [] => []
 | (t, y) :: r => if t = s then del s r else (t, y) :: del s r
theorem look_put (s : ByteArray) (x : α) (u : ByteArray) : ∀ (L : List (ByteArray × α)), lookD (put s x L) u = if u = s then some x else lookD L u
 | [] => by
  simp only [put, lookD]
  by_cases e : u = s
  ·subst e; simp
  ·rw [if_neg (fun h => e h.symm), if_neg e]
 | (t, y) :: r => by
  simp only [put]
  by_cases h1 : t = s
  ·subst h1
   rw [if_pos rfl]
   simp only [lookD]
   by_cases e : t = u
   ·subst e; simp
   ·rw [if_neg e, if_neg (fun h => e h.symm), if_neg e]
  ·rw [if_neg h1]
   split
   ·simp only [lookD]
    by_cases e : s = u
    ·subst e; simp
    ·rw [if_neg e, if_neg (show ¬ u = s from fun h => e h.symm)]
   ·simp only [lookD]
    rw [look_put s x u r]
    by_cases e : t = u
    ·subst e; simp [h1]
    ·rw [if_neg e, if_neg e]
theorem look_del (s u : ByteArray) : ∀ (L : List (ByteArray × α)), lookD (del s L) u = if u = s then none else lookD L u
 | [] => by simp [del, lookD]
 | (t, y) :: r => by
  simp only [del]
  by_cases h1 : t = s
  ·subst h1
   rw [if_pos rfl, look_del t u r]
   simp only [lookD]
   by_cases e : t = u
   ·subst e; simp
   ·rw [if_neg (fun h => e h.symm), if_neg (fun h => e h.symm), if_neg e]
  ·rw [if_neg h1]
   simp only [lookD]
   rw [look_del s u r]
   by_cases e : t = u
   ·subst e; simp [h1]
   ·rw [if_neg e, if_neg e]
def tab (f : α → Value) (L : List (ByteArray × α)) : MTab := fun s => (lookD L (mkB s)).map f
theorem tab_at (f : α → Value) (L : List (ByteArray × α)) (s : ByteArray) : tab f L s.data.toList = (lookD L s).map f := by rw [tab, mkB_data]
theorem mkB_eq {q : List UInt8} {s : ByteArray} : mkB q = s ↔ q = s.data.toList := by
 constructor
 ·rintro rfl; rfl
 ·rintro rfl; exact mkB_data s
theorem tab_put (f : α → Value) (L : List (ByteArray × α)) (s : ByteArray) (x : α) : (tab f L).put s.data.toList (f x) = tab f (put s x L) := by
 funext q
 simp only [MTab.put, tab, look_put]
 by_cases e : q = s.data.toList
 ·rw [if_pos e, if_pos (mkB_eq.2 e)]; rfl
 ·rw [if_neg e, if_neg (fun h => e (mkB_eq.1 h))]
theorem tab_del (f : α → Value) (L : List (ByteArray × α)) (s : ByteArray) : (tab f L).del s.data.toList = tab f (del s L) := by
 funext q
 simp only [MTab.del, tab, look_del]
 by_cases e : q = s.data.toList
 ·rw [if_pos e, if_pos (mkB_eq.2 e)]; rfl
 ·rw [if_neg e, if_neg (fun h => e (mkB_eq.1 h))]
end
def numV (n : Int) : Value := .int .i64 n
theorem itm_look (L : List (ByteArray × Itm)) (s : ByteArray) : hvOf ((tab Itm.val L s.data.toList).getD itm0.val) = ((lookD L s).getD itm0).hv := by
 rw [tab_at]
 cases lookD L s <;> rfl
theorem itm_some (L : List (ByteArray × Itm)) (s : ByteArray) : (tab Itm.val L s.data.toList).isSome = (lookD L s).isSome := by rw [tab_at, Option.isSome_map]
theorem num_look (L : List (ByteArray × Int)) (s : ByteArray) : hvOf ((tab numV L s.data.toList).getD (.int .i64 0)) = .v (.int .i64 ((lookD L s).getD 0)) := by
 rw [tab_at]
 cases lookD L s <;> rfl
theorem num_some (L : List (ByteArray × Int)) (s : ByteArray) : (tab numV L s.data.toList).isSome = (lookD L s).isSome := by rw [tab_at, Option.isSome_map]
theorem itm_hv (x : Itm) : x.hv = .agg [.v (.bool x.dir), .v (.string x.data), .v (.string x.kept), .v (.bool x.loose), .v (.bool x.anew), .v (.int .i64 x.stamp)] := (fun h => h) rfl
structure Dk where
 L : List (ByteArray × Itm)
 R : List (ByteArray × Int)
 steps : Int
 stamps : Int
 armed : Int
 down : Bool
 n : Nat
 m : Nat
def Dk.new : Dk := ⟨[], [], 0, 0, -1, false, 0, 0⟩
def Dk.cells (d : Dk) (r1 r2 : Nat) : List HV := [.v (.map (some r1)), .v (.map (some r2)), .v (.int .i64 d.steps), .v (.int .i64 d.stamps), .v (.int .i64 d.armed), .v (.bool d.down)]
theorem cells_eq (d : Dk) (r1 r2 : Nat) : d.cells r1 r2 = [.v (.map (some r1)), .v (.map (some r2)), .v (.int .i64 d.steps), .v (.int .i64 d.stamps), .v (.int .i64 d.armed), .v (.bool d.down)] := (fun h => h) rfl
def Dk.maps (d : Dk) (k r1 r2 : Nat) : MS := [.map r1 k d.n (tab Itm.val d.L), .map r2 k d.m (tab numV d.R)]
def deep (p : ByteArray) : Int := if p = { data := #[] } then 0 else (p.data.toList.count 47 : Nat) + 1
def may (d : Dk) (p : ByteArray) (names : Int) : Int := if d.down then 14 else if pOk p 6 = false ∨ deep p ≤ names then 10 else 0
def stepD (d : Dk) : Int × Dk := if d.armed = 0 then (14, { d with down := true, armed := -1 }) else (0, { d with armed := if 0 < d.armed then d.armed - 1 else d.armed, steps := d.steps + 1 })
def item (d : Dk) (p : ByteArray) : Itm := (lookD d.L p).getD itm0
def has (d : Dk) (p : ByteArray) : Bool := (lookD d.L p).isSome
def under (d : Dk) (p : ByteArray) : Bool := decide (deep p = 1) || (item d (par p)).dir
def setD (d : Dk) (p : ByteArray) (x : Itm) : Dk := { d with stamps := d.stamps + 1, L := put p { x with stamp := d.stamps + 1 } d.L, n := d.n + 1 }
def volI : List UInt8 → Nat
 | [] => 0
 | c :: r => if c = 47 then 0 else volI r + 1
def vol (p : ByteArray) : ByteArray := p.extract 0 (volI p.data.toList)
def usedL (v : ByteArray) : List (ByteArray × Itm) → Int
 | [] => 0
 | (p, x) :: r => (if vol p = v then (x.data.size : Int) else 0) + usedL v r
def used (d : Dk) (v : ByteArray) : Int := usedL v d.L
def room (d : Dk) (p : ByteArray) (more : Int) : Bool := match lookD d.R (vol p) with
 | none => true
 | some n => decide (more ≤ 0) || decide (used d (vol p) + more ≤ n)
def mkdir (d : Dk) (p : ByteArray) : Int × Dk :=
 if may d p 0 ≠ 0 then (may d p 0, d) else if under d p = false then (11, d) else if has d p = true ∧ (item d p).dir = false then (12, d) else
  if (stepD d).1 ≠ 0 then stepD d else (0, { (stepD d).2 with L := put p itmD d.L, n := d.n + 1 })
def write (d : Dk) (p s : ByteArray) : Int × Dk :=
 if may d p 1 ≠ 0 then (may d p 1, d) else if under d p = false then (11, d) else if (item d p).dir = true then (12, d) else if room d p ((s.size : Int) - (item d p).data.size) = false then (13, d) else
  if (stepD d).1 ≠ 0 then stepD d else (0, setD (stepD d).2 p { item d p with data := s, loose := true, anew := true })
def file (d : Dk) (p : ByteArray) : Int := if may d p 1 ≠ 0 then may d p 1 else if has d p = false then 11 else if (item d p).dir = true then 12 else 0
def append (d : Dk) (p s : ByteArray) : Int × Dk :=
 if file d p ≠ 0 then (file d p, d) else if room d p s.size = false then (13, d) else if (stepD d).1 ≠ 0 then stepD d else
  (0, setD (stepD d).2 p { item d p with data := (item d p).data ++ s, loose := true })
def sync (d : Dk) (p : ByteArray) : Int × Dk :=
 if file d p ≠ 0 then (file d p, d) else if (stepD d).1 ≠ 0 then stepD d else
  (0, { (stepD d).2 with L := put p { item d p with kept := (item d p).data, loose := false, anew := false } d.L, n := d.n + 1 })
def rename (d : Dk) (a b : ByteArray) : Int × Dk :=
 let e := if may d a 1 = 0 then may d b 1 else may d a 1
 if e ≠ 0 then (e, d) else
  let x := item d a
  let y := item d b
  let more : Int := if vol a = vol b then -(y.data.size : Int) else x.data.size - y.data.size
  if has d a = false ∨ under d b = false then (11, d) else if x.dir = true ∨ y.dir = true then (12, d) else if a ≠ b ∧ room d b more = false then (13, d) else
   if (stepD d).1 ≠ 0 then stepD d else (0, setD { (stepD d).2 with L := del a d.L } b x)
def readD (d : Dk) (p : ByteArray) : ByteArray × Int := if d.down then (ByteArray.empty, 14) else if has d p = false then (ByteArray.empty, 11) else if (item d p).dir = true then (ByteArray.empty, 12) else ((item d p).data, 0)
def kind (d : Dk) (p : ByteArray) : Int := if has d p = false then 0 else if (item d p).dir = true then 1 else 2
section
variable {α : Type}
def Rise (L : List (ByteArray × α)) : Prop := L.Pairwise fun a b => blt a.1 b.1 = true
theorem mem_put {s : ByteArray} {x : α} {e : ByteArray × α} : ∀ {L : List (ByteArray × α)}, e ∈ put s x L → e = (s, x) ∨ e ∈ L
 | [], h => by simp only [put, List.mem_singleton] at h; exact .inl h
 | (t, y) :: r, h => by
  simp only [put] at h
  split at h
  ·rcases List.mem_cons.1 h with h | h
   ·exact .inl h
   ·exact .inr (List.mem_cons_of_mem _ h)
  ·split at h
   ·rcases List.mem_cons.1 h with h | h
    ·exact .inl h
    ·exact .inr h
   ·rcases List.mem_cons.1 h with h | h
    ·exact .inr (by simp [h])
    ·rcases mem_put h with h | h
     ·exact .inl h
     ·exact .inr (List.mem_cons_of_mem _ h)
theorem rise_put (s : ByteArray) (x : α) : ∀ {L : List (ByteArray × α)}, Rise L → Rise (put s x L)
 | [], _ => by simp [put, Rise]
 | (t, y) :: r, h => by
  obtain ⟨h1, h2⟩ := List.pairwise_cons.1 h
  simp only [put]
  split
  ·rename_i e; subst e
   exact List.pairwise_cons.2 ⟨h1, h2⟩
  ·rename_i hne
   split
   ·rename_i hb
    refine List.pairwise_cons.2 ⟨fun e he => ?_, h⟩
    rw [bltD_eq] at hb
    rcases List.mem_cons.1 he with rfl | he
    ·exact hb
    ·exact blt_trans hb (h1 e he)
   ·rename_i hb
    rw [bltD_eq] at hb
    refine List.pairwise_cons.2 ⟨fun e he => ?_, rise_put s x h2⟩
    rcases mem_put he with rfl | he
    ·rcases blt_tri t s with h | h | h
     ·exact h
     ·exact absurd h hne
     ·exact absurd h hb
    ·exact h1 e he
theorem lookD_mem {s : ByteArray} {x : α} : ∀ {L : List (ByteArray × α)}, lookD L s = some x → (s, x) ∈ L
 | [], h => by simp [lookD] at h
 | (t, y) :: r, h => by
  simp only [lookD] at h
  split at h
  ·rename_i e; subst e
   simp only [Option.some.injEq] at h
   simp [h]
  ·exact List.mem_cons_of_mem _ (lookD_mem h)
theorem mem_lookD {s : ByteArray} {x : α} : ∀ {L : List (ByteArray × α)}, Rise L → (s, x) ∈ L → lookD L s = some x
 | [], _, h => by simp at h
 | (t, y) :: r, hR, h => by
  obtain ⟨h1, h2⟩ := List.pairwise_cons.1 hR
  simp only [lookD]
  rcases List.mem_cons.1 h with h | h
  ·cases h; rw [if_pos rfl]
  ·rw [if_neg (fun e => by subst e; have := h1 _ h; rw [blt_irr] at this; cases this)]
   exact mem_lookD h2 h
end
theorem hv_val (x : Itm) : hvOf x.val = x.hv := rfl
def tot : List (ByteArray × Itm) → Int
 | [] => 0
 | (_, x) :: r => (x.data.size : Int) + tot r
def usedW (left : List UInt8 → Bool) (v : ByteArray) : List (ByteArray × Itm) → Int
 | [] => 0
 | (p, x) :: r => (if left p.data.toList = false ∧ vol p = v then (x.data.size : Int) else 0) + usedW left v r
theorem tot_nn : ∀ L, 0 ≤ tot L
 | [] => Int.le_refl _
 | (_, x) :: r => by have := tot_nn r; rw [tot]; omega
theorem usedW_le (left : List UInt8 → Bool) (v : ByteArray) : ∀ L, 0 ≤ usedW left v L ∧ usedW left v L ≤ tot L
 | [] => ⟨Int.le_refl _, Int.le_refl _⟩
 | (p, x) :: r => by
  have := usedW_le left v r
  rw [usedW, tot]
  split <;> omega
theorem usedW_none {left : List UInt8 → Bool} (v : ByteArray) : ∀ {L : List (ByteArray × Itm)}, (∀ e ∈ L, left e.1.data.toList = true) → usedW left v L = 0
 | [], _ => rfl
 | (p, x) :: r, h => by
  rw [usedW, usedW_none v fun e he => h e (List.mem_cons_of_mem _ he), if_neg (by simp [h (p, x) (by simp)])]; rfl
theorem usedW_all {left : List UInt8 → Bool} (v : ByteArray) (h : ∀ s, left s = false) : ∀ (L : List (ByteArray × Itm)), usedW left v L = usedL v L
 | [] => rfl
 | (p, x) :: r => by
  rw [usedW, usedL, usedW_all v h r]
  simp [h]
theorem data_inj {a b : ByteArray} (h : a.data.toList = b.data.toList) : a = b := by rw [← mkB_data a, ← mkB_data b, h]
theorem usedW_same {left : List UInt8 → Bool} {s v : ByteArray} : ∀ {L : List (ByteArray × Itm)}, (∀ e ∈ L, e.1 ≠ s) → usedW (fun q => left q && !(q == s.data.toList)) v L = usedW left v L
 | [], _ => rfl
 | (p, x) :: r, h => by
  rw [usedW, usedW, usedW_same fun e he => h e (List.mem_cons_of_mem _ he)]
  have : (p.data.toList == s.data.toList) = false := beq_eq_false_iff_ne.2 fun e => h (p, x) (by simp) (data_inj e)
  simp [this]
theorem usedW_step {left : List UInt8 → Bool} {s v : ByteArray} {x : Itm} (hl : left s.data.toList = true) : ∀ {L : List (ByteArray × Itm)}, Rise L → (s, x) ∈ L →
  usedW (fun q => left q && !(q == s.data.toList)) v L = usedW left v L + (if vol s = v then (x.data.size : Int) else 0)
 | [], _, h => by simp at h
 | (p, y) :: r, hR, h => by
  obtain ⟨h1, h2⟩ := List.pairwise_cons.1 hR
  rw [usedW, usedW]
  by_cases e : p = s
  ·subst e
   have hm : (p, x) = (p, y) := by
    rcases List.mem_cons.1 h with h | h
    ·exact h
    ·have := h1 _ h; rw [blt_irr] at this; cases this
   cases hm
   rw [usedW_same fun e he => fun e' => by have := h1 e he; rw [e', blt_irr] at this; cases this]
   simp [hl]
   omega
  ·have hm : (s, x) ∈ r := by
    rcases List.mem_cons.1 h with h | h
    ·cases h; exact absurd rfl e
    ·exact h
   rw [usedW_step hl h2 hm]
   have : (p.data.toList == s.data.toList) = false := beq_eq_false_iff_ne.2 fun e' => e (data_inj e')
   simp [this]
   omega
theorem tot_mem {s : ByteArray} {x : Itm} : ∀ {L : List (ByteArray × Itm)}, (s, x) ∈ L → (x.data.size : Int) ≤ tot L
 | [], h => by simp at h
 | (p, y) :: r, h => by
  have := tot_nn r
  rcases List.mem_cons.1 h with h | h
  ·cases h; rw [tot]; omega
  ·have := tot_mem h; rw [tot]; omega
theorem item_size (d : Dk) (p : ByteArray) : ((item d p).data.size : Int) ≤ tot d.L := by
 unfold item
 cases h : lookD d.L p with
 | none => exact tot_nn _
 | some x => exact tot_mem (lookD_mem h)
structure Dk.Ok (d : Dk) (B : Int) : Prop where
 rise : Rise d.L
 keys : ∀ e ∈ d.L, e.1.size ≤ 1048576
 size : tot d.L ≤ B
 n : (d.n : Int) ≤ B
 m : (d.m : Int) ≤ B
 steps : 0 ≤ d.steps ∧ d.steps ≤ B
 stamps : 0 ≤ d.stamps ∧ d.stamps ≤ B
 armed : -1 ≤ d.armed ∧ d.armed ≤ 9223372036854775807
end Go.Dk
