/-
  Plain: a disk: items by path, limits by volume; what its calls make of it.
-/
import Derived.Test.YtojolcpblacjjaaGreatDoorTrC
import Derived.Test.YtojolcpblacjjaaGreatDoorMq
set_option linter.unusedSimpArgs false
set_option linter.unusedVariables false
namespace Go.Dk
open Go Go.Tr Go.Eng
structure Itm where
 dir : Bool
 data : ByteArray
 kept : ByteArray
 loose : Bool
 anew : Bool
 stamp : Int
def Itm.val (x : Itm) : Value := .agg #[.bool x.dir, .string x.data, .string x.kept, .bool x.loose, .bool x.anew, .int .i64 x.stamp]
def Itm.hv (x : Itm) : HV := .agg [.v (.bool x.dir), .v (.string x.data), .v (.string x.kept), .v (.bool x.loose), .v (.bool x.anew), .v (.int .i64 x.stamp)]
def itm0 : Itm := ⟨false, ByteArray.empty, ByteArray.empty, false, false, 0⟩
def qPl : Itm := ⟨true, ByteArray.empty, ByteArray.empty, false, false, 0⟩
section
variable {α : Type}
def aT : List (ByteArray × α) → ByteArray → Option α
 | [], _ => none
 | (t, x) :: r, s => if t = s then some x else aT r s
def zF6 (a b : ByteArray) : Bool := Op.bytesLess a.data.toList b.data.toList
theorem tS (a b : ByteArray) : zF6 a b = blt a b := by rw [blt, zF6, Lib.toList_data, Lib.toList_data]
def put (s : ByteArray) (x : α) : List (ByteArray × α) → List (ByteArray × α)
 | [] => [(s, x)]
 | (t, y) :: r => if t = s then (s, x) :: r else if zF6 s t then (s, x) :: (t, y) :: r else (t, y) :: put s x r
def del (s : ByteArray) : List (ByteArray × α) → List (ByteArray × α)
 | [] => []
 | (t, y) :: r => if t = s then del s r else (t, y) :: del s r
theorem kL (s : ByteArray) (x : α) (u : ByteArray) : ∀ (L : List (ByteArray × α)), aT (put s x L) u = if u = s then some x else aT L u
 | [] => by
  simp only [put, aT]
  by_cases e : u = s
  ·subst e; simp
  ·rw [if_neg (fun h => e h.symm), if_neg e]
 | (t, y) :: r => by
  simp only [put]
  by_cases h1 : t = s
  ·subst h1
   rw [if_pos rfl]
   simp only [aT]
   by_cases e : t = u
   ·subst e; simp
   ·rw [if_neg e, if_neg (fun h => e h.symm), if_neg e]
  ·rw [if_neg h1]
   split
   ·simp only [aT]
    by_cases e : s = u
    ·subst e; simp
    ·rw [if_neg e, if_neg (show ¬ u = s from fun h => e h.symm)]
   ·simp only [aT]
    rw [kL s x u r]
    by_cases e : t = u
    ·subst e; simp [h1]
    ·rw [if_neg e, if_neg e]
theorem mL (s u : ByteArray) : ∀ (L : List (ByteArray × α)), aT (del s L) u = if u = s then none else aT L u
 | [] => by simp [del, aT]
 | (t, y) :: r => by
  simp only [del]
  by_cases h1 : t = s
  ·subst h1
   rw [if_pos rfl, mL t u r]
   simp only [aT]
   by_cases e : t = u
   ·subst e; simp
   ·rw [if_neg (fun h => e h.symm), if_neg (fun h => e h.symm), if_neg e]
  ·rw [if_neg h1]
   simp only [aT]
   rw [mL s u r]
   by_cases e : t = u
   ·subst e; simp [h1]
   ·rw [if_neg e, if_neg e]
def tab (f : α → Value) (L : List (ByteArray × α)) : MTab := fun s => (aT L (mkB s)).map f
theorem qAn (f : α → Value) (L : List (ByteArray × α)) (s : ByteArray) : tab f L s.data.toList = (aT L s).map f := by rw [tab, gC]
theorem qFz {q : List UInt8} {s : ByteArray} : mkB q = s ↔ q = s.data.toList := by
 constructor
 ·rintro rfl; rfl
 ·rintro rfl; exact gC s
theorem qNq (f : α → Value) (L : List (ByteArray × α)) (s : ByteArray) (x : α) : (tab f L).put s.data.toList (f x) = tab f (put s x L) := by
 funext q
 simp only [MTab.put, tab, kL]
 by_cases e : q = s.data.toList
 ·rw [if_pos e, if_pos (qFz.2 e)]; rfl
 ·rw [if_neg e, if_neg (fun h => e (qFz.1 h))]
theorem qV1 (f : α → Value) (L : List (ByteArray × α)) (s : ByteArray) : (tab f L).del s.data.toList = tab f (del s L) := by
 funext q
 simp only [MTab.del, tab, mL]
 by_cases e : q = s.data.toList
 ·rw [if_pos e, if_pos (qFz.2 e)]; rfl
 ·rw [if_neg e, if_neg (fun h => e (qFz.1 h))]
end
def qQ7 (n : Int) : Value := .int .i64 n
theorem dY (L : List (ByteArray × Itm)) (s : ByteArray) : qBm ((tab Itm.val L s.data.toList).getD itm0.val) = ((aT L s).getD itm0).hv := by
 rw [qAn]
 cases aT L s <;> rfl
theorem kN (L : List (ByteArray × Itm)) (s : ByteArray) : (tab Itm.val L s.data.toList).isSome = (aT L s).isSome := by rw [qAn, Option.isSome_map]
theorem zBx (L : List (ByteArray × Int)) (s : ByteArray) : qBm ((tab qQ7 L s.data.toList).getD (.int .i64 0)) = .v (.int .i64 ((aT L s).getD 0)) := by
 rw [qAn]
 cases aT L s <;> rfl
theorem zBw (L : List (ByteArray × Int)) (s : ByteArray) : (tab qQ7 L s.data.toList).isSome = (aT L s).isSome := by rw [qAn, Option.isSome_map]
theorem eD (x : Itm) : x.hv = .agg [.v (.bool x.dir), .v (.string x.data), .v (.string x.kept), .v (.bool x.loose), .v (.bool x.anew), .v (.int .i64 x.stamp)] := (fun h => h) rfl
structure Dk where
 L : List (ByteArray × Itm)
 R : List (ByteArray × Int)
 steps : Int
 stamps : Int
 armed : Int
 down : Bool
 n : Nat
 m : Nat
def Dk.new : Dk := ⟨[], [], 0, 0, -1, false, 0, 0⟩
def Dk.cells (d : Dk) (r1 r2 : Nat) : List HV := [.v (.map (some r1)), .v (.map (some r2)), .v (.int .i64 d.steps), .v (.int .i64 d.stamps), .v (.int .i64 d.armed), .v (.bool d.down)]
theorem bJ (d : Dk) (r1 r2 : Nat) : d.cells r1 r2 = [.v (.map (some r1)), .v (.map (some r2)), .v (.int .i64 d.steps), .v (.int .i64 d.stamps), .v (.int .i64 d.armed), .v (.bool d.down)] := (fun h => h) rfl
def Dk.maps (d : Dk) (k r1 r2 : Nat) : MS := [.map r1 k d.n (tab Itm.val d.L), .map r2 k d.m (tab qQ7 d.R)]
def qBx (p : ByteArray) : Int := if p = { data := #[] } then 0 else (p.data.toList.count 47 : Nat) + 1
def may (d : Dk) (p : ByteArray) (names : Int) : Int := if d.down then 14 else if pOk p 6 = false ∨ qBx p ≤ names then 10 else 0
def aS (d : Dk) : Int × Dk := if d.armed = 0 then (14, { d with down := true, armed := -1 }) else (0, { d with armed := if 0 < d.armed then d.armed - 1 else d.armed, steps := d.steps + 1 })
def aP (d : Dk) (p : ByteArray) : Itm := (aT d.L p).getD itm0
def has (d : Dk) (p : ByteArray) : Bool := (aT d.L p).isSome
def eJ (d : Dk) (p : ByteArray) : Bool := decide (qBx p = 1) || (aP d (par p)).dir
def gS (d : Dk) (p : ByteArray) (x : Itm) : Dk := { d with stamps := d.stamps + 1, L := put p { x with stamp := d.stamps + 1 } d.L, n := d.n + 1 }
def wW : List UInt8 → Nat
 | [] => 0
 | c :: r => if c = 47 then 0 else wW r + 1
def vol (p : ByteArray) : ByteArray := p.extract 0 (wW p.data.toList)
def mZ (v : ByteArray) : List (ByteArray × Itm) → Int
 | [] => 0
 | (p, x) :: r => (if vol p = v then (x.data.size : Int) else 0) + mZ v r
def used (d : Dk) (v : ByteArray) : Int := mZ v d.L
def gX (d : Dk) (p : ByteArray) (more : Int) : Bool := match aT d.R (vol p) with
 | none => true
 | some n => decide (more ≤ 0) || decide (used d (vol p) + more ≤ n)
def dJ (d : Dk) (p : ByteArray) : Int × Dk :=
 if may d p 0 ≠ 0 then (may d p 0, d) else if eJ d p = false then (11, d) else if has d p = true ∧ (aP d p).dir = false then (12, d) else
  if (aS d).1 ≠ 0 then aS d else (0, { (aS d).2 with L := put p qPl d.L, n := d.n + 1 })
def cX (d : Dk) (p s : ByteArray) : Int × Dk :=
 if may d p 1 ≠ 0 then (may d p 1, d) else if eJ d p = false then (11, d) else if (aP d p).dir = true then (12, d) else if gX d p ((s.size : Int) - (aP d p).data.size) = false then (13, d) else
  if (aS d).1 ≠ 0 then aS d else (0, gS (aS d).2 p { aP d p with data := s, loose := true, anew := true })
def eU (d : Dk) (p : ByteArray) : Int := if may d p 1 ≠ 0 then may d p 1 else if has d p = false then 11 else if (aP d p).dir = true then 12 else 0
def append (d : Dk) (p s : ByteArray) : Int × Dk :=
 if eU d p ≠ 0 then (eU d p, d) else if gX d p s.size = false then (13, d) else if (aS d).1 ≠ 0 then aS d else
  (0, gS (aS d).2 p { aP d p with data := (aP d p).data ++ s, loose := true })
def kU (d : Dk) (p : ByteArray) : Int × Dk :=
 if eU d p ≠ 0 then (eU d p, d) else if (aS d).1 ≠ 0 then aS d else
  (0, { (aS d).2 with L := put p { aP d p with kept := (aP d p).data, loose := false, anew := false } d.L, n := d.n + 1 })
def cU (d : Dk) (a b : ByteArray) : Int × Dk :=
 let e := if may d a 1 = 0 then may d b 1 else may d a 1
 if e ≠ 0 then (e, d) else
  let x := aP d a
  let y := aP d b
  let more : Int := if vol a = vol b then -(y.data.size : Int) else x.data.size - y.data.size
  if has d a = false ∨ eJ d b = false then (11, d) else if x.dir = true ∨ y.dir = true then (12, d) else if a ≠ b ∧ gX d b more = false then (13, d) else
   if (aS d).1 ≠ 0 then aS d else (0, gS { (aS d).2 with L := del a d.L } b x)
def dK (d : Dk) (v : ByteArray) (k : Int) : Int × Dk := if k < 0 then (1, d) else if pOk v 1 = false then (10, d) else (0, { d with R := put v k d.R, m := d.m + 1 })
def mF (d : Dk) (p : ByteArray) : ByteArray × Int := if d.down then (ByteArray.empty, 14) else if has d p = false then (ByteArray.empty, 11) else if (aP d p).dir = true then (ByteArray.empty, 12) else ((aP d p).data, 0)
def gE (d : Dk) (p : ByteArray) : Int := if has d p = false then 0 else if (aP d p).dir = true then 1 else 2
section
variable {α : Type}
def gJ (L : List (ByteArray × α)) : Prop := L.Pairwise fun a b => blt a.1 b.1 = true
theorem xW {s : ByteArray} {x : α} {e : ByteArray × α} : ∀ {L : List (ByteArray × α)}, e ∈ put s x L → e = (s, x) ∨ e ∈ L
 | [], h => by simp only [put, List.mem_singleton] at h; exact .inl h
 | (t, y) :: r, h => by
  simp only [put] at h
  split at h
  ·rcases List.mem_cons.1 h with h | h
   ·exact .inl h
   ·exact .inr (List.mem_cons_of_mem _ h)
  ·split at h
   ·rcases List.mem_cons.1 h with h | h
    ·exact .inl h
    ·exact .inr h
   ·rcases List.mem_cons.1 h with h | h
    ·exact .inr (by simp [h])
    ·rcases xW h with h | h
     ·exact .inl h
     ·exact .inr (List.mem_cons_of_mem _ h)
theorem qDq {s : ByteArray} {e : ByteArray × α} : ∀ {L : List (ByteArray × α)}, e ∈ del s L → e ∈ L
 | [], h => by simp [del] at h
 | (t, y) :: r, h => by
  simp only [del] at h
  split at h
  ·exact List.mem_cons_of_mem _ (qDq h)
  ·rcases List.mem_cons.1 h with h | h
   ·simp [h]
   ·exact List.mem_cons_of_mem _ (qDq h)
theorem rP (s : ByteArray) (x : α) : ∀ {L : List (ByteArray × α)}, gJ L → gJ (put s x L)
 | [], _ => by simp [put, gJ]
 | (t, y) :: r, h => by
  obtain ⟨h1, h2⟩ := List.pairwise_cons.1 h
  simp only [put]
  split
  ·rename_i e; subst e
   exact List.pairwise_cons.2 ⟨h1, h2⟩
  ·rename_i hne
   split
   ·rename_i hb
    refine List.pairwise_cons.2 ⟨fun e he => ?_, h⟩
    rw [tS] at hb
    rcases List.mem_cons.1 he with rfl | he
    ·exact hb
    ·exact pQ hb (h1 e he)
   ·rename_i hb
    rw [tS] at hb
    refine List.pairwise_cons.2 ⟨fun e he => ?_, rP s x h2⟩
    rcases xW he with rfl | he
    ·rcases qDt t s with h | h | h
     ·exact h
     ·exact absurd h hne
     ·exact absurd h hb
    ·exact h1 e he
theorem xL (s : ByteArray) : ∀ {L : List (ByteArray × α)}, gJ L → gJ (del s L)
 | [], _ => by simp [del, gJ]
 | (t, y) :: r, h => by
  obtain ⟨h1, h2⟩ := List.pairwise_cons.1 h
  simp only [del]
  split
  ·exact xL s h2
  ·exact List.pairwise_cons.2 ⟨fun e he => h1 e (qDq he), xL s h2⟩
theorem iV {s : ByteArray} {x : α} : ∀ {L : List (ByteArray × α)}, aT L s = some x → (s, x) ∈ L
 | [], h => by simp [aT] at h
 | (t, y) :: r, h => by
  simp only [aT] at h
  split at h
  ·rename_i e; subst e
   simp only [Option.some.injEq] at h
   simp [h]
  ·exact List.mem_cons_of_mem _ (iV h)
theorem lT {s : ByteArray} {x : α} : ∀ {L : List (ByteArray × α)}, gJ L → (s, x) ∈ L → aT L s = some x
 | [], _, h => by simp at h
 | (t, y) :: r, hR, h => by
  obtain ⟨h1, h2⟩ := List.pairwise_cons.1 hR
  simp only [aT]
  rcases List.mem_cons.1 h with h | h
  ·cases h; rw [if_pos rfl]
  ·rw [if_neg (fun e => by subst e; have := h1 _ h; rw [kE] at this; cases this)]
   exact lT h2 h
end
theorem qPo (x : Itm) : qBm x.val = x.hv := rfl
def tot : List (ByteArray × Itm) → Int
 | [] => 0
 | (_, x) :: r => (x.data.size : Int) + tot r
def jL (left : List UInt8 → Bool) (v : ByteArray) : List (ByteArray × Itm) → Int
 | [] => 0
 | (p, x) :: r => (if left p.data.toList = false ∧ vol p = v then (x.data.size : Int) else 0) + jL left v r
theorem uS : ∀ L, 0 ≤ tot L
 | [] => Int.le_refl _
 | (_, x) :: r => by have := uS r; rw [tot]; omega
theorem wX (left : List UInt8 → Bool) (v : ByteArray) : ∀ L, 0 ≤ jL left v L ∧ jL left v L ≤ tot L
 | [] => ⟨Int.le_refl _, Int.le_refl _⟩
 | (p, x) :: r => by
  have := wX left v r
  rw [jL, tot]
  split <;> omega
theorem qD1 {left : List UInt8 → Bool} (v : ByteArray) : ∀ {L : List (ByteArray × Itm)}, (∀ e ∈ L, left e.1.data.toList = true) → jL left v L = 0
 | [], _ => rfl
 | (p, x) :: r, h => by
  rw [jL, qD1 v fun e he => h e (List.mem_cons_of_mem _ he), if_neg (by simp [h (p, x) (by simp)])]; rfl
theorem qAm {left : List UInt8 → Bool} (v : ByteArray) (h : ∀ s, left s = false) : ∀ (L : List (ByteArray × Itm)), jL left v L = mZ v L
 | [] => rfl
 | (p, x) :: r => by
  rw [jL, mZ, qAm v h r]
  simp [h]
theorem qJv {a b : ByteArray} (h : a.data.toList = b.data.toList) : a = b := by rw [← gC a, ← gC b, h]
theorem qD0 {left : List UInt8 → Bool} {s v : ByteArray} : ∀ {L : List (ByteArray × Itm)}, (∀ e ∈ L, e.1 ≠ s) → jL (fun q => left q && !(q == s.data.toList)) v L = jL left v L
 | [], _ => rfl
 | (p, x) :: r, h => by
  rw [jL, jL, qD0 fun e he => h e (List.mem_cons_of_mem _ he)]
  have : (p.data.toList == s.data.toList) = false := beq_eq_false_iff_ne.2 fun e => h (p, x) (by simp) (qJv e)
  simp [this]
theorem qDz {left : List UInt8 → Bool} {s v : ByteArray} {x : Itm} (hl : left s.data.toList = true) : ∀ {L : List (ByteArray × Itm)}, gJ L → (s, x) ∈ L →
  jL (fun q => left q && !(q == s.data.toList)) v L = jL left v L + (if vol s = v then (x.data.size : Int) else 0)
 | [], _, h => by simp at h
 | (p, y) :: r, hR, h => by
  obtain ⟨h1, h2⟩ := List.pairwise_cons.1 hR
  rw [jL, jL]
  by_cases e : p = s
  ·subst e
   have hm : (p, x) = (p, y) := by
    rcases List.mem_cons.1 h with h | h
    ·exact h
    ·have := h1 _ h; rw [kE] at this; cases this
   cases hm
   rw [qD0 fun e he => fun e' => by have := h1 e he; rw [e', kE] at this; cases this]
   simp [hl]
   omega
  ·have hm : (s, x) ∈ r := by
    rcases List.mem_cons.1 h with h | h
    ·cases h; exact absurd rfl e
    ·exact h
   rw [qDz hl h2 hm]
   have : (p.data.toList == s.data.toList) = false := beq_eq_false_iff_ne.2 fun e' => e (qJv e')
   simp [this]
   omega
theorem qV0 {s : ByteArray} {x : Itm} : ∀ {L : List (ByteArray × Itm)}, (s, x) ∈ L → (x.data.size : Int) ≤ tot L
 | [], h => by simp at h
 | (p, y) :: r, h => by
  have := uS r
  rcases List.mem_cons.1 h with h | h
  ·cases h; rw [tot]; omega
  ·have := qV0 h; rw [tot]; omega
theorem iW (d : Dk) (p : ByteArray) : ((aP d p).data.size : Int) ≤ tot d.L := by
 unfold aP
 cases h : aT d.L p with
 | none => exact uS _
 | some x => exact qV0 (iV h)
structure Dk.Ok (d : Dk) (B : Int) : Prop where
 rise : gJ d.L
 keys : ∀ e ∈ d.L, e.1.size ≤ 1048576
 size : tot d.L ≤ B
 n : (d.n : Int) ≤ B
 m : (d.m : Int) ≤ B
 steps : 0 ≤ d.steps ∧ d.steps ≤ B
 stamps : 0 ≤ d.stamps ∧ d.stamps ≤ B
 armed : -1 ≤ d.armed ∧ d.armed ≤ 9223372036854775807
end Go.Dk
