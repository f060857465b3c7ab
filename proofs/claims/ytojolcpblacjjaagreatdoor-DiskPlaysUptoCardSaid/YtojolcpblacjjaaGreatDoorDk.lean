/-
  Plain: a disk: items by path, limits by volume; what its calls make of it.
-/
import Derived.Test.YtojolcpblacjjaaGreatDoorTrC
import Derived.Test.YtojolcpblacjjaaGreatDoorMq
set_option linter.unusedSimpArgs false
set_option linter.unusedVariables false
namespace Go.Dk
open Go Go.Tr Go.Eng
structure Itm where
 dir : Bool
 data : ByteArray
 kept : ByteArray
 loose : Bool
 anew : Bool
 stamp : Int
def Itm.val (x : Itm) : Value := .agg #[.bool x.dir, .string x.data, .string x.kept, .bool x.loose, .bool x.anew, .int .i64 x.stamp]
def Itm.hv (x : Itm) : HV := .agg [.v (.bool x.dir), .v (.string x.data), .v (.string x.kept), .v (.bool x.loose), .v (.bool x.anew), .v (.int .i64 x.stamp)]
def itm0 : Itm := ⟨false, ByteArray.empty, ByteArray.empty, false, false, 0⟩
def qQ2 : Itm := ⟨true, ByteArray.empty, ByteArray.empty, false, false, 0⟩
section
variable {α : Type}
def bC : List (ByteArray × α) → ByteArray → Option α
 | [], _ => none
 | (t, x) :: r, s => if t = s then some x else bC r s
def zG0 (a b : ByteArray) : Bool := Op.bytesLess a.data.toList b.data.toList
theorem zF (a b : ByteArray) : zG0 a b = blt a b := by rw [blt, zG0, Lib.toList_data, Lib.toList_data]
def put (s : ByteArray) (x : α) : List (ByteArray × α) → List (ByteArray × α)
 | [] => [(s, x)]
 | (t, y) :: r => if t = s then (s, x) :: r else if zG0 s t then (s, x) :: (t, y) :: r else (t, y) :: put s x r
def del (s : ByteArray) : List (ByteArray × α) → List (ByteArray × α)
 | [] => []
 | (t, y) :: r => if t = s then del s r else (t, y) :: del s r
theorem wA (s : ByteArray) (x : α) (u : ByteArray) : ∀ (L : List (ByteArray × α)), bC (put s x L) u = if u = s then some x else bC L u
 | [] => by
  simp only [put, bC]
  by_cases e : u = s
  ·subst e; simp
  ·rw [if_neg (fun h => e h.symm), if_neg e]
 | (t, y) :: r => by
  simp only [put]
  by_cases h1 : t = s
  ·subst h1
   rw [if_pos rfl]
   simp only [bC]
   by_cases e : t = u
   ·subst e; simp
   ·rw [if_neg e, if_neg (fun h => e h.symm), if_neg e]
  ·rw [if_neg h1]
   split
   ·simp only [bC]
    by_cases e : s = u
    ·subst e; simp
    ·rw [if_neg e, if_neg (show ¬ u = s from fun h => e h.symm)]
   ·simp only [bC]
    rw [wA s x u r]
    by_cases e : t = u
    ·subst e; simp [h1]
    ·rw [if_neg e, if_neg e]
theorem wB (s u : ByteArray) : ∀ (L : List (ByteArray × α)), bC (del s L) u = if u = s then none else bC L u
 | [] => by simp [del, bC]
 | (t, y) :: r => by
  simp only [del]
  by_cases h1 : t = s
  ·subst h1
   rw [if_pos rfl, wB t u r]
   simp only [bC]
   by_cases e : t = u
   ·subst e; simp
   ·rw [if_neg (fun h => e h.symm), if_neg (fun h => e h.symm), if_neg e]
  ·rw [if_neg h1]
   simp only [bC]
   rw [wB s u r]
   by_cases e : t = u
   ·subst e; simp [h1]
   ·rw [if_neg e, if_neg e]
def tab (f : α → Value) (L : List (ByteArray × α)) : MTab := fun s => (bC L (mkB s)).map f
theorem qC6 (f : α → Value) (L : List (ByteArray × α)) (s : ByteArray) : tab f L s.data.toList = (bC L s).map f := by rw [tab, gQ]
theorem qHp {q : List UInt8} {s : ByteArray} : mkB q = s ↔ q = s.data.toList := by
 constructor
 ·rintro rfl; rfl
 ·rintro rfl; exact gQ s
theorem qQb (f : α → Value) (L : List (ByteArray × α)) (s : ByteArray) (x : α) : (tab f L).put s.data.toList (f x) = tab f (put s x L) := by
 funext q
 simp only [MTab.put, tab, wA]
 by_cases e : q = s.data.toList
 ·rw [if_pos e, if_pos (qHp.2 e)]; rfl
 ·rw [if_neg e, if_neg (fun h => e (qHp.1 h))]
theorem qW3 (f : α → Value) (L : List (ByteArray × α)) (s : ByteArray) : (tab f L).del s.data.toList = tab f (del s L) := by
 funext q
 simp only [MTab.del, tab, wB]
 by_cases e : q = s.data.toList
 ·rw [if_pos e, if_pos (qHp.2 e)]; rfl
 ·rw [if_neg e, if_neg (fun h => e (qHp.1 h))]
end
def qSk (n : Int) : Value := .int .i64 n
theorem eH (L : List (ByteArray × Itm)) (s : ByteArray) : qDo ((tab Itm.val L s.data.toList).getD itm0.val) = ((bC L s).getD itm0).hv := by
 rw [qC6]
 cases bC L s <;> rfl
theorem lV (L : List (ByteArray × Itm)) (s : ByteArray) : (tab Itm.val L s.data.toList).isSome = (bC L s).isSome := by rw [qC6, Option.isSome_map]
theorem zCz (L : List (ByteArray × Int)) (s : ByteArray) : qDo ((tab qSk L s.data.toList).getD (.int .i64 0)) = .v (.int .i64 ((bC L s).getD 0)) := by
 rw [qC6]
 cases bC L s <;> rfl
theorem zCy (L : List (ByteArray × Int)) (s : ByteArray) : (tab qSk L s.data.toList).isSome = (bC L s).isSome := by rw [qC6, Option.isSome_map]
theorem eQ (x : Itm) : x.hv = .agg [.v (.bool x.dir), .v (.string x.data), .v (.string x.kept), .v (.bool x.loose), .v (.bool x.anew), .v (.int .i64 x.stamp)] := (fun h => h) rfl
structure Dk where
 L : List (ByteArray × Itm)
 R : List (ByteArray × Int)
 steps : Int
 stamps : Int
 armed : Int
 down : Bool
 n : Nat
 m : Nat
def Dk.new : Dk := ⟨[], [], 0, 0, -1, false, 0, 0⟩
def Dk.cells (d : Dk) (r1 r2 : Nat) : List HV := [.v (.map (some r1)), .v (.map (some r2)), .v (.int .i64 d.steps), .v (.int .i64 d.stamps), .v (.int .i64 d.armed), .v (.bool d.down)]
theorem bG (d : Dk) (r1 r2 : Nat) : d.cells r1 r2 = [.v (.map (some r1)), .v (.map (some r2)), .v (.int .i64 d.steps), .v (.int .i64 d.stamps), .v (.int .i64 d.armed), .v (.bool d.down)] := (fun h => h) rfl
def Dk.maps (d : Dk) (k r1 r2 : Nat) : MS := [.map r1 k d.n (tab Itm.val d.L), .map r2 k d.m (tab qSk d.R)]
def qDu (p : ByteArray) : Int := if p = { data := #[] } then 0 else (p.data.toList.count 47 : Nat) + 1
def may (d : Dk) (p : ByteArray) (names : Int) : Int := if d.down then 14 else if pOk p 6 = false ∨ qDu p ≤ names then 10 else 0
def aS (d : Dk) : Int × Dk := if d.armed = 0 then (14, { d with down := true, armed := -1 }) else (0, { d with armed := if 0 < d.armed then d.armed - 1 else d.armed, steps := d.steps + 1 })
def aQ (d : Dk) (p : ByteArray) : Itm := (bC d.L p).getD itm0
def has (d : Dk) (p : ByteArray) : Bool := (bC d.L p).isSome
def fA (d : Dk) (p : ByteArray) : Bool := decide (qDu p = 1) || (aQ d (par p)).dir
def iY (d : Dk) (p : ByteArray) (x : Itm) : Dk := { d with stamps := d.stamps + 1, L := put p { x with stamp := d.stamps + 1 } d.L, n := d.n + 1 }
def qBa : List UInt8 → Nat
 | [] => 0
 | c :: r => if c = 47 then 0 else qBa r + 1
def vol (p : ByteArray) : ByteArray := p.extract 0 (qBa p.data.toList)
def pX (v : ByteArray) : List (ByteArray × Itm) → Int
 | [] => 0
 | (p, x) :: r => (if vol p = v then (x.data.size : Int) else 0) + pX v r
def used (d : Dk) (v : ByteArray) : Int := pX v d.L
def iZ (d : Dk) (p : ByteArray) (more : Int) : Bool := match bC d.R (vol p) with
 | none => true
 | some n => decide (more ≤ 0) || decide (used d (vol p) + more ≤ n)
def dV (d : Dk) (p : ByteArray) : Int × Dk :=
 if may d p 0 ≠ 0 then (may d p 0, d) else if fA d p = false then (11, d) else if has d p = true ∧ (aQ d p).dir = false then (12, d) else
  if (aS d).1 ≠ 0 then aS d else (0, { (aS d).2 with L := put p qQ2 d.L, n := d.n + 1 })
def dN (d : Dk) (p s : ByteArray) : Int × Dk :=
 if may d p 1 ≠ 0 then (may d p 1, d) else if fA d p = false then (11, d) else if (aQ d p).dir = true then (12, d) else if iZ d p ((s.size : Int) - (aQ d p).data.size) = false then (13, d) else
  if (aS d).1 ≠ 0 then aS d else (0, iY (aS d).2 p { aQ d p with data := s, loose := true, anew := true })
def fE (d : Dk) (p : ByteArray) : Int := if may d p 1 ≠ 0 then may d p 1 else if has d p = false then 11 else if (aQ d p).dir = true then 12 else 0
def append (d : Dk) (p s : ByteArray) : Int × Dk :=
 if fE d p ≠ 0 then (fE d p, d) else if iZ d p s.size = false then (13, d) else if (aS d).1 ≠ 0 then aS d else
  (0, iY (aS d).2 p { aQ d p with data := (aQ d p).data ++ s, loose := true })
def nK (d : Dk) (p : ByteArray) : Int × Dk :=
 if fE d p ≠ 0 then (fE d p, d) else if (aS d).1 ≠ 0 then aS d else
  (0, { (aS d).2 with L := put p { aQ d p with kept := (aQ d p).data, loose := false, anew := false } d.L, n := d.n + 1 })
def dJ (d : Dk) (a b : ByteArray) : Int × Dk :=
 let e := if may d a 1 = 0 then may d b 1 else may d a 1
 if e ≠ 0 then (e, d) else
  let x := aQ d a
  let y := aQ d b
  let more : Int := if vol a = vol b then -(y.data.size : Int) else x.data.size - y.data.size
  if has d a = false ∨ fA d b = false then (11, d) else if x.dir = true ∨ y.dir = true then (12, d) else if a ≠ b ∧ iZ d b more = false then (13, d) else
   if (aS d).1 ≠ 0 then aS d else (0, iY { (aS d).2 with L := del a d.L } b x)
def dW (d : Dk) (v : ByteArray) (k : Int) : Int × Dk := if k < 0 then (1, d) else if pOk v 1 = false then (10, d) else (0, { d with R := put v k d.R, m := d.m + 1 })
def nX (d : Dk) (p : ByteArray) : ByteArray × Int := if d.down then (ByteArray.empty, 14) else if has d p = false then (ByteArray.empty, 11) else if (aQ d p).dir = true then (ByteArray.empty, 12) else ((aQ d p).data, 0)
def hZ (d : Dk) (p : ByteArray) : Int := if has d p = false then 0 else if (aQ d p).dir = true then 1 else 2
section
variable {α : Type}
def gW (L : List (ByteArray × α)) : Prop := L.Pairwise fun a b => blt a.1 b.1 = true
theorem qCb {s : ByteArray} {x : α} {e : ByteArray × α} : ∀ {L : List (ByteArray × α)}, e ∈ put s x L → e = (s, x) ∨ e ∈ L
 | [], h => by simp only [put, List.mem_singleton] at h; exact .inl h
 | (t, y) :: r, h => by
  simp only [put] at h
  split at h
  ·rcases List.mem_cons.1 h with h | h
   ·exact .inl h
   ·exact .inr (List.mem_cons_of_mem _ h)
  ·split at h
   ·rcases List.mem_cons.1 h with h | h
    ·exact .inl h
    ·exact .inr h
   ·rcases List.mem_cons.1 h with h | h
    ·exact .inr (by simp [h])
    ·rcases qCb h with h | h
     ·exact .inl h
     ·exact .inr (List.mem_cons_of_mem _ h)
theorem qFq {s : ByteArray} {e : ByteArray × α} : ∀ {L : List (ByteArray × α)}, e ∈ del s L → e ∈ L
 | [], h => by simp [del] at h
 | (t, y) :: r, h => by
  simp only [del] at h
  split at h
  ·exact List.mem_cons_of_mem _ (qFq h)
  ·rcases List.mem_cons.1 h with h | h
   ·simp [h]
   ·exact List.mem_cons_of_mem _ (qFq h)
theorem vL (s : ByteArray) (x : α) : ∀ {L : List (ByteArray × α)}, gW L → gW (put s x L)
 | [], _ => by simp [put, gW]
 | (t, y) :: r, h => by
  obtain ⟨h1, h2⟩ := List.pairwise_cons.1 h
  simp only [put]
  split
  ·rename_i e; subst e
   exact List.pairwise_cons.2 ⟨h1, h2⟩
  ·rename_i hne
   split
   ·rename_i hb
    refine List.pairwise_cons.2 ⟨fun e he => ?_, h⟩
    rw [zF] at hb
    rcases List.mem_cons.1 he with rfl | he
    ·exact hb
    ·exact tL hb (h1 e he)
   ·rename_i hb
    rw [zF] at hb
    refine List.pairwise_cons.2 ⟨fun e he => ?_, vL s x h2⟩
    rcases qCb he with rfl | he
    ·rcases qFu t s with h | h | h
     ·exact h
     ·exact absurd h hne
     ·exact absurd h hb
    ·exact h1 e he
theorem qBt (s : ByteArray) : ∀ {L : List (ByteArray × α)}, gW L → gW (del s L)
 | [], _ => by simp [del, gW]
 | (t, y) :: r, h => by
  obtain ⟨h1, h2⟩ := List.pairwise_cons.1 h
  simp only [del]
  split
  ·exact qBt s h2
  ·exact List.pairwise_cons.2 ⟨fun e he => h1 e (qFq he), qBt s h2⟩
theorem jL {s : ByteArray} {x : α} : ∀ {L : List (ByteArray × α)}, bC L s = some x → (s, x) ∈ L
 | [], h => by simp [bC] at h
 | (t, y) :: r, h => by
  simp only [bC] at h
  split at h
  ·rename_i e; subst e
   simp only [Option.some.injEq] at h
   simp [h]
  ·exact List.mem_cons_of_mem _ (jL h)
theorem nB {s : ByteArray} {x : α} : ∀ {L : List (ByteArray × α)}, gW L → (s, x) ∈ L → bC L s = some x
 | [], _, h => by simp at h
 | (t, y) :: r, hR, h => by
  obtain ⟨h1, h2⟩ := List.pairwise_cons.1 hR
  simp only [bC]
  rcases List.mem_cons.1 h with h | h
  ·cases h; rw [if_pos rfl]
  ·rw [if_neg (fun e => by subst e; have := h1 _ h; rw [lE] at this; cases this)]
   exact nB h2 h
end
theorem qQ3 (x : Itm) : qDo x.val = x.hv := rfl
def tot : List (ByteArray × Itm) → Int
 | [] => 0
 | (_, x) :: r => (x.data.size : Int) + tot r
def kG (left : List UInt8 → Bool) (v : ByteArray) : List (ByteArray × Itm) → Int
 | [] => 0
 | (p, x) :: r => (if left p.data.toList = false ∧ vol p = v then (x.data.size : Int) else 0) + kG left v r
theorem qAu : ∀ L, 0 ≤ tot L
 | [] => Int.le_refl _
 | (_, x) :: r => by have := qAu r; rw [tot]; omega
theorem qBc (left : List UInt8 → Bool) (v : ByteArray) : ∀ L, 0 ≤ kG left v L ∧ kG left v L ≤ tot L
 | [] => ⟨Int.le_refl _, Int.le_refl _⟩
 | (p, x) :: r => by
  have := qBc left v r
  rw [kG, tot]
  split <;> omega
theorem qF3 {left : List UInt8 → Bool} (v : ByteArray) : ∀ {L : List (ByteArray × Itm)}, (∀ e ∈ L, left e.1.data.toList = true) → kG left v L = 0
 | [], _ => rfl
 | (p, x) :: r, h => by
  rw [kG, qF3 v fun e he => h e (List.mem_cons_of_mem _ he), if_neg (by simp [h (p, x) (by simp)])]; rfl
theorem qC5 {left : List UInt8 → Bool} (v : ByteArray) (h : ∀ s, left s = false) : ∀ (L : List (ByteArray × Itm)), kG left v L = pX v L
 | [] => rfl
 | (p, x) :: r => by
  rw [kG, pX, qC5 v h r]
  simp [h]
theorem qLc {a b : ByteArray} (h : a.data.toList = b.data.toList) : a = b := by rw [← gQ a, ← gQ b, h]
theorem qF2 {left : List UInt8 → Bool} {s v : ByteArray} : ∀ {L : List (ByteArray × Itm)}, (∀ e ∈ L, e.1 ≠ s) → kG (fun q => left q && !(q == s.data.toList)) v L = kG left v L
 | [], _ => rfl
 | (p, x) :: r, h => by
  rw [kG, kG, qF2 fun e he => h e (List.mem_cons_of_mem _ he)]
  have : (p.data.toList == s.data.toList) = false := beq_eq_false_iff_ne.2 fun e => h (p, x) (by simp) (qLc e)
  simp [this]
theorem qF1 {left : List UInt8 → Bool} {s v : ByteArray} {x : Itm} (hl : left s.data.toList = true) : ∀ {L : List (ByteArray × Itm)}, gW L → (s, x) ∈ L →
  kG (fun q => left q && !(q == s.data.toList)) v L = kG left v L + (if vol s = v then (x.data.size : Int) else 0)
 | [], _, h => by simp at h
 | (p, y) :: r, hR, h => by
  obtain ⟨h1, h2⟩ := List.pairwise_cons.1 hR
  rw [kG, kG]
  by_cases e : p = s
  ·subst e
   have hm : (p, x) = (p, y) := by
    rcases List.mem_cons.1 h with h | h
    ·exact h
    ·have := h1 _ h; rw [lE] at this; cases this
   cases hm
   rw [qF2 fun e he => fun e' => by have := h1 e he; rw [e', lE] at this; cases this]
   simp [hl]
   omega
  ·have hm : (s, x) ∈ r := by
    rcases List.mem_cons.1 h with h | h
    ·cases h; exact absurd rfl e
    ·exact h
   rw [qF1 hl h2 hm]
   have : (p.data.toList == s.data.toList) = false := beq_eq_false_iff_ne.2 fun e' => e (qLc e')
   simp [this]
   omega
theorem qW1 {s : ByteArray} {x : Itm} : ∀ {L : List (ByteArray × Itm)}, (s, x) ∈ L → (x.data.size : Int) ≤ tot L
 | [], h => by simp at h
 | (p, y) :: r, h => by
  have := qAu r
  rcases List.mem_cons.1 h with h | h
  ·cases h; rw [tot]; omega
  ·have := qW1 h; rw [tot]; omega
theorem jM (d : Dk) (p : ByteArray) : ((aQ d p).data.size : Int) ≤ tot d.L := by
 unfold aQ
 cases h : bC d.L p with
 | none => exact qAu _
 | some x => exact qW1 (jL h)
structure Dk.Ok (d : Dk) (B : Int) : Prop where
 rise : gW d.L
 keys : ∀ e ∈ d.L, e.1.size ≤ 1048576
 size : tot d.L ≤ B
 n : (d.n : Int) ≤ B
 m : (d.m : Int) ≤ B
 steps : 0 ≤ d.steps ∧ d.steps ≤ B
 stamps : 0 ≤ d.stamps ∧ d.stamps ≤ B
 armed : -1 ≤ d.armed ∧ d.armed ≤ 9223372036854775807
end Go.Dk
