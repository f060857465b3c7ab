/-
  The reference's disk: its rows; where a path stands; an aP put, dropped: plain.
-/
import Derived.Test.YtojolcpblacjjaaGreatDoorDkB
set_option linter.unusedSimpArgs false
set_option linter.unusedVariables false
namespace Go.Dk
open Go Go.Tr Go.Eng
def zG1 (e : ByteArray × Itm) : List FV := [.v (.string e.1), .v (.bool e.2.dir), .v (.string e.2.data), .v (.string e.2.kept), .v (.bool e.2.loose), .v (.bool e.2.anew), .v (.int .i64 e.2.stamp)]
def zG0 (e : ByteArray × Int) : List FV := [.v (.string e.1), .v (.int .i64 e.2)]
abbrev LI := List (ByteArray × Itm)
abbrev LN := List (ByteArray × Int)
def dT (L : LI) : List (List FV) := L.map zG1
def rms (R : LN) : List (List FV) := R.map zG0
theorem bG (L : LI) : (dT L).length = L.length := List.length_map _
theorem fU (R : LN) : (rms R).length = R.length := List.length_map _
theorem bX (L : LI) : Wid 7 (dT L) = True := eq_true (qDn L fun _ => rfl)
theorem kA (R : LN) : Wid 2 (rms R) = True := eq_true (qDn R fun _ => rfl)
theorem cA {L : LI} {i : Nat} {d : List FV} (h : i < L.length) : (dT L).getD i d = [.v (.string L[i].1), .v (.bool L[i].2.dir), .v (.string L[i].2.data), .v (.string L[i].2.kept), .v (.bool L[i].2.loose), .v (.bool L[i].2.anew), .v (.int .i64 L[i].2.stamp)] := by unfold dT; rw [pN h]; rfl
theorem lJ {R : LN} {i : Nat} {d : List FV} (h : i < R.length) : (rms R).getD i d = [.v (.string R[i].1), .v (.int .i64 R[i].2)] := by unfold rms; rw [pN h]; rfl
theorem qRl (L : LI) : mK (dT L) = dT L := by
 unfold mK dT; rw [List.map_map]; apply List.map_congr_left; intro s _; simp [zG1, FV.old]
theorem qV6 (R : LN) : mK (rms R) = rms R := by
 unfold mK rms; rw [List.map_map]; apply List.map_congr_left; intro s _; simp [zG0, FV.old]
theorem qN (L : LI) (e : ByteArray × Itm) : dT L ++ [[.v (.string e.1), .v (.bool e.2.dir), .v (.string e.2.data), .v (.string e.2.kept), .v (.bool e.2.loose), .v (.bool e.2.anew), .v (.int .i64 e.2.stamp)]] = dT (L ++ [e]) := by simp [dT, zG1]
theorem zA8 (R : LN) (p : ByteArray) (k : Int) : rms R ++ [[.v (.string p), .v (.int .i64 k)]] = rms (R ++ [(p, k)]) := by simp [rms, zG0]
section
variable {α : Type}
def plc (p : ByteArray) : List (ByteArray × α) → Option Nat
 | [] => none
 | e :: r => if e.1 = p then some 0 else (plc p r).map (· + 1)
def zBq (p : ByteArray) (L : List (ByteArray × α)) : Int := match plc p L with
 | some i => i
 | none => -1
theorem sB {p : ByteArray} : ∀ {L : List (ByteArray × α)} {i : Nat}, plc p L = some i → ∃ h : i < L.length, L[i].1 = p ∧ aT L p = some L[i].2
 | [], i, h => by cases h
 | e :: r, i, h => by
  rw [plc] at h
  split at h
  ·rename_i he
   cases h
   exact ⟨by simp, he, by simp [aT, he]⟩
  ·rename_i he
   cases hr : plc p r with
   | none => rw [hr] at h; cases h
   | some j =>
    rw [hr] at h
    cases h
    obtain ⟨a, b, c⟩ := sB hr
    exact ⟨by simp; omega, by simpa using b, by simp [aT, he, c]⟩
theorem oW {p : ByteArray} : ∀ {L : List (ByteArray × α)}, plc p L = none → aT L p = none ∧ ∀ e ∈ L, e.1 ≠ p
 | [], h => ⟨rfl, fun e he => by cases he⟩
 | e :: r, h => by
  rw [plc] at h
  split at h
  ·cases h
  ·rename_i he
   cases hr : plc p r with
   | some j => rw [hr] at h; cases h
   | none =>
    obtain ⟨a, b⟩ := oW hr
    exact ⟨by simp [aT, he, a], fun x hx => by rcases List.mem_cons.1 hx with rfl | hx; exact he; exact b x hx⟩
theorem qFh {p : ByteArray} : ∀ {L : List (ByteArray × α)} {i : Nat} (hi : i < L.length), (∀ k (h : k < L.length), k < i → L[k].1 ≠ p) → L[i].1 = p → plc p L = some i
 | [], i, hi, _, _ => by simp at hi
 | e :: r, 0, hi, _, h => by rw [plc, if_pos (by simpa using h)]
 | e :: r, i + 1, hi, hn, h => by
  have h0 := hn 0 (by simp) (by omega)
  rw [plc, if_neg (by simpa using h0), qFh (L := r) (i := i) (by simpa using hi) (fun k hk hlt => by have := hn (k + 1) (by simpa using hk) (by omega); simpa using this) (by simpa using h)]
  rfl
theorem qPd {p : ByteArray} : ∀ {L : List (ByteArray × α)}, (∀ k (h : k < L.length), L[k].1 ≠ p) → plc p L = none
 | [], _ => rfl
 | e :: r, h => by
  have h0 := h 0 (by simp)
  rw [plc, if_neg (by simpa using h0), qPd (L := r) (fun k hk => by have := h (k + 1) (by simpa using hk); simpa using this)]
  rfl
theorem qWk (p : ByteArray) (L : List (ByteArray × α)) : (aT L p).isSome = (plc p L).isSome := by
 cases h : plc p L with
 | none => rw [(oW h).1]; rfl
 | some i => obtain ⟨_, _, e⟩ := sB h; rw [e]; rfl
def less (p : ByteArray) : List (ByteArray × α) → Nat
 | [] => 0
 | e :: r => if blt e.1 p = true then less p r + 1 else 0
theorem qPj (p : ByteArray) : ∀ (L : List (ByteArray × α)), less p L ≤ L.length
 | [] => Nat.le_refl _
 | e :: r => by
  have := qPj p r
  rw [less]
  split <;> simp only [List.length_cons] <;> omega
theorem qRe (p : ByteArray) : ∀ (L : List (ByteArray × α)) (k : Nat) (h : k < L.length), k < less p L → blt L[k].1 p = true
 | [], k, h, _ => by simp at h
 | e :: r, 0, h, hl => by
  rw [less] at hl
  split at hl
  ·rename_i he; exact he
  ·omega
 | e :: r, k + 1, h, hl => by
  rw [less] at hl
  split at hl
  ·exact qRe p r k (by simpa using h) (by omega)
  ·omega
theorem qLj (p : ByteArray) : ∀ (L : List (ByteArray × α)) (h : less p L < L.length), blt (L[less p L]'h).1 p = false
 | [], h => by simp at h
 | e :: r, h => by
  by_cases he : blt e.1 p = true
  ·have e1 : less p (e :: r) = less p r + 1 := by rw [less, if_pos he]
   have h' : less p r < r.length := by rw [e1] at h; simpa using h
   have := qLj p r h'
   simp only [e1, List.getElem_cons_succ]
   exact this
  ·have e1 : less p (e :: r) = 0 := by rw [less, if_neg he]
   simp only [e1, List.getElem_cons_zero]
   simpa using he
def fT (p : ByteArray) (L : List (ByteArray × α)) : Nat := match L[less p L]? with
 | some e => if e.1 = p then 1 else 0
 | none => 0
theorem qKy (p : ByteArray) (x : α) : ∀ {L : List (ByteArray × α)}, gJ L → put p x L = L.take (less p L) ++ (p, x) :: L.drop (less p L + fT p L)
 | [], _ => rfl
 | (t, y) :: r, h => by
  obtain ⟨h1, h2⟩ := List.pairwise_cons.1 h
  by_cases e : t = p
  ·subst e
   have el : less t ((t, y) :: r) = 0 := by rw [less, if_neg (by simp [kE])]
   have es : fT t ((t, y) :: r) = 1 := by rw [fT, el]; simp
   rw [el, es]
   simp [put]
  ·rw [put, if_neg e, tS]
   by_cases hb : blt p t = true
   ·have hn : ¬ blt t p = true := fun h => by have := lY h; rw [hb] at this; cases this
    have el : less p ((t, y) :: r) = 0 := by rw [less, if_neg hn]
    have es : fT p ((t, y) :: r) = 0 := by rw [fT, el]; simp [e]
    rw [if_pos hb, el, es]
    simp
   ·have hl : blt t p = true := by
     rcases qDt t p with h | h | h
     ·exact h
     ·exact absurd h e
     ·exact absurd h hb
    have el : less p ((t, y) :: r) = less p r + 1 := by rw [less, if_pos hl]
    have es : fT p ((t, y) :: r) = fT p r := by rw [fT, fT, el]; simp
    rw [if_neg hb, el, es, qKy p x h2, show less p r + 1 + fT p r = (less p r + fT p r) + 1 by omega]
    simp
theorem wQ (p : ByteArray) : ∀ (L : List (ByteArray × α)), del p L = L.filter fun e => decide (e.1 ≠ p)
 | [] => rfl
 | (t, y) :: r => by
  rw [del, wQ p r]
  by_cases e : t = p
  ·rw [if_pos e]; simp [e]
  ·rw [if_neg e]; simp [e]
theorem zD7 (p : ByteArray) {L : List (ByteArray × α)} {i : Nat} (h : i < L.length) : del p (L.take (i + 1)) = if L[i].1 = p then del p (L.take i) else del p (L.take i) ++ [L[i]] := by
 rw [wQ, wQ, List.take_succ_eq_append_getElem h, List.filter_append]
 by_cases e : L[i].1 = p
 ·rw [if_pos e]; simp [e]
 ·rw [if_neg e]; simp [e]
theorem qDr (p : ByteArray) : ∀ (L : List (ByteArray × α)), (del p L).length ≤ L.length
 | [] => Nat.le_refl _
 | (t, y) :: r => by
  have := qDr p r
  rw [del]
  split <;> simp only [List.length_cons] <;> omega
end
theorem qNb : ∀ (l : List UInt8), ∃ r, iP l = l.take (wW l) :: r
 | [] => ⟨[], rfl⟩
 | c :: l => by
  obtain ⟨r, h⟩ := qNb l
  by_cases e : c = 47
  ·subst e
   exact ⟨iP l, by rw [gH, wW, if_pos rfl]; rfl⟩
  ·exact ⟨r, by rw [iN e h, wW, if_neg e]; rfl⟩
theorem qUr (p : ByteArray) : ∃ r, parts p = vol p :: r := by
 obtain ⟨r, h⟩ := qNb p.data.toList
 refine ⟨r.map mkB, ?_⟩
 rw [parts, h, List.map_cons]
 congr 1
 rw [vol]
 conv => rhs; rw [← gC (p.extract 0 _)]
 rw [Lib.extract_from_zero]
theorem qTi : ∀ (l : List UInt8), (iP l).length = l.count 47 + 1
 | [] => rfl
 | c :: l => by
  have ih := qTi l
  by_cases e : c = 47
  ·subst e
   rw [gH, List.count_cons_self, List.length_cons, ih]
  ·obtain ⟨a, t, h⟩ : ∃ a t, iP l = a :: t := by
    cases h : iP l with
    | nil => exact absurd h (tQ l)
    | cons a t => exact ⟨a, t, rfl⟩
   rw [iN e h, List.count_cons_of_ne e, ← ih, h]; rfl
theorem qA4 (p : ByteArray) : (parts p).length = p.data.toList.count 47 + 1 := by rw [parts, List.length_map, qTi]
theorem qJu {p : ByteArray} {k : Int} (h : pOk p k = true) : qBx p = (parts p).length := by
 rw [qBx, if_neg (show ¬ p = { data := #[] } from qUs h), qA4]; rfl
theorem zJz (d : Dk) (p : ByteArray) (k : Int) : may d p k = if d.down = true then 14 else if pOk p 6 = false then 10 else if ((parts p).length : Int) ≤ k then 10 else 0 := by
 unfold may
 cases d.down with
 | true => rfl
 | false =>
  simp only [Bool.false_eq_true, if_false]
  cases h : pOk p 6 with
  | false => simp
  | true => rw [qJu h]; simp
end Go.Dk
