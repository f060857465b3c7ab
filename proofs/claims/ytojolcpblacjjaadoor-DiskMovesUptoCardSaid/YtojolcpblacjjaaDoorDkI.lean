/-
  Plain: what puts and calls do to a disk's bounds and to its volumes' bytes; a volume that fills up.
-/
import Derived.Test.YtojolcpblacjjaaDoorDk
import Derived.KernelRfl
set_option linter.unusedSimpArgs false
set_option linter.unusedVariables false
namespace Go.Dk
open Go Go.Tr Go.Eng
theorem lookD_none {α : Type} {p t : ByteArray} {y : α} {r : List (ByteArray × α)} (h : Rise ((t, y) :: r)) (hb : blt p t = true) : lookD ((t, y) :: r) p = none := by
 cases e : lookD ((t, y) :: r) p with
 | none => rfl
 | some x =>
  have hm := lookD_mem e
  obtain ⟨h1, h2⟩ := List.pairwise_cons.1 h
  rcases List.mem_cons.1 hm with hm | hm
  ·cases hm; rw [blt_irr] at hb; cases hb
  ·have := blt_trans hb (h1 _ hm); rw [blt_irr] at this; cases this
theorem usedL_put (v p : ByteArray) (x : Itm) : ∀ {L : List (ByteArray × Itm)}, Rise L → usedL v (put p x L) = usedL v L + (if vol p = v then (x.data.size : Int) - ((lookD L p).getD itm0).data.size else 0)
 | [], _ => by
  simp only [put, usedL, lookD, Option.getD]
  have : itm0.data.size = 0 := rfl
  split <;> simp [this]
 | (t, y) :: r, h => by
  obtain ⟨h1, h2⟩ := List.pairwise_cons.1 h
  simp only [put]
  by_cases e : t = p
  ·subst e
   rw [if_pos rfl]
   have e0 : lookD ((t, y) :: r) t = some y := by simp [lookD]
   rw [e0, usedL, usedL]
   show _ = _ + (if vol t = v then (x.data.size : Int) - y.data.size else 0)
   split <;> omega
  ·rw [if_neg e]
   split
   ·rename_i hb
    rw [bltD_eq] at hb
    rw [lookD_none h hb, usedL]
    have : ((none : Option Itm).getD itm0).data.size = 0 := rfl
    rw [this]
    split <;> omega
   ·rw [usedL, usedL, usedL_put v p x h2]
    simp only [lookD, if_neg e]
    omega
theorem tot_put (p : ByteArray) (x : Itm) : ∀ {L : List (ByteArray × Itm)}, Rise L → tot (put p x L) = tot L + x.data.size - ((lookD L p).getD itm0).data.size
 | [], _ => by
  simp only [put, tot, lookD, Option.getD]
  have : itm0.data.size = 0 := rfl
  omega
 | (t, y) :: r, h => by
  obtain ⟨h1, h2⟩ := List.pairwise_cons.1 h
  simp only [put]
  by_cases e : t = p
  ·subst e
   rw [if_pos rfl]
   have e0 : lookD ((t, y) :: r) t = some y := by simp [lookD]
   rw [e0, tot, tot]
   show _ = _ + (x.data.size : Int) - (y.data.size : Nat)
   omega
  ·rw [if_neg e]
   split
   ·rename_i hb
    rw [bltD_eq] at hb
    rw [lookD_none h hb, tot]
    have : ((none : Option Itm).getD itm0).data.size = 0 := rfl
    omega
   ·rw [tot, tot, tot_put p x h2]
    simp only [lookD, if_neg e]
    omega
theorem ok_mono {d : Dk} {B B' : Int} (h : d.Ok B) (hB : B ≤ B') : d.Ok B' :=
 ⟨h.rise, h.keys, Int.le_trans h.size hB, Int.le_trans h.n hB, Int.le_trans h.m hB, ⟨h.steps.1, Int.le_trans h.steps.2 hB⟩, ⟨h.stamps.1, Int.le_trans h.stamps.2 hB⟩, h.armed⟩
theorem ok_step {d : Dk} {B : Int} (h : d.Ok B) : (stepD d).2.Ok (B + 1) := by
 have h1 := h.steps
 have h2 := h.stamps
 have h3 := h.armed
 have h4 := h.size
 have h5 := h.n
 have h6 := h.m
 unfold stepD
 split
 ·exact ⟨h.rise, h.keys, by dsimp only; omega, by dsimp only; omega, by dsimp only; omega, by dsimp only; omega, by dsimp only; omega, by dsimp only; omega⟩
 ·refine ⟨h.rise, h.keys, by dsimp only; omega, by dsimp only; omega, by dsimp only; omega, by dsimp only; omega, by dsimp only; omega, ?_⟩
  dsimp only
  split <;> omega
theorem ok_set {d : Dk} {B : Int} (h : d.Ok B) {p : ByteArray} {x : Itm} (hp : p.size ≤ 1048576) (hx : x.data.size ≤ (item d p).data.size + 1048576) : (setD d p x).Ok (B + 1048576) := by
 have h1 := h.steps
 have h2 := h.stamps
 have h3 := h.armed
 have h4 := h.size
 have h5 := h.n
 have h6 := h.m
 have ht := tot_put p { x with stamp := d.stamps + 1 } h.rise
 refine ⟨rise_put _ _ h.rise, fun e he => ?_, ?_, by show ((d.n + 1 : Nat) : Int) ≤ _; omega, by show (d.m : Int) ≤ _; omega, by show 0 ≤ d.steps ∧ d.steps ≤ _; omega, by show 0 ≤ d.stamps + 1 ∧ d.stamps + 1 ≤ _; omega, h3⟩
 ·rcases mem_put he with rfl | he
  ·exact hp
  ·exact h.keys e he
 ·show tot (put p _ d.L) ≤ _
  rw [ht]
  have : ((lookD d.L p).getD itm0).data.size = (item d p).data.size := rfl
  rw [this]
  show tot d.L + (x.data.size : Int) - _ ≤ _
  omega
theorem item_step (d : Dk) (p : ByteArray) : item (stepD d).2 p = item d p := by unfold item stepD; split <;> rfl
theorem ok_write {d : Dk} {B : Int} (h : d.Ok B) {p s : ByteArray} (hp : p.size ≤ 1048576) (hs : s.size ≤ 1048576) : (write d p s).2.Ok (B + 1048577) := by
 have h0 := ok_mono h (B' := B + 1048577) (by omega)
 have h1 := ok_mono (ok_step h) (B' := B + 1048577) (by omega)
 have h2 := ok_mono (ok_set (ok_step h) (p := p) (x := { item d p with data := s, loose := true, anew := true }) hp (by rw [item_step]; show s.size ≤ _; omega)) (B' := B + 1048577) (by omega)
 simp only [write]
 (repeat' split) <;> first | exact h0 | exact h1 | exact h2
theorem item_set (d : Dk) (p : ByteArray) (x : Itm) (q : ByteArray) : item (setD d p x) q = if q = p then { x with stamp := d.stamps + 1 } else item d q := by
 show (lookD (put p _ d.L) q).getD itm0 = _
 rw [look_put]
 split <;> rfl
theorem has_set (d : Dk) (p : ByteArray) (x : Itm) (q : ByteArray) : has (setD d p x) q = (decide (q = p) || has d q) := by
 show (lookD (put p _ d.L) q).isSome = _
 rw [look_put]
 by_cases e : q = p
 ·rw [if_pos e]; simp [e]
 ·rw [if_neg e]; simp [e, has]
def tV : ByteArray := { data := #[118] }
def tW : ByteArray := { data := #[119] }
structure NameOk (p : ByteArray) : Prop where
 ok : pOk p 6 = true
 deep : deep p = 2
 par : par p = tV
 vol : vol p = tV
 ne : p ≠ tV
 size : p.size ≤ 1048576
structure Fi (d : Dk) (n : Int) : Prop where
 down : d.down = false
 armed : d.armed = -1
 rooms : d.R = [(tV, n)]
 home : (item d tV).dir = true
 file : ∀ p, NameOk p → (item d p).dir = false
 used : used d tV ≤ n
 other : Go.Dk.used d tW = 4
theorem fi_may {d : Dk} {n : Int} (h : Fi d n) {p : ByteArray} (hp : NameOk p) : may d p 1 = 0 := by
 unfold may
 rw [h.down, hp.ok, hp.deep]; decide
theorem fi_write {d : Dk} {n : Int} (h : Fi d n) {B : Int} (hO : d.Ok B) {p : ByteArray} (hp : NameOk p) (s : ByteArray) :
  (write d p s = (13, d) ∧ ¬ ((s.size : Int) - (item d p).data.size ≤ 0) ∧ n < used d tV + ((s.size : Int) - (item d p).data.size)) ∨
  ∃ d', write d p s = (0, d') ∧ Fi d' n ∧ readD d' p = (s, 0) ∧ used d' tV = used d tV + ((s.size : Int) - (item d p).data.size) := by
 have h1 := fi_may h hp
 have h2 : under d p = true := by simp [under, hp.par, h.home]
 have h3 := h.file p hp
 have h4 : room d p ((s.size : Int) - (item d p).data.size) = (decide ((s.size : Int) - (item d p).data.size ≤ 0) || decide (used d tV + ((s.size : Int) - (item d p).data.size) ≤ n)) := by
  unfold room
  rw [hp.vol, h.rooms]
  rfl
 have h5 : (stepD d) = (0, { d with steps := d.steps + 1 }) := by
  unfold stepD
  rw [h.armed]
  have := h.armed
  cases d
  simp_all
 cases h6 : room d p ((s.size : Int) - (item d p).data.size) with
 | false =>
  left
  rw [h4] at h6
  simp only [Bool.or_eq_false_iff, decide_eq_false_iff_not] at h6
  exact ⟨by simp [write, h1, h2, h3, h4, h6.1, h6.2], h6.1, by omega⟩
 | true =>
  right
  have hw : write d p s = (0, setD { d with steps := d.steps + 1 } p { item d p with data := s, loose := true, anew := true }) := by simp [write, h1, h2, h3, h6, h5]
  have hu : ∀ v, used (setD { d with steps := d.steps + 1 } p { item d p with data := s, loose := true, anew := true }) v = used d v + (if tV = v then (s.size : Int) - (item d p).data.size else 0) := fun v => by
   have := usedL_put v p { item d p with data := s, loose := true, anew := true, stamp := d.stamps + 1 } hO.rise
   rw [hp.vol] at this
   exact this
  have huV := hu tV
  rw [if_pos rfl] at huV
  have huW := hu tW
  rw [if_neg (by decide)] at huW
  refine ⟨_, hw, ⟨h.down, h.armed, h.rooms, ?_, fun q hq => ?_, ?_, by rw [huW, h.other]; rfl⟩, ?_, huV⟩
  ·rw [item_set, if_neg (Ne.symm hp.ne)]; exact h.home
  ·rw [item_set]
   split
   ·exact h3
   ·exact h.file q hq
  ·rw [huV]
   rw [h4] at h6
   simp only [Bool.or_eq_true, decide_eq_true_eq] at h6
   have := h.used
   omega
  ·unfold readD
   rw [has_set, item_set]
   have hdn : (setD { d with steps := d.steps + 1 } p { item d p with data := s, loose := true, anew := true }).down = false := h.down
   rw [hdn]
   simp [h3]
end Go.Dk
