/-
  Plain: what puts and calls do to a disk's bounds and to its volumes' bytes; a volume that fills up.
-/
import Derived.Test.YtojolcpblacjjaaDoorDk
import Derived.KernelRfl
set_option linter.unusedSimpArgs false
set_option linter.unusedVariables false
namespace Go.Dk
open Go Go.Tr Go.Eng
theorem lookD_none {α : Type} {p t : ByteArray} {y : α} {r : List (ByteArray × α)} (h : Rise ((t, y) :: r)) (hb : blt p t = true) : lookD ((t, y) :: r) p = none := by
 cases e : lookD ((t, y) :: r) p with
 | none => rfl
 | some x =>
  have hm := lookD_mem e
  obtain ⟨h1, h2⟩ := List.pairwise_cons.1 h
  rcases List.mem_cons.1 hm with hm | hm
  ·cases hm; rw [blt_irr] at hb; cases hb
  ·have := blt_trans hb (h1 _ hm); rw [blt_irr] at this; cases this
theorem tot_put (p : ByteArray) (x : Itm) : ∀ {L : List (ByteArray × Itm)}, Rise L → tot (put p x L) = tot L + x.data.size - ((lookD L p).getD itm0).data.size
 | [], _ => by
  simp only [put, tot, lookD, Option.getD]
  have : itm0.data.size = 0 := rfl
  omega
 | (t, y) :: r, h => by
  obtain ⟨h1, h2⟩ := List.pairwise_cons.1 h
  simp only [put]
  by_cases e : t = p
  ·subst e
   rw [if_pos rfl]
   have e0 : lookD ((t, y) :: r) t = some y := by simp [lookD]
   rw [e0, tot, tot]
   show _ = _ + (x.data.size : Int) - (y.data.size : Nat)
   omega
  ·rw [if_neg e]
   split
   ·rename_i hb
    rw [bltD_eq] at hb
    rw [lookD_none h hb, tot]
    have : ((none : Option Itm).getD itm0).data.size = 0 := rfl
    omega
   ·rw [tot, tot, tot_put p x h2]
    simp only [lookD, if_neg e]
    omega
theorem ok_mono {d : Dk} {B B' : Int} (h : d.Ok B) (hB : B ≤ B') : d.Ok B' :=
 ⟨h.rise, h.keys, Int.le_trans h.size hB, Int.le_trans h.n hB, Int.le_trans h.m hB, ⟨h.steps.1, Int.le_trans h.steps.2 hB⟩, ⟨h.stamps.1, Int.le_trans h.stamps.2 hB⟩, h.armed⟩
theorem item_set (d : Dk) (p : ByteArray) (x : Itm) (q : ByteArray) : item (setD d p x) q = if q = p then { x with stamp := d.stamps + 1 } else item d q := by
 show (lookD (put p _ d.L) q).getD itm0 = _
 rw [look_put]
 split <;> rfl
def tV : ByteArray := { data := #[118] }
def tW : ByteArray := { data := #[119] }
structure NameOk (p : ByteArray) : Prop where
 ok : pOk p 6 = true
 deep : deep p = 2
 par : par p = tV
 vol : vol p = tV
 ne : p ≠ tV
 size : p.size ≤ 1048576
structure Fi (d : Dk) (n : Int) : Prop where
 down : d.down = false
 armed : d.armed = -1
 rooms : d.R = [(tV, n)]
 home : (item d tV).dir = true
 file : ∀ p, NameOk p → (item d p).dir = false
 used : used d tV ≤ n
 other : Go.Dk.used d tW = 4
end Go.Dk
