/-
  Regions that draw their order, appends to rows of one's own among their heads.
-/
import Derived.Test.YtdfjeokjmigkaaaGreatUpt
import Derived.Test.YtdfjeokjmigkaaaGreatGd
import Derived.Test.YtdfjeokjmigkaaaGreatTrD
section
set_option linter.unusedVariables false
set_option linter.unusedSimpArgs false
namespace Go.Proofs.YtdfjeokjmigkaaaGreat
open Go Go.Eng Go.RowKit Go.ChangeShapes Go.WideShapes Go.ChangeAt Go.Tr
theorem fit_ents {b : Nat} {f : FV} (h : Fit (.sl b [.str, .int .i64, .str]) f) : ∃ t : List Ent, f = .lst false (ents t) ∧ True := by
 cases h with
 | sl hb hl h =>
  rename_i xs
  have : ∀ x ∈ xs, ∃ e : Ent, x = entF e := fun x hx => by
   have h1 := hl x hx
   match x, h1 with
   | [f0, f1, f2], _ =>
   have a := h _ hx 0 (by simp) (by simp)
   have b := h _ hx 1 (by simp) (by simp)
   have c := h _ hx 2 (by simp) (by simp)
   simp only [List.getElem_cons_zero, List.getElem_cons_succ] at a b c
   cases a; cases b; cases c
   exact ⟨(_, _, _), rfl⟩
  clear hb hl h
  induction xs with
  | nil => exact ⟨[], rfl, trivial⟩
  | cons x r ih =>
   obtain ⟨e, rfl⟩ := this x (by simp)
   obtain ⟨t, ht, -⟩ := ih (fun y hy => this y (by simp [hy]))
   simp only [FV.lst.injEq, true_and] at ht
   exact ⟨e :: t, by rw [ht]; rfl, trivial⟩
theorem fw_ents (t : List Ent) : t.length ≤ fw (.lst false (ents t)) ∧ ∀ e ∈ t, e.1.size ≤ fw (.lst false (ents t)) ∧ e.2.2.size ≤ fw (.lst false (ents t)) := by
 rw [fw_lst]
 have : ∀ t : List Ent, t.length ≤ ((ents t).map fws).sum ∧ ∀ e ∈ t, e.1.size ≤ ((ents t).map fws).sum ∧ e.2.2.size ≤ ((ents t).map fws).sum := by
  intro t
  induction t with
  | nil => exact ⟨Nat.le_refl _, by simp⟩
  | cons x r ih =>
   have e1 : ((ents (x :: r)).map fws).sum = fws (entF x) + ((ents r).map fws).sum := by simp [ents]
   have e2 : x.1.size + 1 + x.2.2.size ≤ fws (entF x) := by simp [fws, entF, fw_str]; omega
   rw [e1]
   refine ⟨by simp only [List.length_cons]; omega, fun e he => ?_⟩
   rcases List.mem_cons.1 he with rfl | he
   ·exact ⟨by omega, by omega⟩
   ·have := ih.2 e he; exact ⟨by omega, by omega⟩
 obtain ⟨h1, h2⟩ := this t
 exact ⟨by omega, fun e he => by have := h2 e he; exact ⟨by omega, by omega⟩⟩
end Go.Proofs.YtdfjeokjmigkaaaGreat
end
section
set_option linter.unusedSimpArgs false
set_option linter.unusedVariables false
namespace Go.Eng
open Go Go.RowKit
section
variable {P : Program} {N : Nat} {ops : List Oper} {n : Nat} {l : Env} {vs : Nat → Value}
end
section
variable {P : Program} {N : Nat} {Q : Post} {l : Env} {w : World}
end
end Go.Eng
end
section
set_option linter.unusedSimpArgs false
set_option linter.unusedVariables false
namespace Go.Eng
open Go Go.RowKit
def inl (ids : List Nat) (i : Nat) : Bool := match ids with
 | [] => false
 | k :: r => k == i || inl r i
abbrev Aps := List (Nat × Nat × List Nat)
def bad (W : Aps) (i : Nat) : List Nat := match W with
 | [] => []
 | (a, id, D) :: r => bif a == i || inl D i then bad r i else id :: bad r i
def wat (W : Aps) (i : Nat) : Option Nat := match W with
 | [] => none
 | (a, id, _) :: r => bif a == i then some id else wat r i
def pL (W : Aps) (L : Nat → Bool) (id : Nat) : Bool := match W with
 | [] => false
 | (a, i, _) :: r => (L a && i == id) || pL r L id
end Go.Eng
end
