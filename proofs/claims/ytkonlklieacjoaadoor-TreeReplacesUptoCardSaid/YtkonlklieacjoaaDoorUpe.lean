/-
  Entries and nodes that are handed in, opened; how much they hold.
-/
import Derived.Test.YtkonlklieacjoaaDoorUpt
import Derived.Test.YtkonlklieacjoaaDoorGd
import Derived.Test.YtkonlklieacjoaaDoorTrD
set_option linter.unusedVariables false
set_option linter.unusedSimpArgs false
namespace Go.Proofs.YtkonlklieacjoaaDoor
open Go Go.Eng Go.RowKit Go.ChangeShapes Go.WideShapes Go.ChangeAt Go.Tr
def fwN (n : Int × ByteArray) : Nat := fw (.v (.int .i64 n.1)) + fw (.v (.string n.2))
theorem open_node {H : Type} {enc : TypeId × Value → H} {P : Program} {w W : World} {n0 n base : Nat} {R : Reach} {BK : DataW H → Nat} (hB : Bulk BK) {t : TypeId} {fs : Array Field} {v : Value} {d : DataW H} {p : List MemPlace}
  (hs : shOf P n t = some [.int .i64, .str]) (hu : P.underlying t = some (.struct fs)) (hv : Value.okWide P W R base t v) (h : DataW.Trod enc P w 0 (fun _ => true) true t v d p) (hw : ∀ m ∈ d.weights P t, m ≤ reachBytes) :
  ∃ a : Int × ByteArray, RepH w (fun _ => False) n0 (fun _ => undef) v (nodeH a) ∧ fwN a ≤ BK d := by
 unfold Value.okWide at hv
 rw [hu] at hv
 obtain ⟨cs, rfl, -, -⟩ := hv
 obtain ⟨fuel, hf⟩ := h
 obtain ⟨gs, h3, h4⟩ := trod_fitU (n0 := n0) hB n t _ fuel _ _ hs hf hw
 have e : (Value.agg cs).cells.toList = cs.toList := rfl
 rw [e] at h3
 obtain ⟨l⟩ := cs
 dsimp only at h3
 cases h3 with
 | cons a b c r =>
  cases r with
  | cons a2 b2 c2 r2 =>
   cases r2
   cases c
   cases c2
   cases a
   cases a2
   rename_i k _ s _
   refine ⟨(k, s), RepH.agg (cs := ⟨[.int .i64 k, .string s]⟩) (hs := [.v (.int .i64 k), .v (.string s)]) rfl (fun j hj => ?_) (fun j h1 h2 => ?_), ?_⟩
   ·match j, hj with
    | 0, _ => rfl
    | 1, _ => rfl
   ·match j, h1 with
    | 0, _ => exact .v _
    | 1, _ => exact .v _
   ·simpa [fws, fwN] using h4
theorem fit_ents {b : Nat} {f : FV} (h : Fit (.sl b [.str, .int .i64, .str]) f) : ∃ t : List Ent, f = .lst false (ents t) ∧ True := by
 cases h with
 | sl hb hl h =>
  rename_i xs
  have : ∀ x ∈ xs, ∃ e : Ent, x = entF e := fun x hx => by
   have h1 := hl x hx
   match x, h1 with
   | [f0, f1, f2], _ =>
   have a := h _ hx 0 (by simp) (by simp)
   have b := h _ hx 1 (by simp) (by simp)
   have c := h _ hx 2 (by simp) (by simp)
   simp only [List.getElem_cons_zero, List.getElem_cons_succ] at a b c
   cases a; cases b; cases c
   exact ⟨(_, _, _), rfl⟩
  clear hb hl h
  induction xs with
  | nil => exact ⟨[], rfl, trivial⟩
  | cons x r ih =>
   obtain ⟨e, rfl⟩ := this x (by simp)
   obtain ⟨t, ht, -⟩ := ih (fun y hy => this y (by simp [hy]))
   simp only [FV.lst.injEq, true_and] at ht
   exact ⟨e :: t, by rw [ht]; rfl, trivial⟩
theorem fw_ents (t : List Ent) : t.length ≤ fw (.lst false (ents t)) ∧ ∀ e ∈ t, e.1.size ≤ fw (.lst false (ents t)) ∧ e.2.2.size ≤ fw (.lst false (ents t)) := by
 rw [fw_lst]
 have : ∀ t : List Ent, t.length ≤ ((ents t).map fws).sum ∧ ∀ e ∈ t, e.1.size ≤ ((ents t).map fws).sum ∧ e.2.2.size ≤ ((ents t).map fws).sum := by
  intro t
  induction t with
  | nil => exact ⟨Nat.le_refl _, by simp⟩
  | cons x r ih =>
   have e1 : ((ents (x :: r)).map fws).sum = fws (entF x) + ((ents r).map fws).sum := by simp [ents]
   have e2 : x.1.size + 1 + x.2.2.size ≤ fws (entF x) := by simp [fws, entF, fw_str]; omega
   rw [e1]
   refine ⟨by simp only [List.length_cons]; omega, fun e he => ?_⟩
   rcases List.mem_cons.1 he with rfl | he
   ·exact ⟨by omega, by omega⟩
   ·have := ih.2 e he; exact ⟨by omega, by omega⟩
 obtain ⟨h1, h2⟩ := this t
 exact ⟨by omega, fun e he => by have := h2 e he; exact ⟨by omega, by omega⟩⟩
end Go.Proofs.YtkonlklieacjoaaDoor
