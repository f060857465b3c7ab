/-
  A call that answers a node, in a drawn region; what a tree's Check says.
-/
import Derived.Test.YtkonlklieacjoaaDoorTrM
import Derived.Test.YtkonlklieacjoaaDoorTrU
set_option linter.unusedSimpArgs false
set_option linter.unusedVariables false
set_option maxRecDepth 20000
namespace Go.Tr
open Go Go.Eng
theorem fresh_node (n : Int × ByteArray) : FreshH (nodeH n) := .agg fun x hx => by simp at hx; rcases hx with rfl | rfl <;> exact .v _
theorem node_any {n : Int × ByteArray} {ρ ρ' : Nat → Value} {w : World} {A : Nat → Prop} {n0 : Nat} {v : Value} (h : RepH w A n0 ρ v (nodeH n)) : RepH w A n0 ρ' v (nodeH n) := by
 cases h with
 | agg hn h1 h =>
  refine .agg hn h1 fun j a b => ?_
  have := h j a b
  match j, b with
  | 0, _ => rw [repH_v this]; exact .v _
  | 1, _ => rw [repH_v this]; exact .v _
theorem hatRn {P : Program} {T : HS} {f : FuncId} {args args' : List HV} {n : Int × ByteArray} {K : HV → Prop} (hc : callable P f = true) (H : HFun P f args' (fun h st => h = nodeH n ∧ st = [])) (hl : Lends T.st args args') (hK : K (nodeH n)) : HAtR P f args T K :=
 hatR hc H (fresh_node n) (fun ρ ρ' w A n v h => node_any h) hl hK
theorem okR_kinds {t : List Ent} (h : okR t = true) : kinds t := fun e he => by
 obtain ⟨i, hi, rfl⟩ := List.getElem_of_mem he
 have := all_range.1 h i hi
 simp only [rowR, rowA, Bool.and_eq_true, Bool.not_eq_true', decide_eq_false_iff_not] at this
 rw [atE_eq hi] at this
 intro e
 exact this.1.2.2.1 (by rw [e]; rfl)
theorem okR_path {t : List Ent} (h : okR t = true) : ∀ e ∈ t, pOk e.1 5 = true := fun e he => by
 obtain ⟨i, hi, rfl⟩ := List.getElem_of_mem he
 have := all_range.1 h i hi
 simp only [rowR, rowA, Bool.and_eq_true] at this
 rw [atE_eq hi] at this
 exact this.1.1
theorem checkS_zero (t : List Ent) : checkS t = 0 ∨ checkS t = 3 ∨ checkS t = 4 := by
 unfold checkS
 split
 ·exact .inr (.inr rfl)
 ·cases okR t
  ·exact .inr (.inl rfl)
  ·exact .inl rfl
theorem checkS_ok {t : List Ent} (h : checkS t = 0) : t.length ≤ 200 ∧ okR t = true := by
 unfold checkS at h
 split at h
 ·cases h
 ·refine ⟨by omega, ?_⟩
  cases e : okR t
  ·rw [e] at h; cases h
  ·rfl
end Go.Tr
