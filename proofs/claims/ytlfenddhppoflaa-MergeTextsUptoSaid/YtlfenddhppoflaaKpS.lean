/- What the walk of the law stands on. -/
import Derived.Test.YtlfenddhppoflaaKept
set_option linter.unusedSimpArgs false
set_option linter.unusedVariables false
set_option maxRecDepth 20000
namespace Go.Proofs.Ytlfenddhppoflaa
open Go Go.Eng Go.RowKit Go.DiffM
def keptS : List Nat → Nat → Nat → List (Int × Int)
 | [], _, _ => []
 | x :: r, i, j => (if x = 0 then [((i : Int), (j : Int))] else []) ++ keptS r (if x = 2 then i else i + 1) (if x = 1 then j else j + 1)
theorem steps_le2 {α : Type} [DecidableEq α] : ∀ (n : Nat) (a b : List α), a.length + b.length ≤ n → ∀ x ∈ steps a b, x ≤ 2
 | _, [], [], _ => by simp [steps]
 | 0, x :: xs, _, h => by simp at h
 | 0, [], y :: ys, h => by simp at h
 | n + 1, x :: xs, [], h => by
  simp only [List.length_cons] at h
  have := steps_le2 n xs [] (by omega)
  rw [steps]; intro z hz; rcases List.mem_cons.1 hz with rfl | hz
  ·omega
  ·exact this z hz
 | n + 1, [], y :: ys, h => by
  simp only [List.length_cons] at h
  have := steps_le2 n [] ys (by omega)
  rw [steps]; intro z hz; rcases List.mem_cons.1 hz with rfl | hz
  ·omega
  ·exact this z hz
 | n + 1, x :: xs, y :: ys, h => by
  simp only [List.length_cons] at h
  have h1 := steps_le2 n xs ys (by omega)
  have h2 := steps_le2 n xs (y :: ys) (by simp only [List.length_cons]; omega)
  have h3 := steps_le2 n (x :: xs) ys (by simp only [List.length_cons]; omega)
  rw [steps]
  split
  ·intro z hz; rcases List.mem_cons.1 hz with rfl | hz
   ·omega
   ·exact h1 z hz
  ·split
   ·intro z hz; rcases List.mem_cons.1 hz with rfl | hz
    ·omega
    ·exact h2 z hz
   ·intro z hz; rcases List.mem_cons.1 hz with rfl | hz
    ·omega
    ·exact h3 z hz
theorem keptS_rep0 (l : List Nat) : ∀ (n i j : Nat), keptS (List.replicate n 0 ++ l) i j = (List.range n).map (fun (k : Nat) => (((i + k : Nat) : Int), ((j + k : Nat) : Int))) ++ keptS l (i + n) (j + n)
 | 0, i, j => by simp
 | n + 1, i, j => by
  rw [List.replicate_succ, List.cons_append, keptS, if_pos rfl, if_neg (by omega), if_neg (by omega), keptS_rep0 l n, List.range_succ_eq_map, List.map_cons, List.map_map]
  simp only [Nat.add_zero, List.cons_append, List.nil_append, Function.comp_def]
  congr 1
  congr 1
  ·apply List.map_congr_left; intro k _; simp only [Nat.succ_eq_add_one, Prod.mk.injEq]; omega
  ·congr 1 <;> omega
theorem keptS_rep1 (l : List Nat) : ∀ (n i j : Nat), keptS (List.replicate n 1 ++ l) i j = keptS l (i + n) j
 | 0, i, j => by simp
 | n + 1, i, j => by
  rw [List.replicate_succ, List.cons_append, keptS, if_neg (by omega), if_neg (by omega), if_pos rfl, keptS_rep1 l n, List.nil_append]
  congr 1; omega
theorem keptS_rep2 (l : List Nat) : ∀ (n i j : Nat), keptS (List.replicate n 2 ++ l) i j = keptS l i (j + n)
 | 0, i, j => by simp
 | n + 1, i, j => by
  rw [List.replicate_succ, List.cons_append, keptS, if_neg (by omega), if_pos rfl, if_neg (by omega), keptS_rep2 l n, List.nil_append]
  congr 1; omega
theorem keptS_expand : ∀ (l : List (Nat × Nat)) (i j : Nat), Fine l → (∀ x ∈ expand l, x ≤ 2) → keptS (expand l) i j = keptR l i j
 | [], _, _, _, _ => rfl
 | (op, n) :: r, i, j, hf, h => by
  rw [expand_cons] at h ⊢
  have hn := hf.head
  have hop : op ≤ 2 := h op (by simp; left; simp only at hn; omega)
  have ih := fun i j => keptS_expand r i j hf.tail (fun x hx => h x (by simp [hx]))
  rw [keptR]
  have : op = 0 ∨ op = 1 ∨ op = 2 := by omega
  rcases this with rfl | rfl | rfl
  ·rw [keptS_rep0, ih]; rfl
  ·rw [keptS_rep1, ih]; rfl
  ·rw [keptS_rep2, ih]; rfl
theorem keptS_P (a b : List ByteArray) : keptS (steps a b) 0 0 = keptP a b := by
 obtain ⟨h1, h2⟩ := script_fine a b
 rw [← h2]
 exact keptS_expand _ 0 0 h1 (by rw [h2]; exact steps_le2 _ a b (Nat.le_refl _))
end Go.Proofs.Ytlfenddhppoflaa
