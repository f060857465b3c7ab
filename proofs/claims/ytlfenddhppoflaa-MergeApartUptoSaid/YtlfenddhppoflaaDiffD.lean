/-
  The plain laws of the distance.
-/
import Derived.Test.YtlfenddhppoflaaDiffL
set_option linter.unusedVariables false
set_option linter.unusedSimpArgs false
namespace Go.DiffM
variable {α : Type} [DecidableEq α]
/-- steps other than keeping -/
def far (l : List Nat) : Nat := (l.filter (· ≠ 0)).length
theorem far_cons (x : Nat) (l : List Nat) : far (x :: l) = (if x = 0 then 0 else 1) + far l := by
  unfold far
  by_cases h : x = 0
  · simp [h]
  · simp [h]; omega
theorem far_steps : ∀ (n : Nat) (a b : List α), a.length + b.length ≤ n → far (steps a b) + 2 * lcs a b = a.length + b.length
  | n, [], [], _ => by simp [steps, far, lcs]
  | 0, x :: xs, _, h => by simp at h
  | 0, _, y :: ys, h => by simp at h
  | n + 1, x :: xs, [], h => by
    have := far_steps n xs [] (by simp at h ⊢; omega)
    rw [steps, far_cons, lcs_nil'] ; rw [lcs_nil'] at this; simp at this ⊢; omega
  | n + 1, [], y :: ys, h => by
    have := far_steps n [] ys (by simp at h ⊢; omega)
    rw [steps, far_cons, lcs_nil]; rw [lcs_nil] at this; simp at this ⊢; omega
  | n + 1, x :: xs, y :: ys, h => by
    simp only [List.length_cons] at h
    have h1 := far_steps n xs ys (by omega)
    have h2 := far_steps n xs (y :: ys) (by simp only [List.length_cons]; omega)
    have h3 := far_steps n (x :: xs) ys (by simp only [List.length_cons]; omega)
    rw [steps, lcs_cons]
    simp only [List.length_cons] at *
    split
    · rw [far_cons]; simp; omega
    · split
      · rw [far_cons]; simp; omega
      · rw [far_cons]; simp; omega
theorem lcs_refl : ∀ (a : List α), lcs a a = a.length
  | [] => by simp [lcs]
  | x :: xs => by rw [lcs_cons, if_pos rfl, lcs_refl xs]; rfl
theorem lcs_head (c a b : List α) : lcs (c ++ a) (c ++ b) = c.length + lcs a b := by
  induction c with
  | nil => simp
  | cons x t ih => rw [List.cons_append, List.cons_append, lcs_cons, if_pos rfl, ih, List.length_cons]; omega
theorem lcs_most : ∀ (n : Nat) (a b s : List α), a.length + b.length ≤ n → s.Sublist a → s.Sublist b → s.length ≤ lcs a b
  | n, [], b, s, _, ha, _ => by rw [List.sublist_nil.1 ha]; simp
  | n, a, [], s, _, _, hb => by rw [List.sublist_nil.1 hb]; simp
  | 0, x :: xs, _, s, h, _, _ => by simp at h
  | n + 1, x :: xs, y :: ys, s, h, ha, hb => by
    simp only [List.length_cons] at h
    rw [lcs_cons]
    by_cases he : x = y
    · rw [if_pos he]
      cases s with
      | nil => simp
      | cons z t =>
        have h1 : t.Sublist xs := by
          cases ha with
          | cons _ h => exact (List.sublist_cons_self z t).trans h
          | cons_cons _ h => exact h
        have h2 : t.Sublist ys := by
          cases hb with
          | cons _ h => exact (List.sublist_cons_self z t).trans h
          | cons_cons _ h => exact h
        have := lcs_most n xs ys t (by omega) h1 h2
        simp; omega
    · rw [if_neg he]
      cases ha with
      | cons _ h1 =>
        have := lcs_most n xs (y :: ys) s (by simp only [List.length_cons]; omega) h1 hb
        omega
      | cons_cons _ h1 =>
        cases hb with
        | cons _ h2 =>
          have := lcs_most n (x :: xs) ys _ (by simp only [List.length_cons]; omega) (h1.cons_cons x) h2
          omega
        | cons_cons _ h2 => exact absurd rfl he
theorem lcs_is : ∀ (n : Nat) (a b : List α), a.length + b.length ≤ n → ∃ s : List α, s.Sublist a ∧ s.Sublist b ∧ s.length = lcs a b
  | n, [], b, _ => ⟨[], by simp, by simp, by simp [lcs]⟩
  | n, a, [], _ => ⟨[], by simp, by simp, by simp [lcs_nil']⟩
  | 0, x :: xs, _, h => by simp at h
  | n + 1, x :: xs, y :: ys, h => by
    simp only [List.length_cons] at h
    rw [lcs_cons]
    by_cases he : x = y
    · subst he
      rw [if_pos rfl]
      obtain ⟨s, h1, h2, h3⟩ := lcs_is n xs ys (by omega)
      exact ⟨x :: s, h1.cons_cons x, h2.cons_cons x, by simp [h3]⟩
    · rw [if_neg he]
      obtain ⟨s, h1, h2, h3⟩ := lcs_is n xs (y :: ys) (by simp only [List.length_cons]; omega)
      obtain ⟨s', h1', h2', h3'⟩ := lcs_is n (x :: xs) ys (by simp only [List.length_cons]; omega)
      by_cases hm : lcs (x :: xs) ys ≤ lcs xs (y :: ys)
      · exact ⟨s, h1.cons x, h2, by omega⟩
      · exact ⟨s', h1', h2'.cons y, by omega⟩
theorem lcs_rev (a b : List α) : lcs a.reverse b.reverse = lcs a b := by
  have one : ∀ a b : List α, lcs a b ≤ lcs a.reverse b.reverse := fun a b => by
    obtain ⟨s, h1, h2, h3⟩ := lcs_is _ a b (Nat.le_refl _)
    have := lcs_most _ a.reverse b.reverse s.reverse (Nat.le_refl _) (List.reverse_sublist.2 h1) (List.reverse_sublist.2 h2)
    rw [List.length_reverse] at this
    omega
  have h1 := one a b
  have h2 := one a.reverse b.reverse
  rw [List.reverse_reverse, List.reverse_reverse] at h2
  omega
theorem lcs_tail (a b c : List α) : lcs (a ++ c) (b ++ c) = c.length + lcs a b := by
  rw [← lcs_rev, List.reverse_append, List.reverse_append, lcs_head, lcs_rev, List.length_reverse]
end Go.DiffM
