/- What the walk of the law stands on. -/
import Derived.Test.YtlfenddhppoflaaDiffL
set_option linter.unusedVariables false
set_option linter.unusedSimpArgs false
namespace Go.DiffM
variable {α : Type} [DecidableEq α]
theorem lcs_most : ∀ (n : Nat) (a b s : List α), a.length + b.length ≤ n → s.Sublist a → s.Sublist b → s.length ≤ lcs a b
 | n, [], b, s, _, ha, _ => by rw [List.sublist_nil.1 ha]; simp
 | n, a, [], s, _, _, hb => by rw [List.sublist_nil.1 hb]; simp
 | 0, x :: xs, _, s, h, _, _ => by simp at h
 | n + 1, x :: xs, y :: ys, s, h, ha, hb => by
  simp only [List.length_cons] at h
  rw [lcs_cons]
  by_cases he : x = y
  ·rw [if_pos he]
   cases s with
   | nil => simp
   | cons z t =>
    have h1 : t.Sublist xs := by
     cases ha with
     | cons _ h => exact (List.sublist_cons_self z t).trans h
     | cons_cons _ h => exact h
    have h2 : t.Sublist ys := by
     cases hb with
     | cons _ h => exact (List.sublist_cons_self z t).trans h
     | cons_cons _ h => exact h
    have := lcs_most n xs ys t (by omega) h1 h2
    simp; omega
  ·rw [if_neg he]
   cases ha with
   | cons _ h1 =>
    have := lcs_most n xs (y :: ys) s (by simp only [List.length_cons]; omega) h1 hb
    omega
   | cons_cons _ h1 =>
    cases hb with
    | cons _ h2 =>
     have := lcs_most n (x :: xs) ys _ (by simp only [List.length_cons]; omega) (h1.cons_cons x) h2
     omega
    | cons_cons _ h2 => exact absurd rfl he
theorem lcs_is : ∀ (n : Nat) (a b : List α), a.length + b.length ≤ n → ∃ s : List α, s.Sublist a ∧ s.Sublist b ∧ s.length = lcs a b
 | n, [], b, _ => ⟨[], by simp, by simp, by simp [lcs]⟩
 | n, a, [], _ => ⟨[], by simp, by simp, by simp [lcs_nil']⟩
 | 0, x :: xs, _, h => by simp at h
 | n + 1, x :: xs, y :: ys, h => by
  simp only [List.length_cons] at h
  rw [lcs_cons]
  by_cases he : x = y
  ·subst he
   rw [if_pos rfl]
   obtain ⟨s, h1, h2, h3⟩ := lcs_is n xs ys (by omega)
   exact ⟨x :: s, h1.cons_cons x, h2.cons_cons x, by simp [h3]⟩
  ·rw [if_neg he]
   obtain ⟨s, h1, h2, h3⟩ := lcs_is n xs (y :: ys) (by simp only [List.length_cons]; omega)
   obtain ⟨s', h1', h2', h3'⟩ := lcs_is n (x :: xs) ys (by simp only [List.length_cons]; omega)
   by_cases hm : lcs (x :: xs) ys ≤ lcs xs (y :: ys)
   ·exact ⟨s, h1.cons x, h2, by omega⟩
   ·exact ⟨s', h1', h2'.cons y, by omega⟩
end Go.DiffM
