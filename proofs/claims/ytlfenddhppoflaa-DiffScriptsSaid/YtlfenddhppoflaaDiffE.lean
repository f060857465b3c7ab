/-
  The distance in numbers.
-/
import Derived.Test.YtlfenddhppoflaaDist
import Derived.Test.YtlfenddhppoflaaDiffD
set_option linter.unusedVariables false
set_option linter.unusedSimpArgs false
namespace Go.Proofs.Ytlfenddhppoflaa
open Go Go.DiffM
variable {α : Type} [DecidableEq α]
theorem far_app (l m : List Nat) : far (l ++ m) = far l + far m := by simp [far]
theorem far_rep (n o : Nat) : far (List.replicate n o) = if o = 0 then 0 else n := by
  by_cases h : o = 0 <;> simp [far, h]
theorem dist_far (l : List (Nat × Nat)) : dist l = far (expand l) := by
  induction l with
  | nil => rfl
  | cons r t ih =>
    obtain ⟨o, n⟩ := r
    rw [expand_cons, far_app, far_rep, ← ih, dist]
theorem dist_script (a b : List α) : dist (script a b) + 2 * lcs a b = a.length + b.length := by
  rw [dist_far, (script_fine a b).2]
  exact far_steps _ a b (Nat.le_refl _)
theorem dist_same (a : List α) : dist (script a a) = 0 := by
  have := dist_script a a
  rw [lcs_refl] at this
  omega
theorem dist_zero (a b : List α) : dist (script a b) = 0 ↔ a = b := by
  constructor
  · intro h
    have h1 := dist_script a b
    have h2 := lcs_le _ a b (Nat.le_refl _)
    obtain ⟨s, s1, s2, s3⟩ := lcs_is _ a b (Nat.le_refl _)
    rw [← s1.eq_of_length (by omega), ← s2.eq_of_length (by omega)]
  · rintro rfl; exact dist_same a
theorem dist_head (a b c : List α) : dist (script (c ++ a) (c ++ b)) = dist (script a b) := by
  have h1 := dist_script a b
  have h2 := dist_script (c ++ a) (c ++ b)
  rw [lcs_head] at h2
  simp only [List.length_append] at h2
  omega
theorem dist_tail (a b c : List α) : dist (script (a ++ c) (b ++ c)) = dist (script a b) := by
  have h1 := dist_script a b
  have h2 := dist_script (a ++ c) (b ++ c)
  rw [lcs_tail] at h2
  simp only [List.length_append] at h2
  omega
end Go.Proofs.Ytlfenddhppoflaa
