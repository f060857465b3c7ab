/- What the walk of the law stands on. -/
set_option linter.unusedVariables false
set_option linter.unusedSimpArgs false
namespace Go.DiffM
variable {α : Type} [DecidableEq α]
def lcs : List α → List α → Nat
 | [], _ => 0
 | _ :: _, [] => 0
 | x :: xs, y :: ys => if x = y then lcs xs ys + 1 else max (lcs xs (y :: ys)) (lcs (x :: xs) ys)
termination_by a b => a.length + b.length
theorem lcs_nil (b : List α) : lcs [] b = 0 := by cases b <;> simp [lcs]
theorem lcs_nil' (a : List α) : lcs a [] = 0 := by cases a <;> simp [lcs]
theorem lcs_cons (x : α) (xs : List α) (y : α) (ys : List α) : lcs (x :: xs) (y :: ys) = if x = y then lcs xs ys + 1 else max (lcs xs (y :: ys)) (lcs (x :: xs) ys) := by rw [lcs]
theorem lcs_le : ∀ (n : Nat) (a b : List α), a.length + b.length ≤ n → lcs a b ≤ a.length ∧ lcs a b ≤ b.length
 | n, [], b, _ => by simp [lcs_nil]
 | n, a, [], _ => by simp [lcs_nil']
 | 0, x :: xs, y :: ys, h => by simp at h
 | n + 1, x :: xs, y :: ys, h => by
  simp only [List.length_cons] at h
  have h1 := lcs_le n xs ys (by omega)
  have h2 := lcs_le n xs (y :: ys) (by simp only [List.length_cons]; omega)
  have h3 := lcs_le n (x :: xs) ys (by simp only [List.length_cons]; omega)
  simp only [List.length_cons] at *
  rw [lcs_cons]
  split <;> omega
def at2 (a b : List α) (i j : Nat) : Nat := lcs (a.drop i) (b.drop j)
theorem at2_end (a b : List α) (i j : Nat) (h : a.length ≤ i ∨ b.length ≤ j) : at2 a b i j = 0 := by
 unfold at2
 rcases h with h | h
 ·rw [List.drop_eq_nil_of_le h, lcs_nil]
 ·rw [List.drop_eq_nil_of_le h, lcs_nil']
theorem at2_step (a b : List α) (i j : Nat) (hi : i < a.length) (hj : j < b.length) : at2 a b i j = if a[i] = b[j] then at2 a b (i + 1) (j + 1) + 1 else max (at2 a b (i + 1) j) (at2 a b i (j + 1)) := by
 unfold at2
 rw [List.drop_eq_getElem_cons hi, List.drop_eq_getElem_cons hj, lcs_cons]
theorem at2_le (a b : List α) (i j : Nat) : at2 a b i j ≤ a.length := by
 have := (lcs_le _ (a.drop i) (b.drop j) (Nat.le_refl _)).1
 unfold at2
 simp at this
 omega
def steps : List α → List α → List Nat
 | [], [] => []
 | x :: xs, [] => 1 :: steps xs []
 | [], y :: ys => 2 :: steps [] ys
 | x :: xs, y :: ys => if x = y then 0 :: steps xs ys else if lcs (x :: xs) ys ≤ lcs xs (y :: ys) then 1 :: steps xs (y :: ys) else 2 :: steps (x :: xs) ys
termination_by a b => a.length + b.length
theorem steps_keep (a b : List α) (i j : Nat) (hi : i < a.length) (hj : j < b.length) (he : a[i] = b[j]) : steps (a.drop i) (b.drop j) = 0 :: steps (a.drop (i + 1)) (b.drop (j + 1)) := by
 rw [List.drop_eq_getElem_cons hi, List.drop_eq_getElem_cons hj, steps, if_pos he]
theorem steps_drop (a b : List α) (i j : Nat) (hi : i < a.length) (h : b.length ≤ j ∨ ∃ hj : j < b.length, a[i] ≠ b[j] ∧ at2 a b i (j + 1) ≤ at2 a b (i + 1) j) : steps (a.drop i) (b.drop j) = 1 :: steps (a.drop (i + 1)) (b.drop j) := by
 rcases h with h | ⟨hj, h1, h2⟩
 ·rw [List.drop_eq_getElem_cons hi, List.drop_eq_nil_of_le h, steps]
 ·unfold at2 at h2
  rw [List.drop_eq_getElem_cons hi] at h2 ⊢
  rw [List.drop_eq_getElem_cons hj] at h2 ⊢
  rw [steps, if_neg h1, if_pos h2]
theorem steps_add (a b : List α) (i j : Nat) (hj : j < b.length) (h : a.length ≤ i ∨ ∃ hi : i < a.length, a[i] ≠ b[j] ∧ at2 a b (i + 1) j < at2 a b i (j + 1)) : steps (a.drop i) (b.drop j) = 2 :: steps (a.drop i) (b.drop (j + 1)) := by
 rcases h with h | ⟨hi, h1, h2⟩
 ·rw [List.drop_eq_getElem_cons hj, List.drop_eq_nil_of_le h, steps]
 ·unfold at2 at h2
  rw [List.drop_eq_getElem_cons hi] at h2 ⊢
  rw [List.drop_eq_getElem_cons hj] at h2 ⊢
  rw [steps, if_neg h1, if_neg (by omega)]
theorem steps_end (a b : List α) (i j : Nat) (hi : a.length ≤ i) (hj : b.length ≤ j) : steps (a.drop i) (b.drop j) = [] := by
 rw [List.drop_eq_nil_of_le hi, List.drop_eq_nil_of_le hj, steps]
def addStep : List (Nat × Nat) → Nat → List (Nat × Nat)
 | [], op => [(op, 1)]
 | [(o, n)], op => if o = op then [(o, n + 1)] else [(o, n), (op, 1)]
 | r :: s :: t, op => r :: addStep (s :: t) op
def runs (l : List Nat) : List (Nat × Nat) := l.foldl addStep []
def script (a b : List α) : List (Nat × Nat) := runs (steps a b)
theorem addStep_snoc (l : List (Nat × Nat)) (o n op : Nat) : addStep (l ++ [(o, n)]) op = if o = op then l ++ [(o, n + 1)] else l ++ [(o, n), (op, 1)] := by
 induction l with
 | nil => simp only [List.nil_append, addStep]
 | cons r t ih =>
  cases t with
  | nil => simp only [List.cons_append, List.nil_append, addStep] at ih ⊢; split <;> rfl
  | cons s u =>
   simp only [List.cons_append] at ih ⊢
   rw [addStep]
   rw [ih]
   split <;> rfl
end Go.DiffM
