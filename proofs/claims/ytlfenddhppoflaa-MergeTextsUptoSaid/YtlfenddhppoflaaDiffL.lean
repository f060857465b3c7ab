/- What the walk of the law stands on. -/
import Derived.Test.YtlfenddhppoflaaDiffM
set_option linter.unusedVariables false
set_option linter.unusedSimpArgs false
namespace Go.DiffM
variable {α : Type} [DecidableEq α]
def expand (l : List (Nat × Nat)) : List Nat := l.flatMap fun r => List.replicate r.2 r.1
theorem expand_cons (r : Nat × Nat) (l : List (Nat × Nat)) : expand (r :: l) = List.replicate r.2 r.1 ++ expand l := by simp [expand]
inductive Fine : List (Nat × Nat) → Prop
 | nil : Fine []
 | one (o n) : 1 ≤ n → Fine [(o, n)]
 | cons (o n p m t) : 1 ≤ n → o ≠ p → Fine ((p, m) :: t) → Fine ((o, n) :: (p, m) :: t)
theorem fine_addStep {l : List (Nat × Nat)} (h : Fine l) (op : Nat) : Fine (addStep l op) ∧ expand (addStep l op) = expand l ++ [op] ∧ (∀ o n t, l = (o, n) :: t → ∃ n' t', addStep l op = (o, n') :: t') := by
 induction h with
 | nil => exact ⟨.one _ _ (by omega), by simp [addStep, expand], fun _ _ _ h => by cases h⟩
 | one o n hn =>
  by_cases he : o = op
  ·subst he
   rw [addStep, if_pos rfl]
   refine ⟨.one _ _ (by omega), ?_, fun o' n' t h => by cases h; exact ⟨_, _, rfl⟩⟩
   simp [expand, List.replicate_succ']
  ·rw [addStep, if_neg he]
   exact ⟨.cons _ _ _ _ _ hn he (.one _ _ (by omega)), by simp [expand], fun o' n' t h => by cases h; exact ⟨_, _, rfl⟩⟩
 | cons o n p m t hn hne ht ih =>
  rw [addStep]
  obtain ⟨h1, h2, h3⟩ := ih
  obtain ⟨n', t', e⟩ := h3 p m t rfl
  rw [e] at h1 h2 ⊢
  refine ⟨.cons _ _ _ _ _ hn hne h1, ?_, fun o' n'' t'' h => by cases h; exact ⟨_, _, rfl⟩⟩
  rw [expand_cons, h2, expand_cons (o, n) ((p, m) :: t), List.append_assoc]
theorem fine_foldl (l : List Nat) : ∀ (acc : List (Nat × Nat)), Fine acc → Fine (l.foldl addStep acc) ∧ expand (l.foldl addStep acc) = expand acc ++ l := by
 induction l with
 | nil => intro acc h; exact ⟨h, by simp⟩
 | cons x t ih =>
  intro acc h
  obtain ⟨h1, h2, -⟩ := fine_addStep h x
  obtain ⟨h3, h4⟩ := ih _ h1
  exact ⟨h3, by rw [List.foldl_cons, h4, h2]; simp⟩
theorem script_fine (a b : List α) : Fine (script a b) ∧ expand (script a b) = steps a b := by
 have := fine_foldl (steps a b) [] .nil
 simpa [script, runs, expand] using this
theorem Fine.tail {r : Nat × Nat} {l : List (Nat × Nat)} (h : Fine (r :: l)) : Fine l := by
 cases h with
 | one => exact .nil
 | cons _ _ _ _ _ _ _ h => exact h
theorem Fine.head {r : Nat × Nat} {l : List (Nat × Nat)} (h : Fine (r :: l)) : 1 ≤ r.2 := by
 cases h with
 | one _ _ h => exact h
 | cons _ _ _ _ _ h _ _ => exact h
theorem Fine.drop {l : List (Nat × Nat)} (h : Fine l) : ∀ k, Fine (l.drop k)
 | 0 => by simpa using h
 | k + 1 => by
  have ih := Fine.drop h k
  by_cases hk : k < l.length
  ·rw [List.drop_eq_getElem_cons hk] at ih; exact ih.tail
  ·rw [List.drop_eq_nil_of_le (by omega)]; exact .nil
theorem Fine.next {l : List (Nat × Nat)} (h : Fine l) (k : Nat) (hk : k + 1 < l.length) : l[k].1 ≠ l[k + 1].1 := by
 have := Fine.drop h k
 rw [List.drop_eq_getElem_cons (by omega), List.drop_eq_getElem_cons hk] at this
 cases hh : l[k] with
 | mk o n =>
  cases hh2 : l[k + 1] with
  | mk p m =>
   rw [hh, hh2] at this
   cases this with
   | cons _ _ _ _ _ _ h _ => exact h
theorem steps_inv (a b : List α) (i j op : Nat) (rest : List Nat) (h : steps (a.drop i) (b.drop j) = op :: rest) :
  (op = 0 ∧ ∃ (hi : i < a.length) (hj : j < b.length), a[i] = b[j] ∧ rest = steps (a.drop (i + 1)) (b.drop (j + 1))) ∨ (op = 1 ∧ i < a.length ∧ rest = steps (a.drop (i + 1)) (b.drop j)) ∨ (op = 2 ∧ j < b.length ∧ rest = steps (a.drop i) (b.drop (j + 1))) := by
 by_cases hi : i < a.length
 ·by_cases hj : j < b.length
  ·by_cases he : a[i] = b[j]
   ·rw [steps_keep a b i j hi hj he] at h
    cases h
    exact .inl ⟨rfl, hi, hj, he, rfl⟩
   ·by_cases hc : at2 a b i (j + 1) ≤ at2 a b (i + 1) j
    ·rw [steps_drop a b i j hi (.inr ⟨hj, he, hc⟩)] at h
     cases h
     exact .inr (.inl ⟨rfl, hi, rfl⟩)
    ·rw [steps_add a b i j hj (.inr ⟨hi, he, by omega⟩)] at h
     cases h
     exact .inr (.inr ⟨rfl, hj, rfl⟩)
  ·rw [steps_drop a b i j hi (.inl (by omega))] at h
   cases h
   exact .inr (.inl ⟨rfl, hi, rfl⟩)
 ·by_cases hj : j < b.length
  ·rw [steps_add a b i j hj (.inl (by omega))] at h
   cases h
   exact .inr (.inr ⟨rfl, hj, rfl⟩)
  ·rw [steps_end a b i j (by omega) (by omega)] at h
   cases h
theorem steps_len : ∀ (n : Nat) (a b : List α), a.length + b.length ≤ n → (steps a b).length ≤ a.length + b.length
 | n, [], [], _ => by simp [steps]
 | 0, x :: xs, _, h => by simp at h
 | 0, _, y :: ys, h => by simp at h
 | n + 1, x :: xs, [], h => by
  have := steps_len n xs [] (by simp at h ⊢; omega)
  rw [steps]; simp at this ⊢; omega
 | n + 1, [], y :: ys, h => by
  have := steps_len n [] ys (by simp at h ⊢; omega)
  rw [steps]; simp at this ⊢; omega
 | n + 1, x :: xs, y :: ys, h => by
  simp only [List.length_cons] at h
  have h1 := steps_len n xs ys (by omega)
  have h2 := steps_len n xs (y :: ys) (by simp only [List.length_cons]; omega)
  have h3 := steps_len n (x :: xs) ys (by simp only [List.length_cons]; omega)
  rw [steps]
  simp only [List.length_cons] at *
  split
  ·simp only [List.length_cons]; omega
  ·split <;> simp only [List.length_cons] <;> omega
theorem Fine.len {l : List (Nat × Nat)} (h : Fine l) : l.length ≤ (expand l).length := by
 induction h with
 | nil => simp
 | one o n hn => simp [expand]; omega
 | cons o n p m t hn hne ht ih => rw [expand_cons]; simp at ih ⊢; omega
theorem expand_get {l : List (Nat × Nat)} (k : Nat) (hk : k < l.length) : l[k].2 ≤ (expand l).length := by
 induction l generalizing k with
 | nil => simp at hk
 | cons r t ih =>
  rw [expand_cons]
  cases k with
  | zero => simp
  | succ k => have := ih k (by simpa using hk); simp at this ⊢; omega
theorem script_len (a b : List α) : (script a b).length ≤ a.length + b.length ∧ ∀ k (hk : k < (script a b).length), (script a b)[k].2 ≤ a.length + b.length := by
 obtain ⟨h1, h2⟩ := script_fine a b
 have h3 := steps_len _ a b (Nat.le_refl _)
 rw [← h2] at h3
 exact ⟨Nat.le_trans h1.len h3, fun k hk => Nat.le_trans (expand_get k hk) h3⟩
end Go.DiffM
