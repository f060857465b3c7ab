/-
  The plain laws of MergeOne: where one side has not changed, or both alike; sides changed about.
-/
import Derived.Test.YtlfenddhppoflaaMgF
set_option linter.unusedVariables false
set_option linter.unusedSimpArgs false
namespace Go.DiffM
section
variable {α : Type}
theorem tri_mem {x y : List (Nat × Nat)} {t : Nat × Nat × Nat} (h : t ∈ tri x y) : (t.1, t.2.1) ∈ x ∧ (t.1, t.2.2) ∈ y := by
  unfold tri at h
  obtain ⟨p, hp, h⟩ := List.mem_flatMap.1 h
  obtain ⟨q, hq, rfl⟩ := List.mem_map.1 h
  obtain ⟨h1, h2⟩ := List.mem_filter.1 hq
  have h2 : p.1 = q.1 := by simpa using h2
  refine ⟨hp, ?_⟩
  show (p.1, q.2) ∈ y
  rw [h2]; exact h1
theorem betw_mem {o a b : List α} {u : Cu α} {i j k : Nat} {c : Ck α} (h : c ∈ (betw o a b u i j k).out) : c ∈ u.out ∨ c = ⟨false, (o.take i).drop u.i, (a.take j).drop u.j, (b.take k).drop u.k⟩ := by
  rw [betw] at h
  dsimp only at h
  split at h
  · rcases List.mem_append.1 h with h | h
    · exact .inl h
    · exact .inr (by simpa using h)
  · exact .inl h
theorem cadd_mem {cs : List (Ck α)} {s : α} {c : Ck α} (h : c ∈ cadd cs s) : c ∈ cs ∨ c = ⟨true, [s], [s], [s]⟩ ∨ ∃ d ∈ cs, c = ⟨true, d.b ++ [s], d.l ++ [s], d.r ++ [s]⟩ := by
  rcases cadd_cases cs s with ⟨pre, d, e, -, e2⟩ | ⟨-, e2⟩
  · rw [e2] at h
    rcases List.mem_append.1 h with h | h
    · exact .inl (by rw [e]; simp [h])
    · exact .inr (.inr ⟨d, by rw [e]; simp, by simpa using h⟩)
  · rw [e2] at h
    rcases List.mem_append.1 h with h | h
    · exact .inl h
    · exact .inr (.inl (by simpa using h))
variable [Inhabited α]
/-- what holds of all pieces -/
theorem chT_all {o a b : List α} (R : Ck α → Prop) (G : Nat → Nat → Nat → Prop) (hG : ∀ i j k, G i j k → G (i + 1) (j + 1) (k + 1)) (hb : ∀ i j k i' j' k', G i j k → G i' j' k' → R ⟨false, (o.take i').drop i, (a.take j').drop j, (b.take k').drop k⟩)
    (h1 : ∀ s, R ⟨true, [s], [s], [s]⟩) (h2 : ∀ d s, R d → R ⟨true, d.b ++ [s], d.l ++ [s], d.r ++ [s]⟩) : ∀ (l : List (Nat × Nat × Nat)) (u : Cu α), (∀ t ∈ l, G t.1 t.2.1 t.2.2) → G u.i u.j u.k → (∀ c ∈ u.out, R c) →
    G (chT o a b l u).i (chT o a b l u).j (chT o a b l u).k ∧ ∀ c ∈ (chT o a b l u).out, R c
  | [], u, _, hg, h => ⟨hg, h⟩
  | (i, j, k) :: l, u, ht, hg, h => by
    rw [chT]
    have g1 := ht (i, j, k) (by simp)
    refine chT_all R G hG hb h1 h2 l _ (fun t h => ht t (by simp [h])) (hG i j k g1) fun c hc => ?_
    have hB : ∀ c ∈ (betw o a b u i j k).out, R c := fun c hc => by
      rcases betw_mem hc with hc | rfl
      · exact h c hc
      · exact hb _ _ _ _ _ _ hg g1
    rcases cadd_mem hc with hc | rfl | ⟨d, hd, rfl⟩
    · exact hB c hc
    · exact h1 _
    · exact h2 _ _ (hB d hd)
end
section
variable {α : Type} [DecidableEq α] [Inhabited α]
theorem chunks_all {o a b : List α} (R : Ck α → Prop) (G : Nat → Nat → Nat → Prop) (h0 : G 0 0 0) (hG : ∀ i j k, G i j k → G (i + 1) (j + 1) (k + 1)) (he : G o.length a.length b.length) (hb : ∀ i j k i' j' k', G i j k → G i' j' k' → R ⟨false, (o.take i').drop i, (a.take j').drop j, (b.take k').drop k⟩)
    (h1 : ∀ s, R ⟨true, [s], [s], [s]⟩) (h2 : ∀ d s, R d → R ⟨true, d.b ++ [s], d.l ++ [s], d.r ++ [s]⟩) (ht : ∀ t ∈ tri (kn o a) (kn o b), G t.1 t.2.1 t.2.2) : ∀ c ∈ chunks o a b, R c := by
  obtain ⟨p, q⟩ := chT_all (o := o) (a := a) (b := b) R G hG hb h1 h2 (tri (kn o a) (kn o b)) ⟨0, 0, 0, []⟩ ht h0 (fun c h => by simp at h)
  intro c hc
  rcases betw_mem hc with hc | rfl
  · exact q c hc
  · exact hb _ _ _ _ _ _ p he
end
section
variable {α : Type} [DecidableEq α]
theorem kn_same_mem {o : List α} {i j : Nat} (h : (i, j) ∈ kn o o) : i = j := by
  rw [kn_same] at h
  obtain ⟨k, -, e⟩ := List.mem_map.1 h
  simp only [Prod.mk.injEq] at e
  omega
theorem kn_fun {o a : List α} {i j k : Nat} (h : (i, j) ∈ kn o a) (h' : (i, k) ∈ kn o a) : j = k := by
  have : ∀ {l : List (Nat × Nat)} {p q : Nat}, KN o a l p q → (i, j) ∈ l → (i, k) ∈ l → j = k := by
    intro l
    induction l with
    | nil => intro p q _ h; simp at h
    | cons x r ih =>
      obtain ⟨x, y⟩ := x
      intro p q ⟨h1, h2, h3, h4⟩ e1 e2
      rcases List.mem_cons.1 e1 with f1 | f1
      · simp only [Prod.mk.injEq] at f1
        rcases List.mem_cons.1 e2 with f2 | f2
        · simp only [Prod.mk.injEq] at f2; omega
        · have := (h4.mem _ f2).1; simp at this; omega
      · rcases List.mem_cons.1 e2 with f2 | f2
        · simp only [Prod.mk.injEq] at f2; have := (h4.mem _ f1).1; simp at this; omega
        · exact ih h4 f1 f2
  exact this (kn_ok o a) h h'
end
section
variable {α : Type} [DecidableEq α] [Inhabited α]
/-- the right side is the base -/
theorem chunks_br (o a : List α) : ∀ c ∈ chunks o a o, c.b = c.r :=
  chunks_all (fun c => c.b = c.r) (fun i _ k => i = k) rfl (fun _ _ _ h => by omega) rfl (fun i j k i' j' k' e e' => by subst e; subst e'; rfl) (fun _ => rfl) (fun d s h => by simp only; rw [h]) fun t ht => kn_same_mem (tri_mem ht).2
theorem chunks_bl (o b : List α) : ∀ c ∈ chunks o o b, c.b = c.l :=
  chunks_all (fun c => c.b = c.l) (fun i j _ => i = j) rfl (fun _ _ _ h => by omega) rfl (fun i j k i' j' k' e e' => by subst e; subst e'; rfl) (fun _ => rfl) (fun d s h => by simp only; rw [h]) fun t ht => kn_same_mem (tri_mem ht).1
theorem chunks_lr (o a : List α) : ∀ c ∈ chunks o a a, c.l = c.r :=
  chunks_all (fun c => c.l = c.r) (fun _ j k => j = k) rfl (fun _ _ _ h => by omega) rfl (fun i j k i' j' k' e e' => by subst e; subst e'; rfl) (fun _ => rfl) (fun d s h => by simp only; rw [h]) fun t ht => kn_fun (tri_mem ht).1 (tri_mem ht).2
/-! ### sides changed about -/
end
def Ck.sw {α : Type} (c : Ck α) : Ck α := ⟨c.st, c.b, c.r, c.l⟩
def Cu.sw {α : Type} (u : Cu α) : Cu α := ⟨u.i, u.k, u.j, u.out.map Ck.sw⟩
def swT (t : Nat × Nat × Nat) : Nat × Nat × Nat := (t.1, t.2.2, t.2.1)
section
variable {α : Type} {o a b : List α}
theorem tri_sw : ∀ (n : Nat) (x y : List (Nat × Nat)) (i j k : Nat), x.length + y.length ≤ n → KN o a x i j → KN o b y i k → tri y x = (tri x y).map swT
  | n, [], y, i, j, k, _, _, _ => by rw [tri_nil']; rfl
  | n, x, [], i, j, k, _, _, _ => by rw [tri_nil']; rfl
  | 0, (p, q) :: r, y, _, _, _, h, _, _ => by simp at h
  | n + 1, (p, q) :: x, (p2, q2) :: y, i, j, k, h, ⟨h1, h2, ⟨h3, h4, h5⟩, h6⟩, ⟨g1, g2, ⟨g3, g4, g5⟩, g6⟩ => by
    simp only [List.length_cons] at h
    rcases Nat.lt_trichotomy p p2 with e | e | e
    · have hy : KN o b ((p2, q2) :: y) (p + 1) k := ⟨by omega, g2, ⟨g3, g4, g5⟩, g6⟩
      rw [tri_lt hy (Nat.lt_succ_self p), tri_low hy (Nat.lt_succ_self p)]
      exact tri_sw n x ((p2, q2) :: y) (p + 1) (q + 1) k (by simp only [List.length_cons]; omega) h6 hy
    · subst e
      rw [tri_eq h6 g6, tri_eq g6 h6, tri_sw n x y (p + 1) (q + 1) (q2 + 1) (by omega) h6 g6]; rfl
    · have hx : KN o a ((p, q) :: x) (p2 + 1) j := ⟨by omega, h2, ⟨h3, h4, h5⟩, h6⟩
      rw [tri_low hx (Nat.lt_succ_self p2), tri_lt hx (Nat.lt_succ_self p2)]
      exact tri_sw n ((p, q) :: x) y (p2 + 1) j (q2 + 1) (by simp only [List.length_cons]; omega) hx g6
theorem betw_sw (u : Cu α) (i j k : Nat) : betw o b a u.sw i k j = (betw o a b u i j k).sw := by
  rw [betw, betw]
  by_cases h : u.i < i ∨ u.j < j ∨ u.k < k
  · have h' : u.sw.i < i ∨ u.sw.j < k ∨ u.sw.k < j := by simp only [Cu.sw]; omega
    rw [if_pos h, if_pos h']; simp [Ck.sw, Cu.sw]
  · have h' : ¬ (u.sw.i < i ∨ u.sw.j < k ∨ u.sw.k < j) := by simp only [Cu.sw]; omega
    rw [if_neg h, if_neg h']; rfl
theorem cadd_sw (cs : List (Ck α)) (s : α) : cadd (cs.map Ck.sw) s = (cadd cs s).map Ck.sw := by
  rcases List.eq_nil_or_concat cs with rfl | ⟨pre, c, rfl⟩
  · rfl
  · rw [List.concat_eq_append, List.map_append]
    have : (c.sw).st = c.st := rfl
    cases hc : c.st with
    | true => simp [cadd, hc, this, Ck.sw]
    | false => simp [cadd, hc, this, Ck.sw]
variable [Inhabited α]
theorem chT_sw : ∀ (l : List (Nat × Nat × Nat)) (u : Cu α), chT o b a (l.map swT) u.sw = (chT o a b l u).sw
  | [], u => rfl
  | (i, j, k) :: l, u => by
    rw [List.map_cons, swT, chT, chT, betw_sw, ← chT_sw l]
    congr 1
    simp only [stab, Cu.sw, cadd_sw]
end
section
variable {α : Type} [DecidableEq α] [Inhabited α]
theorem chunks_sw (o a b : List α) : chunks o b a = (chunks o a b).map Ck.sw := by
  rw [chunks, chunks, tri_sw _ (kn o a) (kn o b) 0 0 0 (Nat.le_refl _) (kn_ok o a) (kn_ok o b)]
  have : (⟨0, 0, 0, []⟩ : Cu α) = (⟨0, 0, 0, []⟩ : Cu α).sw := rfl
  rw [this, chT_sw, betw_sw]; rfl
end
end Go.DiffM
