/-
  What pieces are, in plain words: they rise, stand apart, and begin where the lists differ.
-/
import Derived.Test.YtlfenddhppoflaaHnkM
set_option linter.unusedVariables false
set_option linter.unusedSimpArgs false
namespace Go.DiffM
variable {α : Type} [DecidableEq α]
/-- pieces that rise -/
def Rise (n : Nat) (z : Bool) : Nat → List (Hk α) → Prop
  | _, [] => True
  | e, h :: t => e ≤ h.at_ ∧ 0 < h.old.length + h.new.length ∧ h.at_ + h.old.length ≤ n ∧
      (z = true → ∀ (h1 : 0 < h.old.length) (h2 : 0 < h.new.length), h.old[0] ≠ h.new[0]) ∧ (∀ u v, t = u :: v → z = true → u.at_ ≠ h.at_ + h.old.length) ∧ Rise n z (h.at_ + h.old.length) t
theorem hunk_fine {β : Type} (a b : List β) (r : Nat) {s : Sp} (hs : LocSp a b s) (k1 : min r s.a0 ≤ s.b0) (k2 : s.b1 + min r (a.length - s.a1) ≤ b.length) :
    (hunkOf a b r s).old.length = s.a1 + min r (a.length - s.a1) - (s.a0 - min r s.a0) ∧ (hunkOf a b r s).new.length = s.b1 + min r (a.length - s.a1) - (s.b0 - min r s.a0) ∧ (hunkOf a b r s).at_ = s.a0 - min r s.a0 := by
  have := hs.la
  refine ⟨?_, ?_, rfl⟩
  · simp only [hunkOf, List.length_drop, List.length_take]; omega
  · simp only [hunkOf, List.length_drop, List.length_take]; omega
theorem rise_of {β : Type} (a b : List β) (r : Nat) : ∀ (l : List Sp) (s : Sp) (e : Nat), min r s.a0 ≤ s.b0 → e + min r s.a0 ≤ s.a0 → Sps (2 * r) a b (s :: l) → Rise a.length (decide (r = 0)) e ((s :: l).map (hunkOf a b r)) := by
  intro l
  induction l with
  | nil =>
    intro s e h0 he hs
    obtain ⟨h1, h2⟩ := hs
    have hk : s.b1 + min r (a.length - s.a1) ≤ b.length := by
      have := congrArg List.length h2
      rw [List.length_drop, List.length_drop] at this
      have := h1.lb; omega
    obtain ⟨q1, q2, q3⟩ := hunk_fine a b r h1 h0 hk
    have a1 := h1.ha; have a2 := h1.hb; have a3 := h1.ne; have a4 := h1.la; have a5 := h1.lb
    simp only [List.map_cons, List.map_nil, Rise]
    refine ⟨by omega, by omega, by omega, fun hz => ?_, fun u v h => (by cases h), trivial⟩
    have hr : r = 0 := of_decide_eq_true hz
    subst hr
    intro h3 h4
    have := h1.df (by omega) (by omega)
    simp only [hunkOf, Nat.zero_min, Nat.sub_zero, Nat.add_zero, List.getElem_drop, List.getElem_take]
    exact this
  | cons t l ih =>
    intro s e h0 he hs
    obtain ⟨h1, ⟨p1, p2, p3, p4⟩, h3, h4⟩ := hs
    have ht : LocSp a b t := by
      cases l with
      | nil => exact h4.1
      | cons v w => exact h4.1
    have a1 := h1.ha; have a2 := h1.hb; have a3 := h1.ne; have a4 := h1.la; have a5 := h1.lb
    have b1 := ht.ha; have b2 := ht.hb; have b3 := ht.la; have b4 := ht.lb
    have hk : s.b1 + min r (a.length - s.a1) ≤ b.length := by omega
    obtain ⟨q1, q2, q3⟩ := hunk_fine a b r h1 h0 hk
    have ih' := ih t ((hunkOf a b r s).at_ + (hunkOf a b r s).old.length) (by omega) (by omega) h4
    rw [List.map_cons, Rise]
    refine ⟨by omega, by omega, by omega, fun hz => ?_, fun u v h hz => ?_, ih'⟩
    · have hr : r = 0 := of_decide_eq_true hz
      subst hr
      intro h5 h6
      have := h1.df (by omega) (by omega)
      simp only [hunkOf, Nat.zero_min, Nat.sub_zero, Nat.add_zero, List.getElem_drop, List.getElem_take]
      exact this
    · rw [List.map_cons] at h
      cases h
      have hr : r = 0 := of_decide_eq_true hz
      subst hr
      simp only [hunkOf, Nat.zero_min] at *
      omega
theorem between_rise (a b : List α) (r : Nat) : Rise a.length (decide (r = 0)) 0 (between a b r) := by
  rcases spans_all (2 * r) a b with ⟨h, _⟩ | ⟨l, t, h, h1, h2, h3⟩
  · rw [between, h]; trivial
  · rw [between, h]
    exact rise_of a b r t l 0 (by omega) (by omega) h3
theorem spF_len (g : Nat) : ∀ (l : List (Nat × Nat)) (i j : Nat) (acc : List Sp), (spF g l i j acc).length ≤ acc.length + l.length := by
  have ha : ∀ (acc : List Sp) (s : Sp), (addSp g acc s).length ≤ acc.length + 1 := fun acc s => by
    rcases List.eq_nil_or_concat acc with rfl | ⟨q, l, rfl⟩
    · simp [addSp]
    · rw [List.concat_eq_append, addSp_snoc]; split <;> simp
  intro l
  induction l with
  | nil => intro i j acc; simp [spF]
  | cons x l ih =>
    obtain ⟨op, n⟩ := x
    intro i j acc
    rw [spF]
    split
    · have := ih (i + n) (j + n) acc; simp only [List.length_cons]; omega
    · split
      · have := ih (i + n) j (addSp g acc ⟨i, i + n, j, j⟩); have := ha acc ⟨i, i + n, j, j⟩; simp only [List.length_cons]; omega
      · have := ih i (j + n) (addSp g acc ⟨i, i, j, j + n⟩); have := ha acc ⟨i, i, j, j + n⟩; simp only [List.length_cons]; omega
theorem between_len (a b : List α) (r : Nat) : (between a b r).length ≤ (script a b).length := by
  rw [between, List.length_map, spans]
  have := spF_len (2 * r) (script a b) 0 0 []
  simpa using this
end Go.DiffM
