/-
  Recon: where two of the three trees are alike, one thing alone is said: plain.
-/
import Derived.Test.YtdfjeokjmigkaaaGreatRcA
set_option linter.unusedSimpArgs false
set_option linter.unusedVariables false
namespace Go.Rc
open Go Go.Tr Go.Eng Go.Dk
variable {mg : (Int × ByteArray) → (Int × ByteArray) → (Int × ByteArray) → Bool}
theorem quiet_hs (A H : List Ent) : ∀ (k : Nat) (top : ByteArray), ∀ x ∈ belowG mg A H H k top, x.2 = 1
 | 0, _, x, hx => by simp [belowG] at hx
 | k + 1, top, x, hx => by
  rw [belowG] at hx
  obtain ⟨p, -, hx⟩ := List.mem_flatMap.1 hx
  unfold weighG at hx
  rw [if_pos rfl] at hx
  split at hx
  ·cases hx
  ·rw [List.mem_singleton] at hx; rw [hx]
theorem quiet_ha (A S : List Ent) : ∀ (k : Nat) (top : ByteArray), ∀ x ∈ belowG mg A A S k top, x.2 = 3
 | 0, _, x, hx => by simp [belowG] at hx
 | k + 1, top, x, hx => by
  rw [belowG] at hx
  obtain ⟨p, -, hx⟩ := List.mem_flatMap.1 hx
  unfold weighG at hx
  split at hx
  ·rw [if_pos rfl] at hx; cases hx
  ·split at hx
   ·rename_i h
    rw [if_pos h.1, List.nil_append] at hx
    exact quiet_ha A S k p x hx
   ·rw [if_pos rfl, List.mem_singleton] at hx; rw [hx]
theorem quiet_sa (A H : List Ent) : ∀ (k : Nat) (top : ByteArray), ∀ x ∈ belowG mg A H A k top, x.2 = 2
 | 0, _, x, hx => by simp [belowG] at hx
 | k + 1, top, x, hx => by
  rw [belowG] at hx
  obtain ⟨p, -, hx⟩ := List.mem_flatMap.1 hx
  unfold weighG at hx
  split at hx
  ·rename_i h
   rw [if_pos h.symm] at hx; cases hx
  ·rename_i h0
   split at hx
   ·rename_i h
    rw [if_pos h.2, List.nil_append] at hx
    exact quiet_sa A H k p x hx
   ·rw [if_pos rfl, List.mem_singleton] at hx; rw [hx]
theorem quiet_all (A : List Ent) (k : Nat) (top : ByteArray) : belowG mg A A A k top = [] := by
 cases h : belowG mg A A A k top with
 | nil => rfl
 | cons x r =>
  have h1 := quiet_hs (mg := mg) A A k top x (by rw [h]; simp)
  have h2 := quiet_ha (mg := mg) A A k top x (by rw [h]; simp)
  rw [h1] at h2; cases h2
def Vals (n : Int) (L : LN) : Prop := ∀ x ∈ L, 0 ≤ x.2 ∧ x.2 ≤ n
theorem lookD_vals {n : Int} {L : LN} (h : Vals n L) (hn : 0 ≤ n) (q : ByteArray) : 0 ≤ (lookD L q).getD 0 ∧ (lookD L q).getD 0 ≤ n := by
 cases e : lookD L q with
 | none => exact ⟨Int.le_refl _, hn⟩
 | some v => exact h (q, v) (lookD_mem e)
theorem step_vals {n : Int} {top : ByteArray} {L : LN} (e : Ent) (h : Vals n L) (hn : 0 ≤ n) : Vals (n + 1) (nameStep top L e) := by
 intro x hx
 unfold nameStep at hx
 cases hq : nameOf top e with
 | none => rw [hq] at hx; have := h x hx; omega
 | some q =>
  rw [hq] at hx
  rcases mem_put hx with rfl | hx
  ·have := lookD_vals h hn q
   exact ⟨by simp only; omega, by simp only; omega⟩
  ·have := h x hx; omega
theorem names_none {top : ByteArray} {es : List Ent} (h : ∀ e ∈ es, e.1.size ≤ top.size) : namesG top es = [] := by
 cases hx : namesG top es with
 | nil => rfl
 | cons q r =>
  rcases names_mem es [] (q := q) (by rw [show es.foldl (nameStep top) [] = namesG top es from rfl, hx]; simp) with h0 | ⟨e, he, hq⟩
  ·cases h0
  ·have := name_size hq
   have := h e he
   omega
end Go.Rc
