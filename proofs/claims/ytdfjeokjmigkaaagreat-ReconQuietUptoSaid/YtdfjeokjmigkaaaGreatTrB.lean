/-
  Plain: entries, rows of entries that rise, what stands where.
-/
import Derived.Test.YtdfjeokjmigkaaaGreatTrA
set_option linter.unusedSimpArgs false
set_option linter.unusedVariables false
namespace Go.Tr
open Go
abbrev Ent := ByteArray × Int × ByteArray
def nil0 : Int × ByteArray := (0, ByteArray.empty)
def getN (t : List Ent) (p : ByteArray) : Int × ByteArray := ((t.find? fun e => decide (e.1 = p)).map (·.2)).getD nil0
def rise (t : List Ent) : Prop := t.Pairwise fun a b => blt a.1 b.1 = true
def place (t : List Ent) (p : ByteArray) : Nat := t.countP fun e => blt e.1 p
def there (t : List Ent) (p : ByteArray) : Bool := t.any fun e => decide (e.1 = p)
theorem rise_get {t : List Ent} (h : rise t) {i j : Nat} (hij : i < j) (hj : j < t.length) : blt (t[i]'(by omega)).1 t[j].1 = true := List.pairwise_iff_getElem.1 h i j (by omega) hj hij
theorem countP_at {α : Type} (f : α → Bool) : ∀ (t : List α) (i : Nat), i ≤ t.length → (∀ a (h : a < t.length), a < i → f t[a] = true) → (∀ a (h : a < t.length), i ≤ a → f t[a] = false) → t.countP f = i
 | [], i, h, _, _ => by simp at h; subst h; rfl
 | x :: r, 0, h, h1, h2 => by
  rw [List.countP_eq_zero]
  intro a ha
  obtain ⟨k, hk, rfl⟩ := List.getElem_of_mem ha
  rw [h2 k hk (Nat.zero_le _)]; simp
 | x :: r, i + 1, h, h1, h2 => by
  rw [List.countP_cons, countP_at f r i (by simpa using h) (fun a ha hi => h1 (a + 1) (by simp; omega) (by omega)) (fun a ha hi => h2 (a + 1) (by simp; omega) (by omega))]
  have := h1 0 (by simp) (by omega)
  simp only [List.getElem_cons_zero] at this
  simp [this]
theorem place_at {t : List Ent} {p : ByteArray} {i : Nat} (hi : i ≤ t.length) (h1 : ∀ a (h : a < t.length), a < i → blt t[a].1 p = true) (h2 : ∀ a (h : a < t.length), i ≤ a → blt t[a].1 p = false) : place t p = i := countP_at _ t i hi h1 h2
theorem place_le (t : List Ent) (p : ByteArray) : place t p ≤ t.length := List.countP_le_length ..
theorem place_spec : ∀ {t : List Ent} (h : rise t) (p : ByteArray), (∀ a (h : a < t.length), a < place t p → blt t[a].1 p = true) ∧ (∀ a (h : a < t.length), place t p ≤ a → blt t[a].1 p = false)
 | [], _, p => ⟨fun a h => by simp at h, fun a h => by simp at h⟩
 | x :: r, h, p => by
  have hr := (List.pairwise_cons.1 h)
  obtain ⟨i1, i2⟩ := place_spec hr.2 p
  unfold place at i1 i2 ⊢
  rw [List.countP_cons]
  cases e : blt x.1 p with
  | true =>
   simp only [if_true]
   refine ⟨fun a ha hi => ?_, fun a ha hi => ?_⟩
   ·cases a with
    | zero => simpa using e
    | succ a => simpa using i1 a (by simpa using ha) (by omega)
   ·cases a with
    | zero => omega
    | succ a => simpa using i2 a (by simpa using ha) (by omega)
  | false =>
   have z : r.countP (fun e => blt e.1 p) = 0 := by
    rw [List.countP_eq_zero]
    intro y hy
    have := hr.1 y hy
    intro hb
    rw [blt_trans this hb] at e; cases e
   rw [z]
   simp only [Bool.false_eq_true, if_false]
   refine ⟨fun a ha hi => by omega, fun a ha hi => ?_⟩
   cases a with
   | zero => simpa using e
   | succ a => simpa using i2 a (by simpa using ha) (by rw [z]; omega)
theorem there_place {t : List Ent} (h : rise t) (p : ByteArray) : there t p = decide (∃ hp : place t p < t.length, t[place t p].1 = p) := by
 obtain ⟨h1, h2⟩ := place_spec h p
 unfold there
 rw [Bool.eq_iff_iff, List.any_eq_true]
 simp only [decide_eq_true_eq]
 constructor
 ·rintro ⟨e, he, rfl⟩
  obtain ⟨k, hk, rfl⟩ := List.getElem_of_mem he
  have hk2 : place t t[k].1 = k := by
   refine place_at (by omega) (fun a ha hi => rise_get h hi hk) (fun a ha hi => ?_)
   rcases Nat.lt_or_ge k a with h' | h'
   ·exact blt_asymm (rise_get h h' ha)
   ·have : a = k := by omega
    subst this; exact blt_irr _
  exact ⟨by rw [hk2]; exact hk, by simp only [hk2]⟩
 ·rintro ⟨hp, e⟩
  exact ⟨_, List.getElem_mem hp, e⟩
theorem find_at {t : List Ent} (h : rise t) {i : Nat} (hi : i < t.length) : (t.find? fun e => decide (e.1 = t[i].1)) = some t[i] := by
 rw [List.find?_eq_some_iff_getElem]
 refine ⟨by simp, i, hi, rfl, fun j hj => ?_⟩
 have := blt_ne (rise_get h hj hi)
 simpa using this
theorem getN_at {t : List Ent} (h : rise t) {i : Nat} (hi : i < t.length) : getN t t[i].1 = t[i].2 := by rw [getN, find_at h hi]; rfl
theorem getN_none {t : List Ent} {p : ByteArray} (h : there t p = false) : getN t p = nil0 := by
 have : (t.find? fun e => decide (e.1 = p)) = none := by
  rw [List.find?_eq_none]
  intro e he
  have := List.any_eq_false.1 h e he
  exact this
 rw [getN, this]; rfl
theorem getN_place {t : List Ent} (h : rise t) (p : ByteArray) : getN t p = if hp : place t p < t.length ∧ there t p = true then (t[place t p]'hp.1).2 else nil0 := by
 by_cases hp : place t p < t.length ∧ there t p = true
 ·rw [dif_pos hp]
  have := hp.2
  rw [there_place h p, decide_eq_true_eq] at this
  obtain ⟨h1, e⟩ := this
  have := getN_at h h1
  rw [e] at this; exact this
 ·rw [dif_neg hp]
  refine getN_none ?_
  cases e : there t p with
  | false => rfl
  | true =>
   have := e
   rw [there_place h p, decide_eq_true_eq] at this
   exact (hp ⟨this.1, e⟩).elim
end Go.Tr
