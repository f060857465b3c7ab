/-
  Plain: entries, rows of entries that rise, what stands where.
-/
import Derived.Test.YtdfjeokjmigkaaaGreatRows
import Derived.Test.YtdfjeokjmigkaaaGreatGd
import Derived.JoinedCond
import Derived.Deep.CondSized
import GoSem.Op.String
import Derived.Lib.Bytealg
section
set_option linter.unusedVariables false
set_option linter.unusedSimpArgs false
namespace Go.Proofs.YtdfjeokjmigkaaaGreat
open Go Go.Eng Go.RowKit Go.ChangeShapes Go.WideShapes Go.ChangeAt
theorem qXi {H : Type} : ∀ (l : List (DataW H)), Rows.uptoBulkAll l = (l.map Rows.uptoBulk).sum
 | [] => by simp [Rows.uptoBulkAll]
 | d :: r => by rw [Rows.uptoBulkAll, qXi r]; rfl
theorem zQj {H : Type} : ∀ (d : DataW H), 1 ≤ Rows.uptoBulk d := fun d => by
 cases d with
 | lit l => cases l <;> simp [Rows.uptoBulk]
 | _ => simp [Rows.uptoBulk]
theorem qL8 {H : Type} : Bulk (H := H) Rows.uptoBulk := by
 refine ⟨zQj, fun b => ?_, fun es rest => ?_, fun xs => ?_⟩
 ·rw [Rows.uptoBulk]; exact Nat.le_refl _
 ·rw [Rows.uptoBulk, qXi]; omega
 ·rw [Rows.uptoBulk, qXi]; omega
theorem zQk {H : Type} {ds gs : List (DataW H)} (hk : Rows.uptoSmall H (ds ++ gs) = true) : (ds.map Rows.uptoBulk).sum ≤ 1048576 := by
 have h : Rows.uptoBulkAll (ds ++ gs) ≤ 1048576 := of_decide_eq_true hk
 rw [qXi, List.map_append, List.sum_append] at h
 omega
theorem zGj (s : ByteArray) : fw (.v (.string s)) = s.size + 1 := by rw [fw]
end Go.Proofs.YtdfjeokjmigkaaaGreat
end
section
set_option linter.unusedSimpArgs false
set_option linter.unusedVariables false
namespace Go.Tr
open Go
def blt (a b : ByteArray) : Bool := Op.bytesLess a.toList b.toList
theorem qQq : ∀ (a : List UInt8), Op.bytesLess a a = false
 | [] => rfl
 | x :: r => by simp [Op.bytesLess, qQq r]
theorem qHu : ∀ {a b c : List UInt8}, Op.bytesLess a b = true → Op.bytesLess b c = true → Op.bytesLess a c = true
 | _, [], c, h, _ => by cases ‹List UInt8› <;> simp [Op.bytesLess] at h
 | _, _ :: _, [], _, h => by simp [Op.bytesLess] at h
 | [], _ :: _, _ :: _, _, _ => by simp [Op.bytesLess]
 | x :: a, y :: b, z :: c, h1, h2 => by
  simp only [Op.bytesLess, Bool.or_eq_true, decide_eq_true_eq, Bool.and_eq_true, beq_iff_eq] at h1 h2 ⊢
  rcases h1 with h1 | ⟨rfl, h1⟩
  ·rcases h2 with h2 | ⟨rfl, h2⟩
   ·exact .inl (UInt8.lt_trans h1 h2)
   ·exact .inl h1
  ·rcases h2 with h2 | ⟨rfl, h2⟩
   ·exact .inl h2
   ·exact .inr ⟨rfl, qHu h1 h2⟩
theorem qQp : ∀ (a b : List UInt8), Op.bytesLess a b = true ∨ a = b ∨ Op.bytesLess b a = true
 | [], [] => .inr (.inl rfl)
 | [], _ :: _ => .inl rfl
 | _ :: _, [] => .inr (.inr rfl)
 | x :: a, y :: b => by
  simp only [Op.bytesLess, Bool.or_eq_true, decide_eq_true_eq, Bool.and_eq_true, beq_iff_eq]
  by_cases h : x = y
  ·subst h
   rcases qQp a b with h | rfl | h
   ·exact .inl (.inr ⟨rfl, h⟩)
   ·exact .inr (.inl rfl)
   ·exact .inr (.inr (.inr ⟨rfl, h⟩))
  ·have : x < y ∨ y < x := by
    rcases Nat.lt_trichotomy x.toNat y.toNat with h' | h' | h'
    ·exact .inl h'
    ·exact (h (UInt8.toNat_inj.1 h')).elim
    ·exact .inr h'
   rcases this with h' | h'
   ·exact .inl (.inl h')
   ·exact .inr (.inr (.inl h'))
theorem toList_inj {a b : ByteArray} (h : a.toList = b.toList) : a = b := by
 rw [Lib.toList_data, Lib.toList_data] at h
 cases a; cases b; simp only [ByteArray.mk.injEq]; exact Array.toList_inj.1 h
theorem wS (a : ByteArray) : blt a a = false := qQq _
theorem pD {a b c : ByteArray} (h1 : blt a b = true) (h2 : blt b c = true) : blt a c = true := qHu h1 h2
theorem qN6 (a b : ByteArray) : blt a b = true ∨ a = b ∨ blt b a = true := by
 rcases qQp a.toList b.toList with h | h | h
 ·exact .inl h
 ·exact .inr (.inl (toList_inj h))
 ·exact .inr (.inr h)
theorem qE2 {a b : ByteArray} (h : blt a b = true) : blt b a = false := by
 cases e : blt b a with
 | false => rfl
 | true => exact absurd (pD h e) (by rw [wS]; simp)
theorem zP3 {a b : ByteArray} (h : blt a b = true) : a ≠ b := fun e => by subst e; rw [wS] at h; cases h
theorem zGx : ∀ (a b : List UInt8), decide (Lib.compareBytes a b < 0) = Op.bytesLess a b
 | [], [] => rfl
 | [], _ :: _ => rfl
 | _ :: _, [] => rfl
 | x :: a, y :: b => by
  simp only [Lib.compareBytes, Op.bytesLess]
  by_cases h : x < y
  ·simp [h]
  ·by_cases h2 : y < x
   ·have : x ≠ y := fun e => by subst e; exact h h2
    simp [h, h2, this]
   ·have : x = y := by
     apply UInt8.toNat_inj.1
     have h' : ¬ x.toNat < y.toNat := h
     have h2' : ¬ y.toNat < x.toNat := h2
     omega
    subst this
    simp only [h, if_false]
    rw [zGx a b]; simp
theorem qYc : ∀ (a b : List UInt8), decide (Lib.compareBytes a b = 0) = decide (a = b)
 | [], [] => rfl
 | [], _ :: _ => by simp [Lib.compareBytes]
 | _ :: _, [] => by simp [Lib.compareBytes]
 | x :: a, y :: b => by
  simp only [Lib.compareBytes]
  by_cases h : x < y
  ·have : x ≠ y := fun e => by subst e; exact absurd h (by simp)
   simp [h, this]
  ·by_cases h2 : y < x
   ·have : x ≠ y := fun e => by subst e; exact h h2
    simp [h, h2, this]
   ·have : x = y := by
     apply UInt8.toNat_inj.1
     have h' : ¬ x.toNat < y.toNat := h
     have h2' : ¬ y.toNat < x.toNat := h2
     omega
    subst this
    simp only [h, if_false]
    rw [qYc a b]; simp
def zCv (a b : ByteArray) : Int := Lib.compareBytes a.data.toList b.data.toList
theorem zLj (a b : ByteArray) : decide (zCv a b < 0) = blt a b := by rw [zCv, zGx, blt, Lib.toList_data, Lib.toList_data]
theorem zLk (a b : ByteArray) : decide (zCv a b = 0) = decide (a = b) := by
 rw [zCv, qYc, decide_eq_decide]
 exact ⟨fun h => toList_inj (by rw [Lib.toList_data, Lib.toList_data]; exact h), fun h => by rw [h]⟩
end Go.Tr
end
section
set_option linter.unusedSimpArgs false
set_option linter.unusedVariables false
namespace Go.Tr
open Go
abbrev Ent := ByteArray × Int × ByteArray
def qZ8 : Int × ByteArray := (0, ByteArray.empty)
def iN (t : List Ent) (p : ByteArray) : Int × ByteArray := ((t.find? fun e => decide (e.1 = p)).map (·.2)).getD qZ8
def rise (t : List Ent) : Prop := t.Pairwise fun a b => blt a.1 b.1 = true
def aZ (t : List Ent) (p : ByteArray) : Nat := t.countP fun e => blt e.1 p
def lW (t : List Ent) (p : ByteArray) : Bool := t.any fun e => decide (e.1 = p)
theorem qHb {t : List Ent} (h : rise t) {i j : Nat} (hij : i < j) (hj : j < t.length) : blt (t[i]'(by omega)).1 t[j].1 = true := List.pairwise_iff_getElem.1 h i j (by omega) hj hij
theorem qLq {α : Type} (f : α → Bool) : ∀ (t : List α) (i : Nat), i ≤ t.length → (∀ a (h : a < t.length), a < i → f t[a] = true) → (∀ a (h : a < t.length), i ≤ a → f t[a] = false) → t.countP f = i
 | [], i, h, _, _ => by simp at h; subst h; rfl
 | x :: r, 0, h, h1, h2 => by
  rw [List.countP_eq_zero]
  intro a ha
  obtain ⟨k, hk, rfl⟩ := List.getElem_of_mem ha
  rw [h2 k hk (Nat.zero_le _)]; simp
 | x :: r, i + 1, h, h1, h2 => by
  rw [List.countP_cons, qLq f r i (by simpa using h) (fun a ha hi => h1 (a + 1) (by simp; omega) (by omega)) (fun a ha hi => h2 (a + 1) (by simp; omega) (by omega))]
  have := h1 0 (by simp) (by omega)
  simp only [List.getElem_cons_zero] at this
  simp [this]
theorem zDz {t : List Ent} {p : ByteArray} {i : Nat} (hi : i ≤ t.length) (h1 : ∀ a (h : a < t.length), a < i → blt t[a].1 p = true) (h2 : ∀ a (h : a < t.length), i ≤ a → blt t[a].1 p = false) : aZ t p = i := qLq _ t i hi h1 h2
theorem zDy (t : List Ent) (p : ByteArray) : aZ t p ≤ t.length := List.countP_le_length ..
theorem qCf : ∀ {t : List Ent} (h : rise t) (p : ByteArray), (∀ a (h : a < t.length), a < aZ t p → blt t[a].1 p = true) ∧ (∀ a (h : a < t.length), aZ t p ≤ a → blt t[a].1 p = false)
 | [], _, p => ⟨fun a h => by simp at h, fun a h => by simp at h⟩
 | x :: r, h, p => by
  have hr := (List.pairwise_cons.1 h)
  obtain ⟨i1, i2⟩ := qCf hr.2 p
  unfold aZ at i1 i2 ⊢
  rw [List.countP_cons]
  cases e : blt x.1 p with
  | true =>
   simp only [if_true]
   refine ⟨fun a ha hi => ?_, fun a ha hi => ?_⟩
   ·cases a with
    | zero => simpa using e
    | succ a => simpa using i1 a (by simpa using ha) (by omega)
   ·cases a with
    | zero => omega
    | succ a => simpa using i2 a (by simpa using ha) (by omega)
  | false =>
   have z : r.countP (fun e => blt e.1 p) = 0 := by
    rw [List.countP_eq_zero]
    intro y hy
    have := hr.1 y hy
    intro hb
    rw [pD this hb] at e; cases e
   rw [z]
   simp only [Bool.false_eq_true, if_false]
   refine ⟨fun a ha hi => by omega, fun a ha hi => ?_⟩
   cases a with
   | zero => simpa using e
   | succ a => simpa using i2 a (by simpa using ha) (by rw [z]; omega)
theorem nF {t : List Ent} (h : rise t) (p : ByteArray) : lW t p = decide (∃ hp : aZ t p < t.length, t[aZ t p].1 = p) := by
 obtain ⟨h1, h2⟩ := qCf h p
 unfold lW
 rw [Bool.eq_iff_iff, List.any_eq_true]
 simp only [decide_eq_true_eq]
 constructor
 ·rintro ⟨e, he, rfl⟩
  obtain ⟨k, hk, rfl⟩ := List.getElem_of_mem he
  have hk2 : aZ t t[k].1 = k := by
   refine zDz (by omega) (fun a ha hi => qHb h hi hk) (fun a ha hi => ?_)
   rcases Nat.lt_or_ge k a with h' | h'
   ·exact qE2 (qHb h h' ha)
   ·have : a = k := by omega
    subst this; exact wS _
  exact ⟨by rw [hk2]; exact hk, by simp only [hk2]⟩
 ·rintro ⟨hp, e⟩
  exact ⟨_, List.getElem_mem hp, e⟩
theorem zK5 {t : List Ent} (h : rise t) {i : Nat} (hi : i < t.length) : (t.find? fun e => decide (e.1 = t[i].1)) = some t[i] := by
 rw [List.find?_eq_some_iff_getElem]
 refine ⟨by simp, i, hi, rfl, fun j hj => ?_⟩
 have := zP3 (qHb h hj hi)
 simpa using this
theorem zKs {t : List Ent} (h : rise t) {i : Nat} (hi : i < t.length) : iN t t[i].1 = t[i].2 := by rw [iN, zK5 h hi]; rfl
theorem zB9 {t : List Ent} {p : ByteArray} (h : lW t p = false) : iN t p = qZ8 := by
 have : (t.find? fun e => decide (e.1 = p)) = none := by
  rw [List.find?_eq_none]
  intro e he
  have := List.any_eq_false.1 h e he
  exact this
 rw [iN, this]; rfl
theorem qWu {t : List Ent} (h : rise t) (p : ByteArray) : iN t p = if hp : aZ t p < t.length ∧ lW t p = true then (t[aZ t p]'hp.1).2 else qZ8 := by
 by_cases hp : aZ t p < t.length ∧ lW t p = true
 ·rw [dif_pos hp]
  have := hp.2
  rw [nF h p, decide_eq_true_eq] at this
  obtain ⟨h1, e⟩ := this
  have := zKs h h1
  rw [e] at this; exact this
 ·rw [dif_neg hp]
  refine zB9 ?_
  cases e : lW t p with
  | false => rfl
  | true =>
   have := e
   rw [nF h p, decide_eq_true_eq] at this
   exact (hp ⟨this.1, e⟩).elim
end Go.Tr
end
