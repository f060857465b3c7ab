/-
  Plain: the order of texts; rows that rise; what a search finds.
-/
import GoSem.Op.String
import Derived.Lib.Bytealg
set_option linter.unusedSimpArgs false
set_option linter.unusedVariables false
namespace Go.Tr
open Go
def blt (a b : ByteArray) : Bool := Op.bytesLess a.toList b.toList
theorem less_irr : ∀ (a : List UInt8), Op.bytesLess a a = false
 | [] => rfl
 | x :: r => by simp [Op.bytesLess, less_irr r]
theorem less_trans : ∀ {a b c : List UInt8}, Op.bytesLess a b = true → Op.bytesLess b c = true → Op.bytesLess a c = true
 | _, [], c, h, _ => by cases ‹List UInt8› <;> simp [Op.bytesLess] at h
 | _, _ :: _, [], _, h => by simp [Op.bytesLess] at h
 | [], _ :: _, _ :: _, _, _ => by simp [Op.bytesLess]
 | x :: a, y :: b, z :: c, h1, h2 => by
  simp only [Op.bytesLess, Bool.or_eq_true, decide_eq_true_eq, Bool.and_eq_true, beq_iff_eq] at h1 h2 ⊢
  rcases h1 with h1 | ⟨rfl, h1⟩
  ·rcases h2 with h2 | ⟨rfl, h2⟩
   ·exact .inl (UInt8.lt_trans h1 h2)
   ·exact .inl h1
  ·rcases h2 with h2 | ⟨rfl, h2⟩
   ·exact .inl h2
   ·exact .inr ⟨rfl, less_trans h1 h2⟩
theorem less_tri : ∀ (a b : List UInt8), Op.bytesLess a b = true ∨ a = b ∨ Op.bytesLess b a = true
 | [], [] => .inr (.inl rfl)
 | [], _ :: _ => .inl rfl
 | _ :: _, [] => .inr (.inr rfl)
 | x :: a, y :: b => by
  simp only [Op.bytesLess, Bool.or_eq_true, decide_eq_true_eq, Bool.and_eq_true, beq_iff_eq]
  by_cases h : x = y
  ·subst h
   rcases less_tri a b with h | rfl | h
   ·exact .inl (.inr ⟨rfl, h⟩)
   ·exact .inr (.inl rfl)
   ·exact .inr (.inr (.inr ⟨rfl, h⟩))
  ·have : x < y ∨ y < x := by
    rcases Nat.lt_trichotomy x.toNat y.toNat with h' | h' | h'
    ·exact .inl h'
    ·exact (h (UInt8.toNat_inj.1 h')).elim
    ·exact .inr h'
   rcases this with h' | h'
   ·exact .inl (.inl h')
   ·exact .inr (.inr (.inl h'))
theorem toList_inj {a b : ByteArray} (h : a.toList = b.toList) : a = b := by
 rw [Lib.toList_data, Lib.toList_data] at h
 cases a; cases b; simp only [ByteArray.mk.injEq]; exact Array.toList_inj.1 h
theorem blt_irr (a : ByteArray) : blt a a = false := less_irr _
theorem blt_trans {a b c : ByteArray} (h1 : blt a b = true) (h2 : blt b c = true) : blt a c = true := less_trans h1 h2
theorem blt_tri (a b : ByteArray) : blt a b = true ∨ a = b ∨ blt b a = true := by
 rcases less_tri a.toList b.toList with h | h | h
 ·exact .inl h
 ·exact .inr (.inl (toList_inj h))
 ·exact .inr (.inr h)
theorem blt_asymm {a b : ByteArray} (h : blt a b = true) : blt b a = false := by
 cases e : blt b a with
 | false => rfl
 | true => exact absurd (blt_trans h e) (by rw [blt_irr]; simp)
theorem blt_ne {a b : ByteArray} (h : blt a b = true) : a ≠ b := fun e => by subst e; rw [blt_irr] at h; cases h
theorem cmp_lt : ∀ (a b : List UInt8), decide (Lib.compareBytes a b < 0) = Op.bytesLess a b
 | [], [] => rfl
 | [], _ :: _ => rfl
 | _ :: _, [] => rfl
 | x :: a, y :: b => by
  simp only [Lib.compareBytes, Op.bytesLess]
  by_cases h : x < y
  ·simp [h]
  ·by_cases h2 : y < x
   ·have : x ≠ y := fun e => by subst e; exact h h2
    simp [h, h2, this]
   ·have : x = y := by
     apply UInt8.toNat_inj.1
     have h' : ¬ x.toNat < y.toNat := h
     have h2' : ¬ y.toNat < x.toNat := h2
     omega
    subst this
    simp only [h, if_false]
    rw [cmp_lt a b]; simp
theorem cmp_eq0 : ∀ (a b : List UInt8), decide (Lib.compareBytes a b = 0) = decide (a = b)
 | [], [] => rfl
 | [], _ :: _ => by simp [Lib.compareBytes]
 | _ :: _, [] => by simp [Lib.compareBytes]
 | x :: a, y :: b => by
  simp only [Lib.compareBytes]
  by_cases h : x < y
  ·have : x ≠ y := fun e => by subst e; exact absurd h (by simp)
   simp [h, this]
  ·by_cases h2 : y < x
   ·have : x ≠ y := fun e => by subst e; exact h h2
    simp [h, h2, this]
   ·have : x = y := by
     apply UInt8.toNat_inj.1
     have h' : ¬ x.toNat < y.toNat := h
     have h2' : ¬ y.toNat < x.toNat := h2
     omega
    subst this
    simp only [h, if_false]
    rw [cmp_eq0 a b]; simp
def bcmp (a b : ByteArray) : Int := Lib.compareBytes a.data.toList b.data.toList
theorem bcmp_lt (a b : ByteArray) : decide (bcmp a b < 0) = blt a b := by rw [bcmp, cmp_lt, blt, Lib.toList_data, Lib.toList_data]
theorem bcmp_eq (a b : ByteArray) : decide (bcmp a b = 0) = decide (a = b) := by
 rw [bcmp, cmp_eq0, decide_eq_decide]
 exact ⟨fun h => toList_inj (by rw [Lib.toList_data, Lib.toList_data]; exact h), fun h => by rw [h]⟩
end Go.Tr
