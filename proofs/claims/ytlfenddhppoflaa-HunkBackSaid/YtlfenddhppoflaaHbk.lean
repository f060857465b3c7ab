/-
  What the pieces between two lists make: the plain part of HunkBack.
-/
import Derived.Test.YtlfenddhppoflaaHas
import Derived.Test.YtlfenddhppoflaaHnkA
set_option linter.unusedVariables false
set_option linter.unusedSimpArgs false
namespace Go.Proofs.Ytlfenddhppoflaa
open Go Go.DiffM
def toZ (h : Hk ByteArray) : HkZ := ⟨h.at_, h.old, h.new⟩
theorem hks_hkz (fr : Bool) (l : List (Hk ByteArray)) : hks fr l = hkz fr (l.map toZ) := by simp [hks, hkz, hkE, hkzE, toZ]
/-- pieces that lead from one list to another, from two places on -/
def FitH (a b : List ByteArray) : List (Hk ByteArray) → Nat → Nat → Prop
  | [], i, j => i ≤ a.length ∧ j ≤ b.length ∧ a.drop i = b.drop j
  | h :: t, i, j => ∃ q, i ≤ h.at_ ∧ j ≤ q ∧ (a.take h.at_).drop i = (b.take q).drop j ∧ (a.take (h.at_ + h.old.length)).drop h.at_ = h.old ∧ (b.take (q + h.new.length)).drop q = h.new ∧
      h.at_ + h.old.length ≤ a.length ∧ q + h.new.length ≤ b.length ∧ FitH a b t (h.at_ + h.old.length) (q + h.new.length)
theorem len_mid {β : Type} {a b : List β} {i p j q : Nat} (h : (a.take p).drop i = (b.take q).drop j) (h1 : i ≤ p) (h2 : p ≤ a.length) (h3 : j ≤ q) (h4 : q ≤ b.length) : p - i = q - j := by
  have := congrArg List.length h
  simp only [List.length_drop, List.length_take] at this
  omega
theorem take_mid {β : Type} (l : List β) {p q : Nat} (h : p ≤ q) : l.take p ++ (l.take q).drop p = l.take q := by
  have := take_drop_app l (Nat.zero_le p) h
  simp only [List.drop_zero] at this
  exact this.symm
theorem sub_mid {β : Type} {a b : List β} {i p j q i' p' : Nat} (h : (a.take p).drop i = (b.take q).drop j) (hi : i ≤ i') (hip : i' ≤ p') (hp : p' ≤ p) (hpa : p ≤ a.length) (hj : j ≤ q) (hqb : q ≤ b.length) : (a.take p').drop i' = (b.take (j + (p' - i))).drop (j + (i' - i)) := by
  have e := len_mid h (by omega) hpa hj hqb
  have h2 := congrArg (fun l => (l.take (p' - i)).drop (i' - i)) h
  simp only [List.take_drop, List.drop_drop, List.take_take] at h2
  rw [show i + (p' - i) = p' by omega, show min p' p = p' by omega, show i + (i' - i) = i' by omega, show min (j + (p' - i)) q = j + (p' - i) by omega] at h2
  exact h2
set_option maxHeartbeats 1000000 in
theorem fit_of (a b : List ByteArray) (r : Nat) : ∀ (l : List Sp) (s : Sp) (i j : Nat), i + min r s.a0 ≤ s.a0 → j + min r s.a0 ≤ s.b0 → (a.take s.a0).drop i = (b.take s.b0).drop j → Sps (2 * r) a b (s :: l) → FitH a b ((s :: l).map (hunkOf a b r)) i j := by
  intro l
  induction l with
  | nil =>
    intro s i j hi hj hk hs
    obtain ⟨h1, h2⟩ := hs
    have a1 := h1.ha; have a2 := h1.hb; have a4 := h1.la; have a5 := h1.lb
    have hlen : a.length - s.a1 = b.length - s.b1 := by
      have := congrArg List.length h2
      simpa only [List.length_drop] using this
    obtain ⟨q1, q2, q3⟩ := hunk_fine a b r h1 (by omega) (by omega)
    have o1 : (hunkOf a b r s).old = (a.take (s.a1 + min r (a.length - s.a1))).drop (s.a0 - min r s.a0) := rfl
    have o2 : (hunkOf a b r s).new = (b.take (s.b1 + min r (a.length - s.a1))).drop (s.b0 - min r s.a0) := rfl
    obtain ⟨m, hm⟩ : ∃ m, m = min r s.a0 := ⟨_, rfl⟩
    obtain ⟨M, hM⟩ : ∃ M, M = min r (a.length - s.a1) := ⟨_, rfl⟩
    have m1 : m ≤ s.a0 := by omega
    have M1 : M ≤ a.length - s.a1 := by omega
    rw [← hm] at hi hj q1 q2 q3 o1 o2
    rw [← hM] at q1 q2 o1 o2
    clear hm hM
    simp only [List.map_cons, List.map_nil, FitH]
    have e0 := len_mid hk (by omega) (by omega) (by omega) (by omega)
    have em := sub_mid hk (Nat.le_refl _) (show i ≤ s.a0 - m by omega) (by omega) (by omega) (by omega) (by omega)
    rw [show j + (s.a0 - m - i) = s.b0 - m by omega, show j + (i - i) = j by omega] at em
    have l1 : s.a0 - m + (s.a1 + M - (s.a0 - m)) = s.a1 + M := by omega
    have l2 : s.b0 - m + (s.b1 + M - (s.b0 - m)) = s.b1 + M := by omega
    refine ⟨s.b0 - m, by omega, by omega, ?_, ?_, ?_, by omega, by omega, by omega, by omega, ?_⟩
    · rw [q3, em]
    · rw [q1, q3, l1, o1]
    · rw [q2, l2, o2]
    · rw [q1, q2, q3, l1, l2, ← List.drop_drop, ← List.drop_drop, h2]
  | cons t l ih =>
    intro s i j hi hj hk hs
    obtain ⟨h1, ⟨p1, p2, p3, p4⟩, h3, h4⟩ := hs
    have ht : LocSp a b t := by
      cases l with
      | nil => exact h4.1
      | cons v w => exact h4.1
    have a1 := h1.ha; have a2 := h1.hb; have a4 := h1.la; have a5 := h1.lb
    have b1 := ht.ha; have b2 := ht.hb; have b3 := ht.la; have b4 := ht.lb
    have hr : min r (a.length - s.a1) = r := by omega
    obtain ⟨q1, q2, q3⟩ := hunk_fine a b r h1 (by omega) (by omega)
    have o1 : (hunkOf a b r s).old = (a.take (s.a1 + min r (a.length - s.a1))).drop (s.a0 - min r s.a0) := rfl
    have o2 : (hunkOf a b r s).new = (b.take (s.b1 + min r (a.length - s.a1))).drop (s.b0 - min r s.a0) := rfl
    obtain ⟨m, hm⟩ : ∃ m, m = min r s.a0 := ⟨_, rfl⟩
    have m1 : m ≤ s.a0 := by omega
    have m2 : m ≤ r := by omega
    rw [← hm] at hi hj q1 q2 q3 o1 o2
    rw [hr] at q1 q2 o1 o2
    clear hm hr
    have e0 := len_mid hk (by omega) (by omega) (by omega) (by omega)
    have em := sub_mid hk (Nat.le_refl _) (show i ≤ s.a0 - m by omega) (by omega) (by omega) (by omega) (by omega)
    rw [show j + (s.a0 - m - i) = s.b0 - m by omega, show j + (i - i) = j by omega] at em
    have en := sub_mid p4 (show s.a1 ≤ s.a1 + r by omega) (show s.a1 + r ≤ t.a0 by omega) (Nat.le_refl _) (by omega) (by omega) (by omega)
    rw [show s.b1 + (t.a0 - s.a1) = t.b0 by omega, show s.b1 + (s.a1 + r - s.a1) = s.b1 + r by omega] at en
    have t1 : min r t.a0 ≤ r := Nat.min_le_left _ _
    have ih' := ih t (s.a1 + r) (s.b1 + r) (by omega) (by omega) en h4
    have l1 : s.a0 - m + (s.a1 + r - (s.a0 - m)) = s.a1 + r := by omega
    have l2 : s.b0 - m + (s.b1 + r - (s.b0 - m)) = s.b1 + r := by omega
    rw [List.map_cons, FitH]
    refine ⟨s.b0 - m, by omega, by omega, ?_, ?_, ?_, by omega, by omega, ?_⟩
    · rw [q3, em]
    · rw [q1, q3, l1, o1]
    · rw [q2, l2, o2]
    · rw [q1, q2, q3, l1, l2]
      exact ih'
theorem between_fit (a b : List ByteArray) (r : Nat) : FitH a b (between a b r) 0 0 := by
  rcases spans_all (2 * r) a b with ⟨h, e⟩ | ⟨l, t, h, h1, h2, h3⟩
  · rw [between, h]; subst e; exact ⟨Nat.zero_le _, Nat.zero_le _, rfl⟩
  · rw [between, h]
    exact fit_of a b r t l 0 0 (by omega) (by omega) (by simpa using h2) h3
theorem between_nil (a b : List ByteArray) (r : Nat) : between a b r = [] ↔ a = b := by
  rcases spans_all (2 * r) a b with ⟨h, e⟩ | ⟨l, t, h, h1, h2, h3⟩
  · rw [between, h]; exact ⟨fun _ => e, fun _ => rfl⟩
  · rw [between, h]
    refine ⟨fun e => by simp at e, fun e => ?_⟩
    subst e
    have hl : LocSp a a l := by
      cases t with
      | nil => exact h3.1
      | cons v w => exact h3.1
    have := hl.ne; have := hl.la; have := hl.lb
    exact absurd (by simp only [h1]) (hl.df (by omega) (by omega))
theorem ap_ok (a : List ByteArray) (h : Hk ByteArray) (r : List HkZ) (p : Nat) (out : List ByteArray) (h1 : p ≤ h.at_) (h2 : h.at_ ≤ a.length) (hc : h.old.length ≤ a.length - h.at_ ∧ (a.take (h.at_ + h.old.length)).drop h.at_ = h.old) :
    apF a (toZ h :: r) p out = apF a r (h.at_ + h.old.length) (out ++ (a.take h.at_).drop p ++ h.new) := by
  have e1 : ¬ ((toZ h).at_ < p ∨ (a.length : Int) < (toZ h).at_) := by show ¬ ((h.at_ : Int) < p ∨ (a.length : Int) < (h.at_ : Int)); omega
  have e2 : (toZ h).old.length ≤ a.length - (toZ h).at_.toNat ∧ (a.take ((toZ h).at_.toNat + (toZ h).old.length)).drop (toZ h).at_.toNat = (toZ h).old := hc
  rw [apF, if_neg e1, if_pos e2]; rfl
theorem ap_no (a : List ByteArray) (h : Hk ByteArray) (r : List HkZ) (p : Nat) (out : List ByteArray) (h1 : p ≤ h.at_) (h2 : h.at_ ≤ a.length) (hc : ¬ (h.old.length ≤ a.length - h.at_ ∧ (a.take (h.at_ + h.old.length)).drop h.at_ = h.old)) :
    apF a (toZ h :: r) p out = (11, []) := by
  have e1 : ¬ ((toZ h).at_ < p ∨ (a.length : Int) < (toZ h).at_) := by show ¬ ((h.at_ : Int) < p ∨ (a.length : Int) < (h.at_ : Int)); omega
  have e2 : ¬ ((toZ h).old.length ≤ a.length - (toZ h).at_.toNat ∧ (a.take ((toZ h).at_.toNat + (toZ h).old.length)).drop (toZ h).at_.toNat = (toZ h).old) := hc
  rw [apF, if_neg e1, if_neg e2]
/-- applied they make the second list -/
theorem ap_fit (a b : List ByteArray) : ∀ (H : List (Hk ByteArray)) (i j : Nat), FitH a b H i j → apF a (H.map toZ) i (b.take j) = (0, b) := by
  intro H
  induction H with
  | nil => intro i j ⟨_, _, h⟩; simp only [List.map_nil, apF, h, List.take_append_drop]
  | cons h t ih =>
    intro i j ⟨q, h1, h2, h3, h4, h5, h6, h7, h8⟩
    have hc : h.old.length ≤ a.length - h.at_ ∧ (a.take (h.at_ + h.old.length)).drop h.at_ = h.old := ⟨by omega, h4⟩
    rw [List.map_cons, ap_ok _ _ _ _ _ h1 (by omega) hc, h3, take_mid b h2]
    conv => lhs; arg 4; arg 2; rw [← h5]
    rw [take_mid b (by omega)]
    exact ih _ _ h8
/-- taken back -/
theorem back_fit (a b : List ByteArray) : ∀ (H : List (Hk ByteArray)) (i j : Nat), i ≤ a.length → j ≤ b.length → FitH a b H i j → ∃ H', FitH b a H' j i ∧ backF (H.map toZ) ((j : Int) - i) = H'.map toZ ∧ backF (H'.map toZ) ((i : Int) - j) = H.map toZ := by
  intro H
  induction H with
  | nil => intro i j hi hj ⟨_, _, h⟩; exact ⟨[], ⟨hj, hi, h.symm⟩, rfl, rfl⟩
  | cons h t ih =>
    intro i j hi hj ⟨q, h1, h2, h3, h4, h5, h6, h7, h8⟩
    obtain ⟨H', f1, f2, f3⟩ := ih _ _ (by omega) (by omega) h8
    have e := len_mid h3 h1 (by omega) h2 (by omega)
    refine ⟨⟨q, h.new, h.old⟩ :: H', ⟨h.at_, h2, h1, h3.symm, h5, h4, h7, h6, f1⟩, ?_, ?_⟩
    · simp only [List.map_cons, backF, toZ]
      rw [show (h.at_ : Int) + ((j : Int) - i) = (q : Int) by omega, show (j : Int) - i + ((h.new.length : Int) - h.old.length) = ((q + h.new.length : Nat) : Int) - ((h.at_ + h.old.length : Nat) : Int) by omega]
      exact congrArg _ f2
    · simp only [List.map_cons, backF, toZ]
      rw [show (q : Int) + ((i : Int) - j) = (h.at_ : Int) by omega, show (i : Int) - j + ((h.old.length : Int) - h.new.length) = ((h.at_ + h.old.length : Nat) : Int) - ((q + h.new.length : Nat) : Int) by omega]
      exact congrArg _ f3
def inP (p : Nat) (h : Hk ByteArray) : Bool := decide (h.at_ ≤ p ∧ p < h.at_ + h.old.length)
/-- of a list that has changed at one place -/
theorem ap_set (a b : List ByteArray) (p : Nat) (hp : p < a.length) (v : ByteArray) (hv : v ≠ a[p]) : ∀ (H : List (Hk ByteArray)) (i j : Nat) (out : List ByteArray), out.length = j → FitH a b H i j →
    (H.any (inP p) = true → (apF (a.set p v) (H.map toZ) i out).1 = 11) ∧ (H.any (inP p) = false → (apF (a.set p v) (H.map toZ) i out).1 = 0 ∧ (apF (a.set p v) (H.map toZ) i out).2.length = b.length) := by
  intro H
  induction H with
  | nil =>
    intro i j out ho ⟨h0, h1, h⟩
    refine ⟨fun h => by simp at h, fun _ => ⟨rfl, ?_⟩⟩
    have := congrArg List.length h
    simp only [List.length_drop] at this
    simp only [List.map_nil, apF, List.length_append, List.length_drop, List.length_set]
    omega
  | cons h t ih =>
    intro i j out ho ⟨q, h1, h2, h3, h4, h5, h6, h7, h8⟩
    have e := len_mid h3 h1 (by omega) h2 (by omega)
    simp only [List.map_cons, List.any_cons]
    by_cases hin : h.at_ ≤ p ∧ p < h.at_ + h.old.length
    · have e1 : inP p h = true := decide_eq_true hin
      rw [e1]
      refine ⟨fun _ => ?_, fun h => by simp at h⟩
      have hc : ¬ (h.old.length ≤ (a.set p v).length - h.at_ ∧ ((a.set p v).take (h.at_ + h.old.length)).drop h.at_ = h.old) := by
       intro ⟨_, hs⟩
       refine hv ?_
       have g : (((a.set p v).take (h.at_ + h.old.length)).drop h.at_)[p - h.at_]? = ((a.take (h.at_ + h.old.length)).drop h.at_)[p - h.at_]? := by rw [hs, h4]
       rw [List.getElem?_drop, List.getElem?_drop, show h.at_ + (p - h.at_) = p by omega, List.getElem?_take_of_lt (by omega), List.getElem?_take_of_lt (by omega), List.getElem?_set_self (by omega), List.getElem?_eq_getElem hp] at g
       exact Option.some.inj g
      rw [ap_no _ _ _ _ _ h1 (by rw [List.length_set]; omega) hc]
    · have e1 : inP p h = false := decide_eq_false hin
      have hs : ((a.set p v).take (h.at_ + h.old.length)).drop h.at_ = h.old := by
        refine Eq.trans ?_ h4
        apply List.ext_getElem?
        intro k
        rw [List.getElem?_drop, List.getElem?_drop]
        by_cases hk : h.at_ + k < h.at_ + h.old.length
        · rw [List.getElem?_take_of_lt hk, List.getElem?_take_of_lt hk, List.getElem?_set_ne (by omega)]
        · rw [List.getElem?_take_eq_none (by omega), List.getElem?_take_eq_none (by omega)]
      have hc : h.old.length ≤ (a.set p v).length - h.at_ ∧ ((a.set p v).take (h.at_ + h.old.length)).drop h.at_ = h.old := ⟨by rw [List.length_set]; omega, hs⟩
      rw [e1, ap_ok _ _ _ _ _ h1 (by rw [List.length_set]; omega) hc, Bool.false_or]
      exact ih _ _ _ (by simp only [List.length_append, List.length_drop, List.length_take, List.length_set]; omega) h8
theorem fit_sums {a b : List ByteArray} : ∀ {H : List (Hk ByteArray)} {i j : Nat}, FitH a b H i j → newsum (H.map toZ) + j ≤ b.length ∧ allsum (H.map toZ) + i + j ≤ a.length + b.length ∧ (∀ x ∈ H, x.at_ ≤ a.length ∧ x.old.length ≤ a.length ∧ x.new.length ≤ b.length)
  | [], i, j, ⟨h1, h2, _⟩ => ⟨by simp only [List.map_nil, newsum]; omega, by simp only [List.map_nil, allsum]; omega, fun x hx => by simp at hx⟩
  | h :: t, i, j, ⟨q, h1, h2, h3, h4, h5, h6, h7, h8⟩ => by
    obtain ⟨f1, f2, f3⟩ := fit_sums h8
    simp only [List.map_cons, newsum, allsum, toZ] at *
    refine ⟨by omega, by omega, fun x hx => ?_⟩
    rcases List.mem_cons.1 hx with rfl | hx
    · exact ⟨by omega, by omega, by omega⟩
    · exact f3 x hx
end Go.Proofs.Ytlfenddhppoflaa
