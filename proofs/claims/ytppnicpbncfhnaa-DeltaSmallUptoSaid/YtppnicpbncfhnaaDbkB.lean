/-
  What was encoded is applied as itself: the plain part of DeltaBack.
-/
import Derived.Test.YtppnicpbncfhnaaEcdB
import Derived.Test.YtppnicpbncfhnaaDspB
set_option linter.unusedVariables false
set_option linter.unusedSimpArgs false
namespace Go.Proofs.Ytppnicpbncfhnaa
open Go Go.Eng Go.RowKit
theorem ext_mid (a b c : ByteArray) : (a ++ (b ++ c)).extract a.size (a.size + b.size) = b := by
  apply ByteArray.ext
  apply Array.toList_inj.1
  simp only [ByteArray.data_extract, ByteArray.data_append, Array.toList_extract, Array.toList_append, List.extract_eq_take_drop]
  have h1 : a.size = a.data.toList.length := by simp
  have h2 : b.size = b.data.toList.length := by simp
  rw [h1, h2, List.drop_append_of_le_length (Nat.le_refl _), List.drop_length, List.nil_append, Nat.add_sub_cancel_left, List.take_append_of_le_length (Nat.le_refl _), List.take_length]
theorem ext_app (s : ByteArray) {i j k : Nat} (h1 : i ≤ j) (h2 : j ≤ k) : s.extract i j ++ s.extract j k = s.extract i k := by
  apply ByteArray.ext
  apply Array.toList_inj.1
  simp only [ByteArray.data_extract, ByteArray.data_append, Array.toList_extract, Array.toList_append, List.extract_eq_take_drop]
  have : s.data.toList.drop j = (s.data.toList.drop i).drop (j - i) := by rw [List.drop_drop]; congr 1; omega
  rw [this, show k - i = (j - i) + (k - j) by omega, List.take_add]
theorem ba_assoc (a b c : ByteArray) : a ++ b ++ c = a ++ (b ++ c) := by
  apply ByteArray.ext; simp [ByteArray.data_append, Array.append_assoc]
def encT (base text : ByteArray) (MT : Tab) : Nat → Nat → Nat → ByteArray
  | 0, _, _ => e0
  | f + 1, fr, a =>
    if text.size ≤ a then insS (text.extract fr text.size)
    else match hitT text MT a with
      | none => encT base text MT f fr (a + 1)
      | some i => insS (text.extract fr a) ++ ((vstr (2 * alike base text text.size i.toNat a + 1) ++ vstr i.toNat) ++ encT base text MT f (a + alike base text text.size i.toNat a) (a + alike base text text.size i.toNat a))
theorem encGo_T (base text : ByteArray) (MT : Tab) (hM : ∀ a i, hitT text MT a = some i → 1 ≤ alike base text text.size i.toNat a) : ∀ f fr a out, text.size - a < f → encGo base text MT f fr a out = out ++ encT base text MT f fr a
  | 0, _, _, _, h => absurd h (Nat.not_lt_zero _)
  | f + 1, fr, a, out, h => by
    rw [encGo, encT]
    by_cases c : text.size ≤ a
    · rw [if_pos c, if_pos c]
    · rw [if_neg c, if_neg c]
      cases hh : hitT text MT a with
      | none => exact encGo_T base text MT hM f fr (a + 1) out (by omega)
      | some i =>
        have := hM a i hh
        dsimp only
        rw [encGo_T base text MT hM f _ _ _ (by omega)]
        simp only [ba_assoc]
theorem e0_app (s : ByteArray) : e0 ++ s = s := by apply ByteArray.ext; simp [ByteArray.data_append]
theorem app_e0 (s : ByteArray) : s ++ e0 = s := by apply ByteArray.ext; simp [ByteArray.data_append]
theorem size0 {s : ByteArray} (h : s.size = 0) : s = e0 := by
  apply ByteArray.ext
  exact Array.eq_empty_of_size_eq_zero h
theorem parse_ins (base pre lit post out : ByteArray) (size g : Nat) (hl : lit.size ≤ 1000000000000) (hg : (pre ++ (insS lit ++ post)).size - pre.size < g) (ho : out.size + lit.size ≤ size) :
    ∃ g', (pre ++ (insS lit ++ post)).size - (pre ++ insS lit).size < g' ∧ dGo base (pre ++ (insS lit ++ post)) size g pre.size out = dGo base (pre ++ (insS lit ++ post)) size g' (pre ++ insS lit).size (out ++ lit) := by
  by_cases h0 : lit.size = 0
  · have e1 : insS lit = e0 := by rw [insS, if_pos h0]
    have e2 : lit = e0 := size0 h0
    rw [e1, e2, app_e0, app_e0]
    rw [e1] at hg
    exact ⟨g, hg, rfl⟩
  · obtain ⟨d, hd⟩ : ∃ d, d = pre ++ (insS lit ++ post) := ⟨_, rfl⟩
    have hins : insS lit = vstr (2 * lit.size) ++ lit := by rw [insS, if_neg h0]
    have hr := ruint_back pre (lit ++ post) (2 * lit.size) (by omega)
    have hd2 : pre ++ (vstr (2 * lit.size) ++ (lit ++ post)) = d := by rw [hd, hins, ba_assoc]
    rw [hd2] at hr
    have hp1 : pre.size + (vstr (2 * lit.size)).size = (pre ++ vstr (2 * lit.size)).size := by rw [ByteArray.size_append]
    have hp2 : (pre ++ insS lit).size = pre.size + (vstr (2 * lit.size)).size + lit.size := by rw [ByteArray.size_append, hins, ByteArray.size_append]; omega
    have hds : d.size = pre.size + (vstr (2 * lit.size)).size + lit.size + post.size := by rw [← hd2]; simp only [ByteArray.size_append]; omega
    have hex : d.extract (pre.size + (vstr (2 * lit.size)).size) (pre.size + (vstr (2 * lit.size)).size + lit.size) = lit := by
      rw [← hd2, ← ba_assoc, hp1]; exact ext_mid _ _ _
    rw [← hd] at hg ⊢
    cases g with
    | zero => omega
    | succ g =>
      refine ⟨g, by rw [hp2]; omega, ?_⟩
      rw [dGo, if_neg (by omega), hr]
      dsimp only
      rw [if_neg (by omega), show 2 * lit.size / 2 = lit.size by omega, if_neg (by omega), if_pos (by omega), if_neg (by omega), hex, hp2]
theorem parse_copy (base pre post out : ByteArray) (size g i K : Nat) (hK : 1 ≤ K) (hb : i + K ≤ base.size) (hbs : base.size ≤ 1000000000000) (hg : (pre ++ ((vstr (2 * K + 1) ++ vstr i) ++ post)).size - pre.size < g) (ho : out.size + K ≤ size) :
    ∃ g', (pre ++ ((vstr (2 * K + 1) ++ vstr i) ++ post)).size - (pre ++ (vstr (2 * K + 1) ++ vstr i)).size < g' ∧ dGo base (pre ++ ((vstr (2 * K + 1) ++ vstr i) ++ post)) size g pre.size out = dGo base (pre ++ ((vstr (2 * K + 1) ++ vstr i) ++ post)) size g' (pre ++ (vstr (2 * K + 1) ++ vstr i)).size (out ++ base.extract i (i + K)) := by
  obtain ⟨d, hd⟩ : ∃ d, d = pre ++ ((vstr (2 * K + 1) ++ vstr i) ++ post) := ⟨_, rfl⟩
  have hr := ruint_back pre (vstr i ++ post) (2 * K + 1) (by omega)
  have hd2 : pre ++ (vstr (2 * K + 1) ++ (vstr i ++ post)) = d := by rw [hd, ba_assoc]
  have hr2 := ruint_back (pre ++ vstr (2 * K + 1)) post i (by omega)
  have hd3 : (pre ++ vstr (2 * K + 1)) ++ (vstr i ++ post) = d := by rw [← hd2, ba_assoc]
  rw [hd2] at hr
  rw [hd3, ByteArray.size_append] at hr2
  have hp2 : (pre ++ (vstr (2 * K + 1) ++ vstr i)).size = pre.size + (vstr (2 * K + 1)).size + (vstr i).size := by simp only [ByteArray.size_append]; omega
  have hds : d.size = pre.size + (vstr (2 * K + 1)).size + (vstr i).size + post.size := by rw [← hd2]; simp only [ByteArray.size_append]; omega
  have hpos : pre.size < (pre.size + (vstr (2 * K + 1)).size) := by have := ruint_gt d pre.size (by rw [hr]); rw [hr] at this; exact this
  rw [← hd] at hg ⊢
  cases g with
  | zero => omega
  | succ g =>
    refine ⟨g, by rw [hp2]; omega, ?_⟩
    rw [dGo, if_neg (by omega), hr]
    dsimp only
    rw [if_neg (by omega), show (2 * K + 1) / 2 = K by omega, if_neg (by omega), if_neg (by omega), hr2]
    dsimp only
    rw [if_neg (by omega), if_neg (by omega), hp2]
end Go.Proofs.Ytppnicpbncfhnaa
