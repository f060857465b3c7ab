/-
  What is packed is scanned: the plain law.
-/
import Derived.Test.YtppnicpbncfhnaaScn
import Derived.Test.YtppnicpbncfhnaaWbk
set_option linter.unusedSimpArgs false
set_option linter.unusedVariables false
set_option maxRecDepth 20000
namespace Go.Proofs.Ytppnicpbncfhnaa
open Go Go.Eng Go.RowKit
theorem nil_app (a : ByteArray) : (⟨#[]⟩ : ByteArray) ++ a = a := by apply ByteArray.ext; apply Array.toList_inj.1; simp
theorem app_nil (a : ByteArray) : a ++ (⟨#[]⟩ : ByteArray) = a := by apply ByteArray.ext; apply Array.toList_inj.1; simp
theorem extract_app (a b : ByteArray) : (a ++ b).extract 0 a.size = a := by
  apply ByteArray.ext; apply Array.toList_inj.1
  simp only [ByteArray.data_extract, ByteArray.data_append, Array.toList_extract, Array.toList_append, List.extract_eq_take_drop, Nat.sub_zero, List.drop_zero]
  rw [show a.size = a.data.toList.length by simp, List.take_left]
theorem suf_app (a b : ByteArray) : suf (a ++ b) a.size = b := by
  apply ByteArray.ext; apply Array.toList_inj.1
  simp only [suf, ByteArray.data_extract, ByteArray.data_append, Array.toList_extract, Array.toList_append, List.extract_eq_take_drop]
  have la : a.size = a.data.toList.length := by simp
  rw [la, List.drop_left, List.take_of_length_le]
  rw [ByteArray.size_append, la]; simp
theorem packS_size (t : ByteArray) : (packS t).size = (vstr t.size).size + t.size + 4 := by rw [packS, ByteArray.size_append, ByteArray.size_append, le4_len]
theorem fr_back (t r : ByteArray) (h : t.size ≤ 9223372036854775807) : fr (packS t ++ r) = (t, (packS t).size, 0) := by
  have h1 := rtext_back ⟨#[]⟩ (strOfNums (le4 (csum t)) ++ r) t h
  have e : (⟨#[]⟩ : ByteArray) ++ ((vstr t.size ++ t) ++ (strOfNums (le4 (csum t)) ++ r)) = packS t ++ r := by
    rw [nil_app, packS]; simp only [ByteArray.append_assoc]
  rw [e] at h1
  have h1 : rtext (packS t ++ r) 0 = (t, 0, 0 + (vstr t.size ++ t).size) := h1
  have hz := packS_size t
  have e2 : 0 + (vstr t.size ++ t).size + 4 = (packS t).size := by rw [hz, ByteArray.size_append]; omega
  rw [fr, h1]
  rw [if_neg (by simp), if_neg (by simp only [ByteArray.size_append, hz]; omega)]
  simp only [e2]
  rw [if_pos (decide_eq_true (extract_app _ _).symm)]
theorem vrd_short (x : Nat) : ∀ (k acc m : Nat), k ≤ 9 → x * 128 ^ k ≤ 18446744073709551615 → m < (vnums x).length → vrd (((vnums x).map Int.toNat).take m) k acc = (0, 0, 2) := by
  induction x using Nat.strongRecOn with
  | _ x ih =>
  intro k acc m hk hx hm
  by_cases h : x < 128
  · rw [vnums_lt h] at hm
    simp only [List.length_cons, List.length_nil] at hm
    have : m = 0 := by omega
    subst this
    simp [vrd]
  · rw [vnums_ge h] at hm ⊢
    cases m with
    | zero => simp [vrd]
    | succ m =>
      have hk9 : k ≠ 9 := fun e => by
        subst e
        have : 128 * 128 ^ 9 ≤ x * 128 ^ 9 := Nat.mul_le_mul_right _ (by omega)
        omega
      have e2 : x / 128 * 128 ^ (k + 1) + x % 128 * 128 ^ k = x * 128 ^ k := by
        rw [Nat.pow_succ, Nat.mul_comm (128 ^ k) 128, ← Nat.mul_assoc, ← Nat.add_mul]
        congr 1
        omega
      simp only [List.length_cons] at hm
      simp only [List.map_cons, List.take_succ_cons, Int.toNat_natCast, vrd]
      rw [if_neg (by omega), if_pos (by omega), ih (x / 128) (by omega) (k + 1) _ m (by omega) (by omega) (by omega)]
theorem fr_short (t : ByteArray) (m : Nat) (hm : m < (packS t).size) (h : t.size ≤ 9223372036854775807) : fr ((packS t).extract 0 m) = (⟨#[]⟩, 0, 2) := by
  obtain ⟨R, hR⟩ : ∃ R, R = (packS t).extract 0 m := ⟨_, rfl⟩
  have hz := packS_size t
  have hRz : R.size = m := by rw [hR, ByteArray.size_extract]; omega
  have hsb : sb R = (sb (packS t)).take m := by rw [hR, sb_extract]
  have hp : packS t = vstr t.size ++ (t ++ strOfNums (le4 (csum t))) := by rw [packS, ByteArray.append_assoc]
  rw [← hR]
  by_cases h1 : m < (vstr t.size).size
  · have hv : vread R 0 = (0, 0, 2) := by
      rw [vread, List.drop_zero, hsb, hp, sb_app, sb_vstr]
      have hl : m < (vnums t.size).length := by rw [← vstr_len]; exact h1
      rw [List.take_append_of_le_length (by rw [List.length_map]; omega)]
      exact vrd_short t.size 0 0 m (by omega) (by omega) hl
    have hu : ruint R 0 = (0, 2, 0) := by rw [ruint, hv]; rfl
    have ht : rtext R 0 = (⟨#[]⟩, 2, 0) := by rw [rtext, hu]; rfl
    rw [fr, ht]; rfl
  · obtain ⟨q, hq⟩ : ∃ q, R = vstr t.size ++ q := by
      refine ⟨suf R (vstr t.size).size, ?_⟩
      apply sb_inj
      rw [sb_app, suf_sb, hsb, hp, sb_app, List.take_append, List.drop_append, ← sb_len (vstr t.size)]
      rw [List.take_of_length_le (by rw [sb_len]; omega)]
      simp
    have hu : ruint R 0 = (t.size, 0, (vstr t.size).size) := by
      have := ruint_back ⟨#[]⟩ q t.size h
      rw [nil_app, ← hq] at this
      have e : ruint R (⟨#[]⟩ : ByteArray).size = ruint R 0 := rfl
      rw [e] at this
      rw [this]
      simp only [Prod.mk.injEq, true_and]
      exact Nat.zero_add _
    by_cases h2 : R.size - (vstr t.size).size < t.size
    · have ht : rtext R 0 = (⟨#[]⟩, 2, 0) := by rw [rtext, hu, if_neg (by simp), if_pos h2]
      rw [fr, ht]; rfl
    · have ht : ∃ x, rtext R 0 = (x, 0, (vstr t.size).size + t.size) := ⟨_, by rw [rtext, hu, if_neg (by simp), if_neg h2]⟩
      obtain ⟨x, ht⟩ := ht
      rw [fr, ht, if_neg (by simp), if_pos (by dsimp only; omega)]
/-- frames, one behind the other -/
def frames (l : List ByteArray) : ByteArray := cat (l.map packS)
theorem scan_pre (s R : ByteArray) : ∀ (L : List ByteArray) (n i : Nat), (∀ t ∈ L, t.size ≤ 9223372036854775807) → i ≤ s.size → suf s i = frames L ++ R → s.size - i < n →
    ∃ n', s.size - (i + (frames L).size) < n' ∧ i + (frames L).size ≤ s.size ∧ suf s (i + (frames L).size) = R ∧ scanF n s i = (L ++ (scanF n' s (i + (frames L).size)).1, (scanF n' s (i + (frames L).size)).2)
  | [], n, i, _, hi, hs, hn => ⟨n, hn, hi, by show suf s i = R; rw [hs]; exact nil_app R, rfl⟩
  | t :: L, n, i, hL, hi, hs, hn => by
    have e0 : frames (t :: L) = packS t ++ frames L := by rw [frames, List.map_cons, cat_cons]; rfl
    rw [e0] at hs ⊢
    rw [ByteArray.append_assoc] at hs
    have hz := suf_size s i
    have hzz : (suf s i).size = (packS t).size + (frames L ++ R).size := by rw [hs, ByteArray.size_append]
    have hp := packS_size t
    cases n with
    | zero => omega
    | succ n =>
      have hf : fr (suf s i) = (t, (packS t).size, 0) := by rw [hs]; exact fr_back t _ (hL t (by simp))
      have hs2 : suf s (i + (packS t).size) = frames L ++ R := by rw [← suf_suf, hs]; exact suf_app _ _
      obtain ⟨n', a1, a2, a3, a4⟩ := scan_pre s R L n (i + (packS t).size) (fun x hx => hL x (by simp [hx])) (by omega) hs2 (by omega)
      rw [ByteArray.size_append, ← Nat.add_assoc]
      refine ⟨n', a1, a2, a3, ?_⟩
      rw [scanF, if_neg (by omega), hf, if_neg (by simp)]
      dsimp only
      rw [a4]; rfl
/-- what is scanned: whole frames, and what is less than one -/
theorem scan_cut (L : List ByteArray) (R : ByteArray) (hL : ∀ t ∈ L, t.size ≤ 9223372036854775807) (hR : R.size = 0 ∨ ∃ t m, R = (packS t).extract 0 m ∧ m < (packS t).size ∧ t.size ≤ 9223372036854775807) :
    scanS (frames L ++ R) = (L, (frames L).size, if R.size = 0 then 0 else 2) := by
  have hs0 : suf (frames L ++ R) 0 = frames L ++ R := by
    apply sb_inj; rw [suf_sb, List.drop_zero]
  obtain ⟨n', a1, a2, a3, a4⟩ := scan_pre (frames L ++ R) R L _ 0 hL (Nat.zero_le _) hs0 (Nat.lt_succ_self _)
  rw [Nat.zero_add] at a1 a2 a3 a4
  rw [scanS]
  rw [Nat.sub_zero] at a4
  have a4 : scanF ((frames L ++ R).size + 1) (frames L ++ R) 0 = _ := a4
  rw [a4]
  cases n' with
  | zero => omega
  | succ n' =>
    rw [scanF, a3]
    by_cases hr : R.size = 0
    · rw [if_pos (by rw [ByteArray.size_append]; omega), if_pos hr, List.append_nil]
    · rw [if_neg (by rw [ByteArray.size_append]; omega), if_neg hr]
      rcases hR with h | ⟨t, m, h1, h2, h3⟩
      · exact absurd h hr
      · rw [h1, fr_short t m h2 h3, if_pos (by simp), List.append_nil]
theorem frames_app (a b : List ByteArray) : frames (a ++ b) = frames a ++ frames b := by rw [frames, List.map_append, cat_app]; rfl
theorem frames_one (t : ByteArray) : frames [t] = packS t := by rw [frames, List.map_cons, List.map_nil, cat_one]
theorem frames_take {l : List ByteArray} {i : Nat} (h : i < l.length) : frames (l.take i) ++ packS l[i] = frames (l.take (i + 1)) := by
  rw [List.take_succ_eq_append_getElem h, frames_app, frames_one]
theorem frames_size (l : List ByteArray) (h : ∀ t ∈ l, t.size ≤ 1048576) : (frames l).size ≤ (cat l).size + 14 * l.length := by
  induction l with
  | nil => exact Nat.zero_le _
  | cons t l ih =>
    have ih := ih fun x hx => h x (by simp [hx])
    have e0 : frames (t :: l) = packS t ++ frames l := by rw [frames, List.map_cons, cat_cons]; rfl
    have hp := packS_size t
    have hv := vstr_size (x := t.size) (by have := h t (by simp); omega)
    rw [e0, cat_cons, ByteArray.size_append, ByteArray.size_append, List.length_cons]
    omega
end Go.Proofs.Ytppnicpbncfhnaa
