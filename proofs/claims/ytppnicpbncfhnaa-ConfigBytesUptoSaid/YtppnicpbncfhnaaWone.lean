/-
  What is read are just the bytes that it is written in.
-/
import Derived.Test.YtppnicpbncfhnaaRds
import Derived.Test.YtppnicpbncfhnaaGc
set_option linter.unusedSimpArgs false
set_option linter.unusedVariables false
set_option maxRecDepth 20000
namespace Go.Proofs.Ytppnicpbncfhnaa
open Go Go.Eng Go.RowKit
theorem vrd_form : ∀ (l : List Nat) (k x y m : Nat), vrd l k x = (y, m, 0) → (∀ c ∈ l, c < 256) → ∃ z, y = x + z * 128 ^ k ∧ k ≤ m ∧ m - k ≤ l.length ∧ vnums z = (l.take (m - k)).map Int.ofNat ∧ (0 < k → 0 < z)
  | [], k, x, y, m, h, _ => by simp [vrd] at h
  | c :: r, k, x, y, m, h, hl => by
    have hc := hl c (by simp)
    simp only [vrd] at h
    split at h
    · simp at h
    · split at h
      · rename_i h1 h2
        obtain ⟨z, e1, e2, e3, e4, e5⟩ := vrd_form r (k + 1) _ y m h (fun d hd => hl d (by simp [hd]))
        have hz := e5 (by omega)
        refine ⟨c % 128 + 128 * z, ?_, by omega, by simp only [List.length_cons]; omega, ?_, fun _ => by omega⟩
        · rw [e1, Nat.pow_succ, Nat.add_mul, ← Nat.add_assoc]
          congr 1
          rw [Nat.mul_comm 128 z, Nat.mul_assoc, Nat.mul_comm (128 ^ k) 128]
        · rw [vnums_ge (by omega), show (c % 128 + 128 * z) / 128 = z by omega, e4, show m - k = (m - (k + 1)) + 1 by omega, List.take_succ_cons, List.map_cons]
          congr 1
          show ((128 + (c % 128 + 128 * z) % 128 : Nat) : Int) = ((c : Nat) : Int)
          congr 1
          omega
      · rename_i h1 h2
        split at h
        · simp at h
        · rename_i h3
          simp only [Prod.mk.injEq, and_true] at h
          obtain ⟨rfl, rfl⟩ := h
          refine ⟨c, rfl, by omega, by simp, ?_, fun hk => by omega⟩
          rw [vnums_lt (by omega), show k + 1 - k = 1 by omega]; rfl
theorem sb_inj {s t : ByteArray} (h : sb s = sb t) : s = t := by
  apply ByteArray.ext
  apply Array.toList_inj.1
  have : ∀ (a b : List UInt8), a.map UInt8.toNat = b.map UInt8.toNat → a = b := by
    intro a
    induction a with
    | nil => intro b h; cases b with
      | nil => rfl
      | cons y b => simp at h
    | cons x a ih => intro b h; cases b with
      | nil => simp at h
      | cons y b =>
        simp only [List.map_cons, List.cons.injEq] at h
        rw [UInt8.toNat_inj.1 h.1, ih b h.2]
  exact this _ _ h
theorem sb_extract (s : ByteArray) (n : Nat) : sb (s.extract 0 n) = (sb s).take n := by
  unfold sb
  rw [← List.map_take]
  congr 1
  simp [ByteArray.data_extract, Array.toList_extract, List.extract_eq_take_drop]
theorem sb_nums {l : List Int} (h : ∀ n ∈ l, 0 ≤ n ∧ n < 256) : sb (strOfNums l) = l.map Int.toNat := by
  unfold sb strOfNums
  simp only [List.map_map]
  apply List.map_congr_left
  intro n hn
  obtain ⟨h1, h2⟩ := h n hn
  simp
  omega
theorem sb_app (a b : ByteArray) : sb (a ++ b) = sb a ++ sb b := by simp [sb]
/-- what is read is what is written -/
theorem vread_form (s : ByteArray) (h : (vread s 0).2.2 = 0) : vstr (vread s 0).1 = s.extract 0 (vread s 0).2.1 := by
  obtain ⟨r, hr⟩ : ∃ r, r = vread s 0 := ⟨_, rfl⟩
  rw [← hr] at h ⊢
  obtain ⟨x, n, e⟩ := r
  dsimp only at h ⊢
  subst h
  obtain ⟨z, e1, e2, e3, e4, -⟩ := vrd_form _ 0 0 x n hr.symm (fun c hc => sb_byte s c (List.mem_of_mem_drop hc))
  simp only [Nat.pow_zero, Nat.mul_one, Nat.zero_add] at e1
  subst e1
  apply sb_inj
  rw [vstr, sb_nums (vnums_byte x), e4, sb_extract, List.map_map]
  simp only [List.drop_zero, Nat.sub_zero]
  have : (Int.toNat ∘ Int.ofNat) = id := by funext k; rfl
  rw [this, List.map_id]
theorem vread_one (s : ByteArray) (h : (vread s 0).2.2 = 0) : (vstr (vread s 0).1).size = (vread s 0).2.1 := by
  rw [vread_form s h]
  have := (vread_bound s 0 (by omega)).2.1
  simp [ByteArray.size_extract]; omega
/-- what a reader has read: the bytes that are written for it, or nothing -/
structure One (s : ByteArray) (e p : Nat) (zero : Prop) (a : ByteArray) : Prop where
  size : a.size = p
  le : p ≤ s.size
  eq : s.extract 0 p = a
  z : e = 0 ∨ zero
theorem one_none {s : ByteArray} {e p : Nat} {zero : Prop} (h : e ≠ 0) (hp : p = 0) (hz : zero) : One s e p zero ⟨#[]⟩ := by
  subst hp
  refine ⟨rfl, by omega, ?_, .inr hz⟩
  apply sb_inj; rw [sb_extract]; rfl
theorem ruint_one (s : ByteArray) (h : (ruint s 0).2.1 = 0) : One s (ruint s 0).2.1 (ruint s 0).2.2 ((ruint s 0).1 = 0) (refUint (ruint s 0).1).1 := by
  have hb := (vread_bound s 0 (by omega)).2.1
  unfold ruint at h ⊢
  split
  · rename_i h1; rw [if_pos h1] at h; exact absurd h h1
  · rename_i h1
    rw [if_neg h1] at h
    split
    · rename_i h2; rw [if_pos h2] at h; simp at h
    · have h0 : (vread s 0).2.2 = 0 := by omega
      refine ⟨?_, ?_, ?_, .inl rfl⟩
      · rw [refUint, if_neg (by dsimp only; omega)]; dsimp only; rw [Int.toNat_natCast, vread_one s h0, Nat.zero_add]
      · dsimp only; omega
      · rw [refUint, if_neg (by dsimp only; omega)]; dsimp only; rw [Int.toNat_natCast, vread_form s h0, Nat.zero_add]
theorem refInt_unzz (x : Nat) : refInt (unzz x) = vstr x := by
  unfold refInt unzz
  by_cases h : x % 2 = 0
  · rw [if_pos h, if_pos (by omega), Int.toNat_natCast]; congr 1; omega
  · rw [if_neg h, if_neg (by omega)]; congr 1; omega
theorem rint_one (s : ByteArray) (h : (rint s 0).2.1 = 0) : One s (rint s 0).2.1 (rint s 0).2.2 ((rint s 0).1 = 0) (refInt (rint s 0).1) := by
  have hb := (vread_bound s 0 (by omega)).2.1
  unfold rint at h ⊢
  split
  · rename_i h1; rw [if_pos h1] at h; exact absurd h h1
  · rename_i h1
    have h0 : (vread s 0).2.2 = 0 := by omega
    refine ⟨?_, ?_, ?_, .inl rfl⟩
    · dsimp only; rw [refInt_unzz, vread_one s h0, Nat.zero_add]
    · dsimp only; omega
    · dsimp only; rw [refInt_unzz, vread_form s h0, Nat.zero_add]
theorem rtext_one (s : ByteArray) (h : (rtext s 0).2.1 = 0) : One s (rtext s 0).2.1 (rtext s 0).2.2 ((rtext s 0).1 = ⟨#[]⟩) (vstr (rtext s 0).1.size ++ (rtext s 0).1) := by
  have hb := ruint_bound s 0 (by omega)
  unfold rtext at h ⊢
  split
  · rename_i h1; rw [if_pos h1] at h; exact absurd h h1
  · rename_i h1
    rw [if_neg h1] at h
    split
    · rename_i h2; rw [if_pos h2] at h; simp at h
    · rename_i h2
      have O := ruint_one s (by omega)
      have e1 : (s.extract (ruint s 0).2.2 ((ruint s 0).2.2 + (ruint s 0).1)).size = (ruint s 0).1 := by simp [ByteArray.size_extract]; omega
      have e2 : (refUint (ruint s 0).1).1 = vstr (ruint s 0).1 := by rw [refUint, if_neg (by omega)]; dsimp only; rw [Int.toNat_natCast]
      have e3 := O.eq
      have e4 := O.size
      rw [e2] at e3 e4
      refine ⟨?_, ?_, ?_, .inl rfl⟩
      · dsimp only; rw [ByteArray.size_append, e1, e4]
      · dsimp only; omega
      · dsimp only
        rw [e1, ← e3]
        apply ByteArray.ext
        apply Array.toList_inj.1
        simp only [ByteArray.data_append, ByteArray.data_extract, Array.toList_append, Array.toList_extract, List.extract_eq_take_drop, Nat.sub_zero, List.drop_zero]
        rw [List.take_add]
        congr 1
        rw [show (ruint s 0).2.2 + (ruint s 0).1 - (ruint s 0).2.2 = (ruint s 0).1 by omega]
theorem ruint_none (s : ByteArray) (h : (ruint s 0).2.1 ≠ 0) : (ruint s 0).1 = 0 ∧ (ruint s 0).2.2 = 0 := by
  unfold ruint at h ⊢
  split
  · simp
  · split
    · simp
    · rename_i h1 h2; rw [if_neg h1, if_neg h2] at h; simp at h
theorem rint_none (s : ByteArray) (h : (rint s 0).2.1 ≠ 0) : (rint s 0).1 = 0 ∧ (rint s 0).2.2 = 0 := by
  unfold rint at h ⊢
  split
  · simp
  · rename_i h1; rw [if_neg h1] at h; simp at h
theorem rtext_none (s : ByteArray) (h : (rtext s 0).2.1 ≠ 0) : (rtext s 0).1 = ⟨#[]⟩ ∧ (rtext s 0).2.2 = 0 := by
  unfold rtext at h ⊢
  split
  · simp
  · split
    · simp
    · rename_i h1 h2; rw [if_neg h1, if_neg h2] at h; simp at h
end Go.Proofs.Ytppnicpbncfhnaa
