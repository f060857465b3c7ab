/-
  What a delta makes of a base; what is left of a text; numbers read back.
-/
import Derived.Test.YtppnicpbncfhnaaRdi
import Derived.Test.YtppnicpbncfhnaaPutW
set_option linter.unusedSimpArgs false
set_option linter.unusedVariables false
set_option maxRecDepth 20000
namespace Go.Proofs.Ytppnicpbncfhnaa
open Go Go.Eng Go.RowKit
/-- what is left of a text -/
def suf (s : ByteArray) (i : Nat) : ByteArray := s.extract i s.size
theorem suf_size (s : ByteArray) (i : Nat) : (suf s i).size = s.size - i := by simp [suf, ByteArray.size_extract]
theorem suf_sb (s : ByteArray) (i : Nat) : sb (suf s i) = (sb s).drop i := by
  unfold sb suf
  rw [← List.map_drop]
  congr 1
  simp only [ByteArray.data_extract, Array.toList_extract, List.extract_eq_take_drop]
  rw [List.take_of_length_le (by rw [List.length_drop, Array.length_toList]; exact Nat.le_refl _)]
theorem vread_suf (s : ByteArray) (i : Nat) : vread (suf s i) 0 = vread s i := by rw [vread, suf_sb, List.drop_zero]; rfl
theorem ruint_suf (s : ByteArray) (i : Nat) : (ruint s i).1 = (ruint (suf s i) 0).1 ∧ (ruint s i).2.1 = (ruint (suf s i) 0).2.1 ∧ (ruint s i).2.2 = i + (ruint (suf s i) 0).2.2 := by
  unfold ruint
  rw [vread_suf]
  (repeat' split) <;> simp
theorem suf_suf (s : ByteArray) (i j : Nat) : suf (suf s i) j = suf s (i + j) := by
  apply ByteArray.ext
  apply Array.toList_inj.1
  simp [suf, ByteArray.data_extract, Array.toList_extract, List.extract_eq_take_drop, ByteArray.size_extract, List.drop_drop]
  omega
abbrev e0 : ByteArray := { data := #[] }
def dGo (base d : ByteArray) (size : Nat) : Nat → Nat → ByteArray → ByteArray × Nat
  | 0, _, _ => (e0, 0)
  | f + 1, i, out =>
    if d.size ≤ i then (if out.size < size then (e0, 2) else (out, 0))
    else if (ruint d i).2.1 ≠ 0 then (e0, (ruint d i).2.1)
    else if (ruint d i).1 / 2 = 0 ∨ size - out.size < (ruint d i).1 / 2 then (e0, 3)
    else if (ruint d i).1 % 2 = 0 then
      if d.size - (ruint d i).2.2 < (ruint d i).1 / 2 then (e0, 2)
      else dGo base d size f ((ruint d i).2.2 + (ruint d i).1 / 2) (out ++ d.extract (ruint d i).2.2 ((ruint d i).2.2 + (ruint d i).1 / 2))
    else if (ruint d (ruint d i).2.2).2.1 ≠ 0 then (e0, (ruint d (ruint d i).2.2).2.1)
    else if base.size < (ruint d (ruint d i).2.2).1 ∨ base.size - (ruint d (ruint d i).2.2).1 < (ruint d i).1 / 2 then (e0, 3)
    else dGo base d size f (ruint d (ruint d i).2.2).2.2 (out ++ base.extract (ruint d (ruint d i).2.2).1 ((ruint d (ruint d i).2.2).1 + (ruint d i).1 / 2))
def dAp (base d : ByteArray) : ByteArray × Nat :=
  if (ruint d 0).2.1 ≠ 0 then (e0, (ruint d 0).2.1) else if 4096 < (ruint d 0).1 then (e0, 4) else dGo base d (ruint d 0).1 (d.size + 1) (ruint d 0).2.2 e0
theorem ruint_gt (s : ByteArray) (i : Nat) (h : (ruint s i).2.1 = 0) : i < (ruint s i).2.2 := by
  unfold ruint at h ⊢
  by_cases h1 : (vread s i).2.2 ≠ 0
  · rw [if_pos h1] at h; exact absurd h h1
  · rw [if_neg h1] at h ⊢
    by_cases h2 : 9223372036854775808 ≤ (vread s i).1
    · rw [if_pos h2] at h; cases h
    · rw [if_neg h2]
      have h3 : (vread s i).2.2 = 0 := by omega
      have h4 := (vrd_bound ((sb s).drop i) 0 0 (by omega) (by simp) (fun c hc => sb_byte s c (List.mem_of_mem_drop hc))).2.2.2 h3
      show i < i + (vread s i).2.1
      unfold vread; omega
/-- one number out of a text, as what is left of it tells -/
structure Rd1 (d : ByteArray) (i : Nat) where
  m : Nat
  e : Nat
  p : Nat
  k : Nat
  hr : ruint d i = (m, e, p)
  hs : ruint (suf d i) 0 = (m, e, k)
  hp : p = i + k
  hm : m ≤ 9223372036854775807
  hb : p ≤ d.size
  he : e ≤ 3
  hg : e = 0 → i < p
theorem rd1 (d : ByteArray) (i : Nat) (hi : i ≤ d.size) : Nonempty (Rd1 d i) := by
  obtain ⟨a1, a2, a3⟩ := ruint_suf d i
  obtain ⟨b1, b2, b3⟩ := ruint_bound d i hi
  exact ⟨⟨(ruint d i).1, (ruint d i).2.1, (ruint d i).2.2, (ruint (suf d i) 0).2.2, rfl, by rw [a1, a2], a3, b1, b2, b3, ruint_gt d i⟩⟩
theorem sb_nums {l : List Int} (h : ∀ n ∈ l, 0 ≤ n ∧ n < 256) : sb (strOfNums l) = l.map Int.toNat := by
  unfold sb strOfNums
  simp only [List.map_map]
  apply List.map_congr_left
  intro n hn
  obtain ⟨h1, h2⟩ := h n hn
  simp
  omega
theorem sb_app (a b : ByteArray) : sb (a ++ b) = sb a ++ sb b := by simp [sb]
/-- what is read is what is written -/
theorem vrd_back (x : Nat) : ∀ (k acc : Nat) (rest : List Nat), k ≤ 9 → x * 128 ^ k ≤ 18446744073709551615 → (0 < k → 0 < x) → vrd ((vnums x).map Int.toNat ++ rest) k acc = (acc + x * 128 ^ k, k + (vnums x).length, 0) := by
  induction x using Nat.strongRecOn with
  | _ x ih =>
  intro k acc rest hk hx h0
  by_cases h : x < 128
  · rw [vnums_lt h]
    simp only [List.map_cons, List.map_nil, List.cons_append, List.nil_append, Int.toNat_natCast, vrd, List.length_cons, List.length_nil]
    rw [if_neg, if_neg (by omega), if_neg (by omega)]
    rintro ⟨rfl, h1⟩
    have : 2 * 128 ^ 9 ≤ x * 128 ^ 9 := Nat.mul_le_mul_right _ h1
    omega
  · rw [vnums_ge h]
    have hk9 : k ≠ 9 := fun e => by
      subst e
      have : 128 * 128 ^ 9 ≤ x * 128 ^ 9 := Nat.mul_le_mul_right _ (by omega)
      omega
    have e2 : x / 128 * 128 ^ (k + 1) + x % 128 * 128 ^ k = x * 128 ^ k := by
      rw [Nat.pow_succ, Nat.mul_comm (128 ^ k) 128, ← Nat.mul_assoc, ← Nat.add_mul]
      congr 1
      omega
    simp only [List.map_cons, List.cons_append, Int.toNat_natCast, vrd, List.length_cons]
    rw [if_neg (by omega), if_pos (by omega), ih (x / 128) (by omega) (k + 1) _ rest (by omega) (by omega) (by omega)]
    have e3 : (128 + x % 128) % 128 = x % 128 := by omega
    rw [e3]
    simp only [Prod.mk.injEq, and_true]
    constructor
    · omega
    · omega
theorem sb_pre (a b : ByteArray) : (sb (a ++ b)).drop a.size = sb b := by
  rw [sb_app, ← sb_len a, List.drop_left]
theorem sb_vstr (x : Nat) : sb (vstr x) = (vnums x).map Int.toNat := by rw [vstr, sb_nums (vnums_byte x)]
theorem vstr_len (x : Nat) : (vstr x).size = (vnums x).length := by rw [vstr, strOfNums_size]
theorem vread_back (a b : ByteArray) (x : Nat) (hx : x ≤ 18446744073709551615) : vread (a ++ (vstr x ++ b)) a.size = (x, (vstr x).size, 0) := by
  rw [vread, sb_pre, sb_app, sb_vstr, vrd_back x 0 0 _ (by omega) (by omega) (by omega), vstr_len]
  simp
theorem ruint_back (a b : ByteArray) (x : Nat) (hx : x ≤ 9223372036854775807) : ruint (a ++ (vstr x ++ b)) a.size = (x, 0, a.size + (vstr x).size) := by
  rw [ruint, vread_back a b x (by omega)]
  rw [if_neg (by simp), if_neg (by dsimp only; omega)]
end Go.Proofs.Ytppnicpbncfhnaa
