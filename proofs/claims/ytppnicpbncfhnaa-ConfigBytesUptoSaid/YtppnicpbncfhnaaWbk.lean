/-
  What is written is read back: the plain law.
-/
import Derived.Test.YtppnicpbncfhnaaWone
import Derived.Test.YtppnicpbncfhnaaWjn
set_option linter.unusedSimpArgs false
set_option linter.unusedVariables false
set_option maxRecDepth 20000
namespace Go.Proofs.Ytppnicpbncfhnaa
open Go Go.Eng Go.RowKit
theorem vrd_back (x : Nat) : ∀ (k acc : Nat) (rest : List Nat), k ≤ 9 → x * 128 ^ k ≤ 18446744073709551615 → (0 < k → 0 < x) → vrd ((vnums x).map Int.toNat ++ rest) k acc = (acc + x * 128 ^ k, k + (vnums x).length, 0) := by
  induction x using Nat.strongRecOn with
  | _ x ih =>
  intro k acc rest hk hx h0
  by_cases h : x < 128
  · rw [vnums_lt h]
    simp only [List.map_cons, List.map_nil, List.cons_append, List.nil_append, Int.toNat_natCast, vrd, List.length_cons, List.length_nil]
    rw [if_neg, if_neg (by omega), if_neg (by omega)]
    rintro ⟨rfl, h1⟩
    have : 2 * 128 ^ 9 ≤ x * 128 ^ 9 := Nat.mul_le_mul_right _ h1
    omega
  · rw [vnums_ge h]
    have hk9 : k ≠ 9 := fun e => by
      subst e
      have : 128 * 128 ^ 9 ≤ x * 128 ^ 9 := Nat.mul_le_mul_right _ (by omega)
      omega
    have e2 : x / 128 * 128 ^ (k + 1) + x % 128 * 128 ^ k = x * 128 ^ k := by
      rw [Nat.pow_succ, Nat.mul_comm (128 ^ k) 128, ← Nat.mul_assoc, ← Nat.add_mul]
      congr 1
      omega
    simp only [List.map_cons, List.cons_append, Int.toNat_natCast, vrd, List.length_cons]
    rw [if_neg (by omega), if_pos (by omega), ih (x / 128) (by omega) (k + 1) _ rest (by omega) (by omega) (by omega)]
    have e3 : (128 + x % 128) % 128 = x % 128 := by omega
    rw [e3]
    simp only [Prod.mk.injEq, and_true]
    constructor
    · omega
    · omega
theorem sb_pre (a b : ByteArray) : (sb (a ++ b)).drop a.size = sb b := by
  rw [sb_app, ← sb_len a, List.drop_left]
theorem sb_vstr (x : Nat) : sb (vstr x) = (vnums x).map Int.toNat := by rw [vstr, sb_nums (vnums_byte x)]
theorem vstr_len (x : Nat) : (vstr x).size = (vnums x).length := by rw [vstr, strOfNums_size]
theorem vread_back (a b : ByteArray) (x : Nat) (hx : x ≤ 18446744073709551615) : vread (a ++ (vstr x ++ b)) a.size = (x, (vstr x).size, 0) := by
  rw [vread, sb_pre, sb_app, sb_vstr, vrd_back x 0 0 _ (by omega) (by omega) (by omega), vstr_len]
  simp
theorem ruint_back (a b : ByteArray) (x : Nat) (hx : x ≤ 9223372036854775807) : ruint (a ++ (vstr x ++ b)) a.size = (x, 0, a.size + (vstr x).size) := by
  rw [ruint, vread_back a b x (by omega)]
  rw [if_neg (by simp), if_neg (by dsimp only; omega)]
theorem unzz_refInt (n : Int) (h : I64 n) : ∃ x, x ≤ 18446744073709551615 ∧ refInt n = vstr x ∧ unzz x = n := by
  obtain ⟨h1, h2⟩ := h
  unfold refInt
  by_cases h0 : n ≥ 0
  · refine ⟨2 * n.toNat, by omega, if_pos h0, ?_⟩
    rw [unzz, if_pos (by omega)]; omega
  · refine ⟨2 * (-(n + 1)).toNat + 1, by omega, if_neg h0, ?_⟩
    rw [unzz, if_neg (by omega)]; omega
theorem rint_back (a b : ByteArray) (n : Int) (h : I64 n) : rint (a ++ (refInt n ++ b)) a.size = (n, 0, a.size + (refInt n).size) := by
  obtain ⟨x, h1, h2, h3⟩ := unzz_refInt n h
  rw [h2, rint, vread_back a b x h1, if_neg (by simp), h3]
theorem rtext_back (a b t : ByteArray) (h : t.size ≤ 9223372036854775807) : rtext (a ++ ((vstr t.size ++ t) ++ b)) a.size = (t, 0, a.size + (vstr t.size ++ t).size) := by
  have e : a ++ ((vstr t.size ++ t) ++ b) = a ++ (vstr t.size ++ (t ++ b)) := by rw [ByteArray.append_assoc]
  rw [e, rtext, ruint_back a (t ++ b) t.size h]
  rw [if_neg (by simp), if_neg (by simp only [ByteArray.size_append]; omega)]
  simp only [Prod.mk.injEq, true_and]
  refine ⟨?_, by rw [ByteArray.size_append]; omega⟩
  apply ByteArray.ext
  apply Array.toList_inj.1
  simp only [ByteArray.data_extract, ByteArray.data_append, Array.toList_extract, Array.toList_append, List.extract_eq_take_drop]
  rw [show a.size + (vstr t.size).size + t.size - (a.size + (vstr t.size).size) = t.size by omega, ← List.append_assoc, ← List.drop_drop]
  have la : a.size = a.data.toList.length := by simp
  have lv : (vstr t.size).size = (vstr t.size).data.toList.length := by simp
  have lt : t.size = t.data.toList.length := by simp
  rw [List.append_assoc, la, List.drop_left, lv, List.drop_left]
  conv => lhs; rw [show (List.take t.size (t.data.toList ++ b.data.toList)) = List.take t.data.toList.length (t.data.toList ++ b.data.toList) by rw [← lt]]
  rw [List.take_left]
/-- what is written for a number and a text -/
def encOf (n : Int) (t : ByteArray) : ByteArray := refInt n ++ ((refUint n).1 ++ (vstr t.size ++ t))
def pre (ns : List Int) (ts : List ByteArray) : Nat → ByteArray
  | 0 => ⟨#[]⟩
  | i + 1 => pre ns ts i ++ encOf (ns.getD i 0) (ts.getD i ⟨#[]⟩)
theorem pre_rest (ns : List Int) (ts : List ByteArray) : ∀ {i m : Nat}, i ≤ m → ∃ r, pre ns ts m = pre ns ts i ++ r
  | i, 0, h => by
    have : i = 0 := by omega
    subst this; exact ⟨⟨#[]⟩, by rw [ByteArray.append_empty']⟩
  | i, m + 1, h => by
    by_cases e : i = m + 1
    · subst e; exact ⟨⟨#[]⟩, by rw [ByteArray.append_empty']⟩
    · obtain ⟨r, hr⟩ := pre_rest ns ts (i := i) (m := m) (by omega)
      exact ⟨r ++ encOf (ns.getD m 0) (ts.getD m ⟨#[]⟩), by rw [pre, hr, ByteArray.append_assoc]⟩
where
  ByteArray.append_empty' : ∀ {a : ByteArray}, a ++ (⟨#[]⟩ : ByteArray) = a := by
    intro a; apply ByteArray.ext; apply Array.toList_inj.1; simp
theorem refInt_size (n : Int) (h : I64 n) : (refInt n).size ≤ 10 := by
  obtain ⟨x, h1, h2, -⟩ := unzz_refInt n h
  rw [h2]; exact vstr_size h1
theorem refUint_size (n : Int) (h : I64 n) : (refUint n).1.size ≤ 10 := by
  obtain ⟨h1, h2⟩ := h
  unfold refUint
  split
  · exact Nat.zero_le _
  · exact vstr_size (by omega)
theorem encOf_size (n : Int) (h : I64 n) (t : ByteArray) (ht : t.size ≤ 9223372036854775807) : (encOf n t).size ≤ 30 + t.size := by
  have h1 := refInt_size n h
  have h2 := refUint_size n h
  have h3 := vstr_size (x := t.size) (by omega)
  simp only [encOf, ByteArray.size_append]
  omega
theorem getD_range {ns : List Int} (h : ∀ n ∈ ns, I64 n) (i : Nat) : I64 (ns.getD i 0) := by
  rw [List.getD_eq_getElem?_getD]
  cases e : ns[i]? with
  | none => simp [I64]
  | some n => exact h n (List.mem_of_getElem? e)
theorem cat_getD (ts : List ByteArray) (i : Nat) : (cat (ts.take i)).size + (ts.getD i ⟨#[]⟩).size = (cat (ts.take (i + 1))).size := by
  by_cases h : i < ts.length
  · rw [← cat_take_succ h, ByteArray.size_append, List.getD_eq_getElem?_getD, List.getElem?_eq_getElem h]; rfl
  · rw [List.take_of_length_le (by omega), List.take_of_length_le (by omega), List.getD_eq_getElem?_getD, List.getElem?_eq_none (by omega)]; rfl
theorem pre_size (ns : List Int) (ts : List ByteArray) (hn : ∀ n ∈ ns, I64 n) (ht : (cat ts).size ≤ 1048576) : ∀ i, (pre ns ts i).size ≤ 30 * i + (cat (ts.take i)).size
  | 0 => Nat.zero_le _
  | i + 1 => by
    have h1 := pre_size ns ts hn ht i
    have h2 := cat_getD ts i
    have h3 := cat_take_le ts (i + 1)
    have h4 := encOf_size (ns.getD i 0) (getD_range hn i) (ts.getD i ⟨#[]⟩) (by omega)
    rw [pre, ByteArray.size_append]
    omega
end Go.Proofs.Ytppnicpbncfhnaa
