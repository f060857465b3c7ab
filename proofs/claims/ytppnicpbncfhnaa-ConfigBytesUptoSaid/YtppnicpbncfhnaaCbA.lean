/-
  Settings as bytes: plain.
-/
import Derived.Test.YtppnicpbncfhnaaWbk
import Derived.Test.YtppnicpbncfhnaaRru
set_option linter.unusedSimpArgs false
set_option linter.unusedVariables false
namespace Go.Cb
open Go Go.Eng Go.Proofs.Ytppnicpbncfhnaa
def nums (l : List Int) : List HV := l.map fun n => .v (.int .i64 n)
def numF (l : List Int) : List (List FV) := l.map fun n => [.v (.int .i64 n)]
theorem nums_len (l : List Int) : (nums l).length = l.length := by simp [nums]
def encN : List Int → ByteArray
  | [] => { data := #[] }
  | n :: r => refInt n ++ encN r
theorem encN_app : ∀ a b : List Int, encN (a ++ b) = encN a ++ encN b
  | [], b => by show ByteArray.empty ++ encN b = encN b; exact ByteArray.empty_append
  | n :: r, b => by rw [List.cons_append, encN, encN, encN_app r b, ByteArray.append_assoc]
theorem encN_one (n : Int) : encN [n] = refInt n := by show refInt n ++ ByteArray.empty = refInt n; exact ByteArray.append_empty
theorem encN_snoc (l : List Int) (n : Int) : encN (l ++ [n]) = encN l ++ refInt n := by rw [encN_app, encN_one]
def zer : List Int := List.replicate 17 0
/-- what is read behind p, l being read -/
def decG (s : ByteArray) : Nat → Nat → List Int → List Int × Nat
  | 0, p, l => if p < s.size then (zer, 5) else (l, 0)
  | k + 1, p, l => if (rint s p).2.1 = 0 then decG s k (rint s p).2.2 (l ++ [(rint s p).1]) else (zer, (rint s p).2.1)
def dec (s : ByteArray) : List Int × Nat := decG s 17 0 []
theorem dec_go {s : ByteArray} {k p : Nat} {l : List Int} (h : (rint s p).2.1 = 0) : decG s (k + 1) p l = decG s k (rint s p).2.2 (l ++ [(rint s p).1]) := by rw [decG, if_pos h]
theorem dec_no {s : ByteArray} {k p : Nat} {l : List Int} (h : (rint s p).2.1 ≠ 0) : decG s (k + 1) p l = (zer, (rint s p).2.1) := by rw [decG, if_neg h]
theorem dec_encG : ∀ (r l : List Int), (∀ n ∈ r, I64 n) → decG (encN (l ++ r)) r.length (encN l).size l = (l ++ r, 0)
  | [], l, _ => by
    rw [List.append_nil, List.length_nil, decG, if_neg (Nat.lt_irrefl _)]
  | n :: r, l, h => by
    have hb := rint_back (encN l) (encN r) n (h n (by simp))
    have e : encN (l ++ n :: r) = encN l ++ (refInt n ++ encN r) := by rw [encN_app, encN]
    have ih := dec_encG r (l ++ [n]) fun m hm => h m (by simp [hm])
    rw [List.append_assoc, List.singleton_append] at ih
    rw [List.length_cons, dec_go (by rw [e, hb]), e, hb, ← e]
    have hs : (encN l).size + (refInt n).size = (encN (l ++ [n])).size := by rw [encN_snoc, ByteArray.size_append]
    rw [hs]
    exact ih
theorem dec_enc (c : List Int) (h : c.length = 17) (hi : ∀ n ∈ c, I64 n) : dec (encN c) = (c, 0) := by
  have := dec_encG c [] hi
  rw [List.nil_append, h] at this
  exact this
theorem dec_len (s : ByteArray) : ∀ (k p : Nat) (l : List Int), l.length + k = 17 → (decG s k p l).1.length = 17
  | 0, p, l, h => by
    rw [decG]
    split
    · simp [zer]
    · exact h
  | k + 1, p, l, h => by
    by_cases he : (rint s p).2.1 = 0
    · rw [dec_go he]
      exact dec_len s k _ _ (by simp; omega)
    · rw [dec_no he]; simp [zer]
theorem enc_decG (s : ByteArray) : ∀ (k p : Nat) (l : List Int), p ≤ s.size → encN l = s.extract 0 p → (decG s k p l).2 = 0 → encN (decG s k p l).1 = s
  | 0, p, l, hp, hl, h => by
    rw [decG] at h ⊢
    split at h
    · cases h
    · rename_i hn
      rw [if_neg hn]
      have : p = s.size := by omega
      rw [hl, this]
      apply sb_inj; rw [sb_extract]; exact List.take_of_length_le (by rw [sb_len]; exact Nat.le_refl _)
  | k + 1, p, l, hp, hl, h => by
    by_cases he : (rint s p).2.1 = 0
    · rw [dec_go he] at h ⊢
      have hb := rint_bound s p hp
      obtain ⟨e1, e2, e3⟩ := rint_suf s p
      have ho := rint_one (suf s p) (by rw [← e2]; exact he)
      refine enc_decG s k _ _ hb.1 ?_ h
      have hq := ho.le
      rw [suf_size] at hq
      rw [encN_snoc, hl, e1, ← ho.eq, e3]
      apply sb_inj
      rw [sb_app, sb_extract, sb_extract, sb_extract, suf_sb]
      rw [List.take_add]
    · rw [dec_no he] at h
      exact absurd h he
end Go.Cb
