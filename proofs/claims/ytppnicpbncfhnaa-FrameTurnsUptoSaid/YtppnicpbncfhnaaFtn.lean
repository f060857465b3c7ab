/-
  A bit turned in a frame: the plain law.
-/
import Derived.Test.YtppnicpbncfhnaaFbk
import Derived.Test.YtppnicpbncfhnaaTru
set_option linter.unusedSimpArgs false
set_option linter.unusedVariables false
set_option maxRecDepth 20000
namespace Go.Proofs.Ytppnicpbncfhnaa
open Go Go.Eng Go.RowKit
theorem xor_left {c a b : Nat} (h : c ^^^ a = c ^^^ b) : a = b := by
  have : c ^^^ (c ^^^ a) = c ^^^ (c ^^^ b) := by rw [h]
  rwa [← Nat.xor_assoc, ← Nat.xor_assoc, Nat.xor_self, Nat.zero_xor, Nat.zero_xor] at this
theorem xor_right {c a b : Nat} (h : a ^^^ c = b ^^^ c) : a = b := xor_left (c := c) (by rwa [Nat.xor_comm c a, Nat.xor_comm c b])
theorem cstep_top {a b : Nat} (ha : a < 4294967296) (hb : b < 4294967296) : (a / 2) ^^^ 3988292384 ≠ b / 2 := fun h => by
  have h2 : (a / 2) ^^^ (b / 2) = 3988292384 := by rw [← h, ← Nat.xor_assoc, Nat.xor_self, Nat.zero_xor]
  have h3 : (a / 2) ^^^ (b / 2) < 2 ^ 31 := Nat.xor_lt_two_pow (n := 31) (by omega) (by omega)
  omega
theorem cstep_inj {a b : Nat} (ha : a < 4294967296) (hb : b < 4294967296) (h : cstep a = cstep b) : a = b := by
  unfold cstep at h
  by_cases p : a % 2 = 1 <;> by_cases q : b % 2 = 1
  · rw [if_pos p, if_pos q] at h
    have := xor_right h
    omega
  · rw [if_pos p, if_neg q] at h
    exact absurd h (cstep_top ha hb)
  · rw [if_neg p, if_pos q] at h
    exact absurd h.symm (cstep_top hb ha)
  · rw [if_neg p, if_neg q] at h
    omega
theorem cit_inj {a b : Nat} (ha : a < 4294967296) (hb : b < 4294967296) : ∀ n, cit n a = cit n b → a = b
  | 0, h => h
  | n + 1, h => cit_inj ha hb n (cstep_inj (cit_lt ha n) (cit_lt hb n) h)
theorem cbyte_inj {c b b' : Nat} (hc : c < 4294967296) (hb : b < 256) (hb' : b' < 256) (h : cbyte c b = cbyte c b') : b = b' :=
  xor_left (cit_inj (Nat.xor_lt_two_pow (n := 32) hc (by omega)) (Nat.xor_lt_two_pow (n := 32) hc (by omega)) 8 h)
theorem cbyte_inj' {c c' b : Nat} (hc : c < 4294967296) (hc' : c' < 4294967296) (hb : b < 256) (h : cbyte c b = cbyte c' b) : c = c' :=
  xor_right (cit_inj (Nat.xor_lt_two_pow (n := 32) hc (by omega)) (Nat.xor_lt_two_pow (n := 32) hc' (by omega)) 8 h)
theorem fold_inj : ∀ (l : List Nat) (c c' : Nat), c < 4294967296 → c' < 4294967296 → (∀ b ∈ l, b < 256) → l.foldl cbyte c = l.foldl cbyte c' → c = c'
  | [], c, c', _, _, _, h => h
  | b :: r, c, c', hc, hc', hl, h => by
    have hb := hl b (by simp)
    exact cbyte_inj' hc hc' hb (fold_inj r _ _ (cbyte_lt hc hb) (cbyte_lt hc' hb) (fun d hd => hl d (by simp [hd])) h)
theorem fold_set : ∀ (l : List Nat) (i y c : Nat), c < 4294967296 → (∀ b ∈ l, b < 256) → y < 256 → i < l.length → (l.set i y).foldl cbyte c = l.foldl cbyte c → l.getD i 0 = y
  | [], i, y, c, _, _, _, hi, _ => by simp at hi
  | b :: r, 0, y, c, hc, hl, hy, _, h => by
    have hb := hl b (by simp)
    simp only [List.set_cons_zero, List.foldl_cons] at h
    have h1 := fold_inj r _ _ (cbyte_lt hc hy) (cbyte_lt hc hb) (fun d hd => hl d (by simp [hd])) h
    simp [cbyte_inj hc hy hb h1]
  | b :: r, i + 1, y, c, hc, hl, hy, hi, h => by
    simp only [List.set_cons_succ, List.foldl_cons] at h
    have := fold_set r i y _ (cbyte_lt hc (hl b (by simp))) (fun d hd => hl d (by simp [hd])) hy (by simpa using hi) h
    simpa using this
theorem csum_set (s t : ByteArray) (i y : Nat) (hi : i < s.size) (hy : y < 256) (ht : sb t = (sb s).set i y) (h : csum t = csum s) : (sb s).getD i 0 = y := by
  have h1 := crun_lt s
  have h2 := crun_lt t
  unfold csum at h
  have h3 : crun (sb t) = crun (sb s) := by omega
  rw [ht] at h3
  exact fold_set (sb s) i y 4294967295 (by decide) (sb_byte s) hy (by rw [sb_len]; exact hi) h3
theorem le4_inj {a b : Nat} (ha : a < 4294967296) (hb : b < 4294967296) (h : strOfNums (le4 a) = strOfNums (le4 b)) : a = b := by
  have h1 : sb (strOfNums (le4 a)) = sb (strOfNums (le4 b)) := by rw [h]
  rw [sb_nums (le4_byte a), sb_nums (le4_byte b)] at h1
  simp only [le4, List.map_cons, List.map_nil, Int.toNat_natCast, List.cons.injEq, and_true] at h1
  omega
theorem fr_bad (t C r : ByteArray) (hC : C.size = 4) (h : t.size ≤ 9223372036854775807) (hne : packS t ≠ (vstr t.size ++ t) ++ C) : fr (((vstr t.size ++ t) ++ C) ++ r) = (⟨#[]⟩, 0, 6) := by
  have h1 := rtext_back ⟨#[]⟩ (C ++ r) t h
  have e : (⟨#[]⟩ : ByteArray) ++ ((vstr t.size ++ t) ++ (C ++ r)) = ((vstr t.size ++ t) ++ C) ++ r := by
    rw [nil_app]; simp only [ByteArray.append_assoc]
  rw [e] at h1
  have h1 : rtext (((vstr t.size ++ t) ++ C) ++ r) 0 = (t, 0, 0 + (vstr t.size ++ t).size) := h1
  have e2 : 0 + (vstr t.size ++ t).size + 4 = ((vstr t.size ++ t) ++ C).size := by simp only [ByteArray.size_append, hC]; omega
  rw [fr, h1]
  rw [if_neg (by simp), if_neg (by simp only [ByteArray.size_append, hC]; omega)]
  simp only [e2]
  rw [extract_app, if_neg (by simpa using hne)]
theorem turnK_in {P : ByteArray} {bit : Int} (h1 : 0 ≤ bit) (h2 : bit < 8 * (P.size : Int)) : (turnK P bit : Int) = bit := by
  have hp : 0 < 8 * (P.size : Int) := by omega
  have e1 : bit.tmod (8 * (P.size : Int)) = bit := Int.tmod_eq_of_lt h1 h2
  rw [turnK, e1, Int.tmod_eq_emod_of_nonneg (by omega), Int.add_emod_right, Int.emod_eq_of_lt h1 h2]
  omega
theorem sb_turnS {P : ByteArray} {bit : Int} {k : Nat} (h0 : 0 < P.size) (hk : turnK P bit = k) : sb (turnS P bit) = turnL P k := by
  rw [turnS, if_neg (by omega), sb_turn, hk]
theorem turnS_size (P : ByteArray) (bit : Int) : (turnS P bit).size = P.size := by
  by_cases h : P.size = 0
  · rw [turnS, if_pos h, h]; rfl
  · rw [← sb_len, sb_turnS (by omega) rfl, turnL_len]
theorem pow_ne (x j : Nat) : x ^^^ 2 ^ j ≠ x := fun h => by
  have h2 : x ^^^ 2 ^ j = x ^^^ 0 := by rw [h, Nat.xor_zero]
  have := xor_left h2
  have := Nat.pow_pos (n := j) (show 0 < 2 by decide)
  omega
theorem turn_other {P : ByteArray} {bit : Int} {k : Nat} (hk : turnK P bit = k) (h0 : k < 8 * P.size) : turnS P bit ≠ P := fun h => by
  have h1 : sb (turnS P bit) = sb P := by rw [h]
  rw [sb_turnS (by omega) hk, turnL] at h1
  have hm : k / 8 < (sb P).length := by rw [sb_len]; omega
  have h2 : ((sb P).set (k / 8) ((sb P).getD (k / 8) 0 ^^^ 2 ^ (k % 8))).getD (k / 8) 0 = (sb P).getD (k / 8) 0 := by rw [h1]
  rw [List.getD_eq_getElem?_getD, List.getElem?_set_self hm] at h2
  exact pow_ne _ _ h2
theorem turn_twice {P : ByteArray} {bit : Int} {k : Nat} (hk : turnK P bit = k) (h0 : k < 8 * P.size) : turnS (turnS P bit) bit = P := by
  have hz := turnS_size P bit
  have hk2 : turnK (turnS P bit) bit = k := by rw [turnK, hz]; exact hk
  apply sb_inj
  rw [sb_turnS (by omega) hk2, turnL, sb_turnS (by omega) hk, turnL]
  have hm : k / 8 < (sb P).length := by rw [sb_len]; omega
  rw [List.set_set, List.getD_eq_getElem?_getD, List.getElem?_set_self hm]
  simp only [Option.getD_some]
  rw [Nat.xor_assoc, Nat.xor_self, Nat.xor_zero, List.getD_eq_getElem?_getD, List.getElem?_eq_getElem hm]
  simp
theorem sb_ofs {l : List Nat} (h : ∀ b ∈ l, b < 256) : sb (strOfNums (l.map Int.ofNat)) = l := by
  rw [sb_nums (fun n hn => by
    obtain ⟨m, hm, rfl⟩ := List.mem_map.1 hn
    exact ⟨Int.natCast_nonneg _, Int.ofNat_lt.2 (h m hm)⟩), List.map_map]
  exact (List.map_congr_left fun a _ => rfl).trans (List.map_id _)
theorem set_byte {l : List Nat} {i y : Nat} (h : ∀ b ∈ l, b < 256) (hy : y < 256) : ∀ b ∈ l.set i y, b < 256 := fun b hb => by
  rcases List.mem_or_eq_of_mem_set hb with h1 | h1
  · exact h b h1
  · omega
theorem frame_turn (s r : ByteArray) (bit : Int) (hs : s.size ≤ 9223372036854775807) (h1 : 8 * ((vstr s.size).size : Int) ≤ bit) (h2 : bit < 8 * ((packS s).size : Int)) : fr (turnS (packS s) bit ++ r) = (⟨#[]⟩, 0, 6) := by
  obtain ⟨k, hkd⟩ : ∃ k, k = turnK (packS s) bit := ⟨_, rfl⟩
  have hk := turnK_in (P := packS s) (by omega) h2
  rw [← hkd] at hk
  have hz := packS_size s
  have hne := turn_other hkd.symm (by omega)
  have hsb := sb_turnS (P := packS s) (bit := bit) (by omega) hkd.symm
  have hTz := turnS_size (packS s) bit
  obtain ⟨T, hT⟩ : ∃ T, T = turnS (packS s) bit := ⟨_, rfl⟩
  rw [← hT] at hne hsb hTz ⊢
  obtain ⟨m, hm⟩ : ∃ m, m = k / 8 := ⟨_, rfl⟩
  obtain ⟨y, hy⟩ : ∃ y, y = (sb (packS s)).getD (k / 8) 0 ^^^ 2 ^ (k % 8) := ⟨_, rfl⟩
  have hy2 : y < 256 := by rw [hy]; exact Nat.xor_lt_two_pow (n := 8) (sb_lt _ _) (pow8 (Nat.mod_lt _ (by decide)))
  have hyne : (sb (packS s)).getD m 0 ≠ y := by rw [hy, hm]; exact fun e => pow_ne _ _ e.symm
  rw [turnL, ← hy, ← hm] at hsb
  clear hy
  have hP : sb (packS s) = sb (vstr s.size) ++ (sb s ++ sb (strOfNums (le4 (csum s)))) := by rw [packS, sb_app, sb_app, List.append_assoc]
  have lV : (sb (vstr s.size)).length = (vstr s.size).size := sb_len _
  have lS : (sb s).length = s.size := sb_len _
  rw [hP, List.set_append_right _ _ (by omega)] at hsb
  by_cases hin : m < (vstr s.size).size + s.size
  · rw [List.set_append_left _ _ (by omega)] at hsb
    obtain ⟨i, hi⟩ : ∃ i, i = m - (sb (vstr s.size)).length := ⟨_, rfl⟩
    rw [← hi] at hsb
    have hg : (sb (packS s)).getD m 0 = (sb s).getD i 0 := by
      rw [hP, List.getD_eq_getElem?_getD, List.getElem?_append_right (by omega), List.getElem?_append_left (by omega), ← hi, List.getD_eq_getElem?_getD]
    have hs2 := sb_ofs (set_byte (i := i) (sb_byte s) hy2)
    obtain ⟨t, ht⟩ : ∃ t, t = strOfNums (((sb s).set i y).map Int.ofNat) := ⟨_, rfl⟩
    rw [← ht] at hs2
    have htz : t.size = s.size := by rw [← sb_len, hs2, List.length_set, sb_len]
    have hTe : T = (vstr t.size ++ t) ++ strOfNums (le4 (csum s)) := by
      apply sb_inj
      rw [hsb, sb_app, sb_app, hs2, htz, List.append_assoc]
    rw [hTe]
    refine fr_bad t _ r (le4_len _) (by omega) fun e => ?_
    have e1 : sb (strOfNums (le4 (csum t))) = sb (strOfNums (le4 (csum s))) := by
      have := congrArg sb e
      rw [packS, sb_app, sb_app _ (strOfNums (le4 (csum s)))] at this
      exact List.append_cancel_left this
    have e2 := le4_inj (csum_lt t) (csum_lt s) (sb_inj e1)
    have e3 := csum_set s t i y (by omega) hy2 hs2 e2
    exact hyne (hg.trans e3)
  · rw [List.set_append_right _ _ (by omega)] at hsb
    obtain ⟨i, hi⟩ : ∃ i, i = m - (sb (vstr s.size)).length - (sb s).length := ⟨_, rfl⟩
    rw [← hi] at hsb
    have hc2 := sb_ofs (set_byte (i := i) (sb_byte (strOfNums (le4 (csum s)))) hy2)
    obtain ⟨C, hC⟩ : ∃ t, t = strOfNums (((sb (strOfNums (le4 (csum s)))).set i y).map Int.ofNat) := ⟨_, rfl⟩
    rw [← hC] at hc2
    have hCz : C.size = 4 := by rw [← sb_len, hc2, List.length_set, sb_len, le4_len]
    have hTe : T = (vstr s.size ++ s) ++ C := by
      apply sb_inj
      rw [hsb, sb_app, sb_app, hc2, List.append_assoc]
    rw [hTe] at hne ⊢
    exact fr_bad s C r hCz hs hne.symm
end Go.Proofs.Ytppnicpbncfhnaa
