/-
  A bit turned.
-/
import Derived.Test.YtppnicpbncfhnaaPak
import Derived.Lib.ConvBytes
set_option linter.unusedSimpArgs false
set_option linter.unusedVariables false
set_option maxRecDepth 20000
namespace Go.Proofs.Ytppnicpbncfhnaa
open Go Go.Eng Go.RowKit
/-- which bit -/
def turnK (s : ByteArray) (bit : Int) : Nat := ((bit.tmod (8 * (s.size : Int)) + 8 * (s.size : Int)).tmod (8 * (s.size : Int))).toNat
/-- the bytes, with that bit turned -/
def turnL (s : ByteArray) (k : Nat) : List Nat := (sb s).set (k / 8) ((sb s).getD (k / 8) 0 ^^^ 2 ^ (k % 8))
def turnS (s : ByteArray) (bit : Int) : ByteArray := if s.size = 0 then ⟨#[]⟩ else strOfNums ((turnL s (turnK s bit)).map Int.ofNat)
theorem sb_getD (s : ByteArray) (i : Nat) : (sb s).getD i 0 = (s.data.toList.getD i 0).toNat := by
  simp only [sb, List.getD_eq_getElem?_getD, List.getElem?_map]
  cases s.data.toList[i]? <;> rfl
theorem sb_lt (s : ByteArray) (i : Nat) : (sb s).getD i 0 < 256 := by
  rw [sb_getD]; exact UInt8.toNat_lt _
theorem turnK_eq {s : ByteArray} (bit : Int) (h0 : 0 < s.size) : turnK s bit < 8 * s.size ∧ (bit.tmod (8 * (s.size : Int)) + 8 * (s.size : Int)).tmod (8 * (s.size : Int)) = (turnK s bit : Int) := by
  have hp : 0 < 8 * (s.size : Int) := by omega
  have a1 := Int.tmod_lt_of_pos bit hp
  have a2 := Int.lt_tmod_of_pos bit hp
  have b1 := Int.tmod_lt_of_pos (bit.tmod (8 * (s.size : Int)) + 8 * (s.size : Int)) hp
  have b2 : 0 ≤ (bit.tmod (8 * (s.size : Int)) + 8 * (s.size : Int)).tmod (8 * (s.size : Int)) := Int.tmod_nonneg _ (by omega)
  unfold turnK
  omega
theorem xor8 {a b : Nat} (ha : a < 256) (hb : b < 256) : bits .xor .u8 (a : Int) (b : Int) = ((a ^^^ b : Nat) : Int) := by
  have hx : a ^^^ b < 2 ^ 8 := Nat.xor_lt_two_pow (n := 8) ha hb
  show IntKind.u8.wrap ((BitVec.ofInt 8 (a : Int) ^^^ BitVec.ofInt 8 (b : Int)).toNat : Nat) = _
  rw [BitVec.toNat_xor, BitVec.toNat_ofInt, BitVec.toNat_ofInt, IntKind.wrap_u8]
  have a1 : ((a : Int) % ((2 ^ 8 : Nat) : Int)).toNat = a := by omega
  have a2 : ((b : Int) % ((2 ^ 8 : Nat) : Int)).toNat = b := by omega
  rw [a1, a2]; omega
theorem pow8 {j : Nat} (h : j < 8) : 2 ^ j < 256 := by
  rcases j with _ | _ | _ | _ | _ | _ | _ | _ | j <;> first | decide | omega
theorem cell_set (w : World) (s : ByteArray) (k i : Nat) (v : Value) (hi : i < s.size) :
    ((Lib.bytesWorld w 5 s).setCell ⟨w.heap.size, k, none⟩ v).drew.cell? ⟨w.heap.size, i, none⟩ = some (if i = k then v else .int .u8 (s.data.toList.getD i 0).toNat) := by
  have hb : (Lib.bytesWorld w 5 s).heap[w.heap.size]? = _ := Lib.bytesWorld_at_new w 5 s
  have hc := Lib.bytesWorld_cell w 5 s i hi
  simp only [World.cell?, hb] at hc
  have hsz : s.size ≤ (Lib.bytesCells w 5 s).size := by simp [Lib.bytesCells]
  have hb' : ((Lib.bytesWorld w 5 s).setCell ⟨w.heap.size, k, none⟩ v).drew.heap[w.heap.size]? = some (.cells ((Lib.bytesCells w 5 s).setIfInBounds k v) 5 ((Lib.bytesCells w 5 s).size, (Lib.bytesCells w 5 s).size + 1)) := by
    show ((Lib.bytesWorld w 5 s).setCell ⟨w.heap.size, k, none⟩ v).heap[w.heap.size]? = _
    simp only [World.setCell, Array.getElem?_modify]
    rw [if_pos trivial, hb]
    rfl
  simp only [World.cell?, hb']
  simp only [Option.isSome_none, Bool.false_eq_true, if_false] at hc ⊢
  rw [Array.getElem?_setIfInBounds]
  by_cases h : k = i
  · subst h; rw [if_pos rfl, if_pos (by omega), if_pos rfl]
  · rw [if_neg h, if_neg (fun e => h e.symm), hc]
theorem turnL_at (s : ByteArray) (k i : Nat) (hi : i < s.size) : ((turnL s k).map Int.ofNat).getD i 0 = if i = k / 8 then (((sb s).getD (k / 8) 0 ^^^ 2 ^ (k % 8) : Nat) : Int) else ((sb s).getD i 0 : Nat) := by
  have hl := sb_len s
  have hget : (sb s)[i]? = some ((sb s).getD i 0) := by
    rw [List.getD_eq_getElem?_getD, List.getElem?_eq_getElem (by omega)]; rfl
  rw [List.getD_eq_getElem?_getD, List.getElem?_map, turnL, List.getElem?_set]
  by_cases h : k / 8 = i
  · rw [if_pos h, if_pos (by omega), if_pos h.symm]; rfl
  · rw [if_neg h, if_neg (fun e => h e.symm), hget]; rfl
theorem turnL_len (s : ByteArray) (k : Nat) : (turnL s k).length = s.size := by rw [turnL, List.length_set, sb_len]
set_option maxHeartbeats 400000 in
theorem turn_calls (s : ByteArray) (bit : Int) (w : World) (h0 : 0 < s.size) (hs : s.size ≤ 140737488355328) (h1 : -9223372036854775808 ≤ bit) (h2 : bit ≤ 9223372036854775807) :
    Calls Try.prog 40 #[.string s, .int .i64 bit] w (Ret fun e w' => e = .string (turnS s bit) ∧ Below w.heap.size w w') := by
  have hm : IntKind.i64.wrap (8 * (s.size : Int)) = 8 * (s.size : Int) := by rw [IntKind.wrap_i64]; omega
  obtain ⟨k, hkd⟩ : ∃ k, k = turnK s bit := ⟨_, rfl⟩
  obtain ⟨hk1, hk3⟩ := turnK_eq (s := s) bit h0
  have hk2 : (wrap64 (bit.tmod (8 * (s.size : Int)) + 8 * (s.size : Int))).tmod (8 * (s.size : Int)) = (k : Int) := by
    have hp : 0 < 8 * (s.size : Int) := by omega
    have a1 := Int.tmod_lt_of_pos bit hp
    have a2 := Int.lt_tmod_of_pos bit hp
    rw [show wrap64 (bit.tmod (8 * (s.size : Int)) + 8 * (s.size : Int)) = bit.tmod (8 * (s.size : Int)) + 8 * (s.size : Int) by unfold wrap64; omega, hk3, hkd]
  rw [← hkd] at hk1
  clear hk3
  have fin : turnS s bit = strOfNums ((turnL s k).map Int.ofNat) := by rw [turnS, if_neg (by omega), hkd]
  rw [fin]
  clear fin hkd
  have mixed := mixed
  have hk8 : k / 8 < s.size := by omega
  obtain ⟨c, hcc⟩ : ∃ c : Nat, c = (s.data.toList.getD (k / 8) 0).toNat := ⟨_, rfl⟩
  have hc1 : (Lib.bytesWorld w 5 s).drew.cell? ⟨w.heap.size, k / 8, none⟩ = some (.int .u8 c) := by
    rw [hcc]; exact Lib.bytesWorld_cell w 5 s (k / 8) hk8
  have hf1 : (Lib.bytesWorld w 5 s).drew.frozen? ⟨w.heap.size, k / 8, none⟩ = false := by
    have hb : (Lib.bytesWorld w 5 s).drew.heap[w.heap.size]? = _ := Lib.bytesWorld_at_new w 5 s
    have hsz : s.size ≤ (Lib.bytesCells w 5 s).size := by simp [Lib.bytesCells]
    simp only [World.frozen?, hb]
    simp; omega
  have hback : ∀ v : Int, v = (((sb s).getD (k / 8) 0 ^^^ 2 ^ (k % 8) : Nat) : Int) → (convert 88 9 (.slice (some ⟨w.heap.size, 0, none⟩) s.size (grownCap w s.size 0 5))).run Try.prog ((Lib.bytesWorld w 5 s).setCell ⟨w.heap.size, k / 8, none⟩ (.int .u8 v)).drew = .ok (.string (strOfNums ((turnL s k).map Int.ofNat))) ((Lib.bytesWorld w 5 s).setCell ⟨w.heap.size, k / 8, none⟩ (.int .u8 v)).drew := fun v hv =>
    run_convert_bytes_arg _ 88 5 Try.underlying88 Try.underlying5 w.heap.size 0 s.size _ ((turnL s k).map Int.ofNat) (by rw [List.length_map, turnL_len]) (fun i hi => by
      rw [turnL_at s k i hi, Nat.zero_add, cell_set w s (k / 8) i _ hi, ← sb_getD]
      by_cases h : i = k / 8
      · rw [if_pos h, if_pos h, hv]
      · rw [if_neg h, if_neg h]) 9 Try.underlying9
  have B0 : Below w.heap.size w (Lib.bytesWorld w 5 s) := ⟨rfl, rfl, rfl, by rw [Lib.bytesWorld_size w 5 s]; omega, fun j hj => Lib.bytesWorld_at_old w 5 s j hj⟩
  have hbelow : ∀ v : Value, Below w.heap.size w ((Lib.bytesWorld w 5 s).setCell ⟨w.heap.size, k / 8, none⟩ v).drew := fun v => (B0.setCell (Nat.le_refl _) v).drew
  have hval : bits .xor .u8 ((s.data[k / 8]'hk8).toNat : Int) (2 ^ (k % 8) % 256) = (((sb s).getD (k / 8) 0 ^^^ 2 ^ (k % 8) : Nat) : Int) := by
    have hj : k % 8 < 8 := Nat.mod_lt _ (by decide)
    have e1 : ((2 : Int) ^ (k % 8) % 256) = ((2 ^ (k % 8) : Nat) : Int) := by
      have := pow8 hj
      rw [show (2 : Int) ^ (k % 8) = ((2 ^ (k % 8) : Nat) : Int) from (Int.natCast_pow 2 _).symm]
      exact Int.emod_eq_of_lt (Int.natCast_nonneg _) (by exact_mod_cast this)
    have e2 : ((s.data[k / 8]'hk8).toNat) = (sb s).getD (k / 8) 0 := by
      rw [sb_getD, List.getD_eq_getElem?_getD, List.getElem?_eq_getElem (by simpa using hk8)]; simp
    rw [e1, e2, xor8 (sb_lt s _) (pow8 hj)]
  have HB : Hid (∀ v : Int, _ → _) := hback
  have HL : Hid (∀ v : Value, _) := hbelow
  have HV : Hid (_ = _) := hval
  clear hback hbelow hval B0
  go_enter Try.func40, Try.ntmps40
  go_wp2
  rw [Lib.run_convert_string_bytes w 9 88 5 s Try.underlying9 Try.underlying88 Try.underlying5]
  simp only [Result.andThen]
  rw [Oper.upon_value]
  go_wp2
  go_region_o
  all_goals
    go_wp2
    rw [HB.out _ HV.out]
    simp only [Result.andThen]
    rw [Oper.upon_value]
    go_wp2
    go_ret
    exact ⟨rfl, HL.out _⟩
theorem turn_calls0 (s : ByteArray) (bit : Int) (w : World) (h0 : s.size = 0) :
    Calls Try.prog 40 #[.string s, .int .i64 bit] w (Ret fun e w' => e = .string (turnS s bit) ∧ Below w.heap.size w w') := by
  have fin : turnS s bit = ⟨#[]⟩ := by rw [turnS, if_pos h0]
  rw [fin]
  have hn : (s.size : Int) = 0 := by omega
  clear fin
  go_enter Try.func40, Try.ntmps40
  go_wp2
  go_ret
  exact ⟨rfl, Below.refl _ _⟩
theorem turn_H (s : ByteArray) (bit : Int) (hs : s.size ≤ 140737488355328) (h1 : -9223372036854775808 ≤ bit) (h2 : bit ≤ 9223372036854775807) :
    HFun Try.prog 40 [.v (.string s), .v (.int .i64 bit)] (fun h st => h = .v (.string (turnS s bit)) ∧ st = []) := hfun_low fun w vs R => by
  obtain ⟨r1, r2⟩ := R
  match vs, r1 with
  | [a, b], _ =>
  have ha := r2 0 (by simp) (by simp)
  have hb := r2 1 (by simp) (by simp)
  simp only [List.getElem_cons_zero, List.getElem_cons_succ] at ha hb
  have := repH_v ha
  subst this
  have := repH_v hb
  subst this
  by_cases h0 : s.size = 0
  · exact turn_calls0 s bit w h0
  · exact turn_calls s bit w (by omega) hs h1 h2
end Go.Proofs.Ytppnicpbncfhnaa
