/-
  The law DiskStops: a disk stops where it is armed.
-/
import Derived.Test.YtojolcpblacjjaaDoorDkT
set_option linter.unusedSimpArgs false
set_option linter.unusedVariables false
set_option maxRecDepth 20000
namespace Go.Proofs.YtojolcpblacjjaaDoor
open Go Go.Eng Go.RowKit Go.Tr Go.Dk
def sWd : ByteArray := { data := #[119] }
def sD (s : ByteArray) (k : Nat) (a : Int) (b : Bool) : Dk := ⟨[(sV, itmD), (sVa, ⟨false, s, ByteArray.empty, true, true, 1 + (k : Int)⟩)], [], 2 + (k : Int), 1 + (k : Int), a, b, 2 + k, 0⟩
theorem sp0 : write dA1 sVa { data := #[] } = (0, sD { data := #[] } 0 (-1) false) := by kernel_rfl
theorem sp1 (s t : ByteArray) (k : Nat) {a : Int} (h : a ≠ 0) : append (sD s k a false) sVa t = (0, sD (s ++ t) (k + 1) (if 0 < a then a - 1 else a) false) := by
 have hf : file (sD s k a false) sVa = 0 := by kernel_rfl
 have hr : room (sD s k a false) sVa t.size = true := by kernel_rfl
 have hs : stepD (sD s k a false) = (0, { sD s k a false with armed := if 0 < a then a - 1 else a, steps := 2 + (k : Int) + 1 }) := by
  unfold stepD
  rw [if_neg (show ¬ (sD s k a false).armed = 0 from h)]
  rfl
 unfold append
 rw [if_neg (by rw [hf]; decide), if_neg (by rw [hr]; decide), hs, if_neg (show ¬ (0 : Int) ≠ 0 by decide)]
 rfl
theorem sp2 (s t : ByteArray) (k : Nat) : append (sD s k 0 false) sVa t = (14, sD s k (-1) true) := by kernel_rfl
theorem sp3 (s t : ByteArray) (k : Nat) (a : Int) : append (sD s k a true) sVa t = (14, sD s k a true) := by kernel_rfl
theorem sp4 (s : ByteArray) (k : Nat) (a : Int) : readD (sD s k a false) sVa = (s, 0) := by kernel_rfl
theorem sp5 (s : ByteArray) (k : Nat) (a : Int) : readD (sD s k a true) sVa = ({ data := #[] }, 14) := by kernel_rfl
theorem sp6 (s : ByteArray) (k : Nat) (a : Int) : mkdir (sD s k a true) sWd = (14, sD s k a true) := by kernel_rfl
theorem sp7 (s : ByteArray) (k : Nat) (a : Int) : sync (sD s k a true) sVa = (14, sD s k a true) := by kernel_rfl
def sX (s : ByteArray) (k : Nat) : Itm := { lostI (mixD (IntKind.u64.wrap 0) (IntKind.u64.wrap (0 + 1))) ⟨false, s, ByteArray.empty, true, true, 1 + (k : Int)⟩ with stamp := 1 + (k : Int) + 1 }
def sR (s : ByteArray) (k : Nat) : Dk := ⟨[(sV, itmD), (sVa, sX s k)], [], 2 + (k : Int), 1 + (k : Int) + 1, -1, false, 2 + k + 1, 0⟩
def sQ (s : ByteArray) (k : Nat) : Dk := ⟨[(sV, itmD), (sVa, sX s k), (sWd, itmD)], [], 2 + (k : Int) + 1, 1 + (k : Int) + 1, -1, false, 2 + k + 1 + 1, 0⟩
theorem sp8 (s : ByteArray) (k : Nat) (a : Int) : restart (sD s k a true) 0 = sR s k := by
 have e1 : restGo 0 (keysD (sD s k a true).L) 0 (sD s k a true) = restGo 0 [] 1 (setD (sD s k a true) sVa (lostI (mixD (IntKind.u64.wrap 0) (IntKind.u64.wrap (0 + 1))) ⟨false, s, ByteArray.empty, true, true, 1 + (k : Int)⟩)) := by
  have h1 : ¬ (item (sD s k a true) sV).loose = true := by
   have : (item (sD s k a true) sV).loose = false := by kernel_rfl
   rw [this]; decide
  have h2 : (item (sD s k a true) sVa).loose = true := by kernel_rfl
  show restGo 0 [sV, sVa] 0 _ = _
  conv => lhs; rw [restGo, if_neg h1, restGo, if_pos h2]
  rfl
 unfold restart
 rw [e1]
 generalize hX : lostI (mixD (IntKind.u64.wrap 0) (IntKind.u64.wrap (0 + 1))) ⟨false, s, ByteArray.empty, true, true, 1 + (k : Int)⟩ = X
 have : sX s k = { X with stamp := 1 + (k : Int) + 1 } := by rw [sX, hX]
 unfold sR
 rw [this]
 rfl
theorem sp9 (s : ByteArray) (k : Nat) : mkdir (sR s k) sWd = (0, sQ s k) := by
 unfold sR sQ
 generalize sX s k = X
 kernel_rfl
theorem ok_sD (s : ByteArray) (k : Nat) (a : Int) (b : Bool) (hs : s.size ≤ 1048576) (hk : k ≤ 100) (ha : -1 ≤ a ∧ a ≤ 9223372036854775807) : (sD s k a b).Ok 1073741824 :=
 ⟨rise_A _, keys_A _, by show 0 + ((s.size : Int) + 0) ≤ _; omega, by show ((2 + k : Nat) : Int) ≤ _; omega, by show ((0 : Nat) : Int) ≤ _; omega, by show (0 : Int) ≤ 2 + (k : Int) ∧ 2 + (k : Int) ≤ _; omega, by show (0 : Int) ≤ 1 + (k : Int) ∧ 1 + (k : Int) ≤ _; omega, ha⟩
theorem lo_sD (s : ByteArray) (k : Nat) (a : Int) (b : Bool) (hs : s.size ≤ 1048576) : Lo (sD s k a b) := fun p => by
 show LoI ((lookD (sD s k a b).L p).getD itm0)
 simp only [sD, lookD]
 (repeat' split) <;> first | exact ⟨by decide, by decide, fun _ => by decide⟩ | exact ⟨by show (0 : Nat) ≤ _; omega, by show s.size ≤ _; omega, fun h => by cases h⟩
theorem ok_sR (s : ByteArray) (k : Nat) (hs : s.size ≤ 1048576) (hk : k ≤ 100) : (sR s k).Ok 1099511627776 := by
 have hc : (sX s k).data.size ≤ 2097152 := cut_size (x := ⟨false, s, ByteArray.empty, true, true, 1 + (k : Int)⟩) ⟨by show (0 : Nat) ≤ _; omega, by show s.size ≤ _; omega, fun h => by cases h⟩
 exact ⟨rise_A _, keys_A _, by show 0 + (((sX s k).data.size : Int) + 0) ≤ _; omega, by show ((2 + k + 1 : Nat) : Int) ≤ _; omega, by show ((0 : Nat) : Int) ≤ _; omega, by show (0 : Int) ≤ 2 + (k : Int) ∧ 2 + (k : Int) ≤ _; omega, by show (0 : Int) ≤ 1 + (k : Int) + 1 ∧ 1 + (k : Int) + 1 ≤ _; omega, by show (-1 : Int) ≤ -1 ∧ (-1 : Int) ≤ _; omega⟩
end Go.Proofs.YtojolcpblacjjaaDoor
