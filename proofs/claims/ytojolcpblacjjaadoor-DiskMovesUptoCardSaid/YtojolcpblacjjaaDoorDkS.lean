/-
  The law DiskMoves: a rename is one step.
-/
import Derived.Test.YtojolcpblacjjaaDoorDkW
import Derived.Test.YtojolcpblacjjaaDoorDkR
import Derived.Test.YtojolcpblacjjaaDoorUpt
set_option linter.unusedSimpArgs false
set_option linter.unusedVariables false
set_option maxRecDepth 20000
namespace Go.Proofs.YtojolcpblacjjaaDoor
open Go Go.Eng Go.RowKit Go.Tr Go.Dk
def mA (x : ByteArray) : Dk := ⟨[(sV, itmD), (sVa, ⟨false, x, ByteArray.empty, true, true, 1⟩)], [], 2, 1, -1, false, 2, 0⟩
def mB (x : ByteArray) : Dk := ⟨[(sV, itmD), (sVa, ⟨false, x, x, false, false, 1⟩)], [], 3, 1, -1, false, 3, 0⟩
def mC (x y : ByteArray) : Dk := ⟨[(sV, itmD), (sVa, ⟨false, x, x, false, false, 1⟩), (sVb, ⟨false, y, ByteArray.empty, true, true, 2⟩)], [], 4, 2, -1, false, 4, 0⟩
def mD (x y : ByteArray) (a : Int) (b : Bool) : Dk := ⟨[(sV, itmD), (sVa, ⟨false, x, x, false, false, 1⟩), (sVb, ⟨false, y, y, false, false, 2⟩)], [], 5, 2, a, b, 5, 0⟩
def mE (y : ByteArray) : Dk := ⟨[(sV, itmD), (sVa, ⟨false, y, y, false, false, 3⟩)], [], 6, 3, -1, false, 6, 0⟩
theorem mv1 (x : ByteArray) : write dA1 sVa x = (0, mA x) := by kernel_rfl
theorem mv2 (x : ByteArray) : sync (mA x) sVa = (0, mB x) := by kernel_rfl
theorem mv3 (x y : ByteArray) : write (mB x) sVb y = (0, mC x y) := by kernel_rfl
theorem mv4 (x y : ByteArray) : sync (mC x y) sVb = (0, mD x y (-1) false) := by kernel_rfl
theorem mv5 (x y : ByteArray) : armD (mD x y (-1) false) 0 = mD x y 0 false := by kernel_rfl
theorem mv6 (x y : ByteArray) : rename (mD x y 0 false) sVb sVa = (14, mD x y (-1) true) := by kernel_rfl
theorem mv7 (x y : ByteArray) : rename (mD x y (-1) false) sVb sVa = (0, mE y) := by kernel_rfl
theorem mv8 (x y : ByteArray) (b : Bool) (loss : Int) : restart (mD x y (-1) b) loss = mD x y (-1) false := by
 unfold restart
 rw [rest_same]
 ·rfl
 ·intro p
  show ((lookD (mD x y (-1) b).L p).getD itm0).loose = false
  simp only [mD, lookD]
  (repeat' split) <;> rfl
theorem mv9 (y : ByteArray) (loss : Int) : restart (mE y) loss = mE y := by
 unfold restart
 rw [rest_same]
 ·rfl
 ·intro p
  show ((lookD (mE y).L p).getD itm0).loose = false
  simp only [mE, lookD]
  (repeat' split) <;> rfl
theorem mva (x y : ByteArray) : readD (mD x y (-1) false) sVa = (x, 0) := by kernel_rfl
theorem mvb (x y : ByteArray) : readD (mD x y (-1) false) sVb = (y, 0) := by kernel_rfl
theorem mvc (y : ByteArray) : readD (mE y) sVa = (y, 0) := by kernel_rfl
theorem mvd (y : ByteArray) : readD (mE y) sVb = ({ data := #[] }, 11) := by kernel_rfl
theorem mve (y : ByteArray) : used (mE y) sV = y.size := by
 have : used (mE y) sV = 0 + ((y.size : Int) + 0) := by kernel_rfl
 omega
theorem rise_AB (p q : Itm) : Rise [(sV, itmD), (sVa, p), (sVb, q)] := by
 have h1 : blt sV sVa = true := by rw [← bltD_eq]; decide
 have h2 : blt sV sVb = true := by rw [← bltD_eq]; decide
 have h3 : blt sVa sVb = true := by rw [← bltD_eq]; decide
 simp [Rise, h1, h2, h3]
theorem rise_A (p : Itm) : Rise [(sV, itmD), (sVa, p)] := rise_two (by show bltD sV sVa = true; decide)
theorem keys_AB (p q : Itm) : ∀ e ∈ [(sV, itmD), (sVa, p), (sVb, q)], e.1.size ≤ 1048576 := by
 intro e he
 simp only [List.mem_cons, List.not_mem_nil, or_false] at he
 rcases he with rfl | rfl | rfl
 ·exact sz_V.1
 ·exact sz_V.2.1
 ·exact sz_V.2.2.1
theorem keys_A (p : Itm) : ∀ e ∈ [(sV, itmD), (sVa, p)], e.1.size ≤ 1048576 := by
 intro e he
 simp only [List.mem_cons, List.not_mem_nil, or_false] at he
 rcases he with rfl | rfl
 ·exact sz_V.1
 ·exact sz_V.2.1
theorem ok_mA (x : ByteArray) (hx : x.size ≤ 1048576) : (mA x).Ok 1073741824 := ⟨rise_A _, keys_A _, by show 0 + ((x.size : Int) + 0) ≤ _; omega, by show ((2 : Nat) : Int) ≤ _; omega, by show ((0 : Nat) : Int) ≤ _; omega, by show (0 : Int) ≤ 2 ∧ (2 : Int) ≤ _; omega, by show (0 : Int) ≤ 1 ∧ (1 : Int) ≤ _; omega, by show (-1 : Int) ≤ -1 ∧ (-1 : Int) ≤ _; omega⟩
theorem ok_mB (x : ByteArray) (hx : x.size ≤ 1048576) : (mB x).Ok 1073741824 := ⟨rise_A _, keys_A _, by show 0 + ((x.size : Int) + 0) ≤ _; omega, by show ((3 : Nat) : Int) ≤ _; omega, by show ((0 : Nat) : Int) ≤ _; omega, by show (0 : Int) ≤ 3 ∧ (3 : Int) ≤ _; omega, by show (0 : Int) ≤ 1 ∧ (1 : Int) ≤ _; omega, by show (-1 : Int) ≤ -1 ∧ (-1 : Int) ≤ _; omega⟩
theorem ok_mC (x y : ByteArray) (hx : x.size ≤ 1048576) (hy : y.size ≤ 1048576) : (mC x y).Ok 1073741824 := ⟨rise_AB _ _, keys_AB _ _, by show 0 + ((x.size : Int) + ((y.size : Int) + 0)) ≤ _; omega, by show ((4 : Nat) : Int) ≤ _; omega, by show ((0 : Nat) : Int) ≤ _; omega, by show (0 : Int) ≤ 4 ∧ (4 : Int) ≤ _; omega, by show (0 : Int) ≤ 2 ∧ (2 : Int) ≤ _; omega, by show (-1 : Int) ≤ -1 ∧ (-1 : Int) ≤ _; omega⟩
theorem ok_mD (x y : ByteArray) (hx : x.size ≤ 1048576) (hy : y.size ≤ 1048576) (a : Int) (b : Bool) (ha : -1 ≤ a ∧ a ≤ 0) : (mD x y a b).Ok 1073741824 := ⟨rise_AB _ _, keys_AB _ _, by show 0 + ((x.size : Int) + ((y.size : Int) + 0)) ≤ _; omega, by show ((5 : Nat) : Int) ≤ _; omega, by show ((0 : Nat) : Int) ≤ _; omega, by show (0 : Int) ≤ 5 ∧ (5 : Int) ≤ _; omega, by show (0 : Int) ≤ 2 ∧ (2 : Int) ≤ _; omega, by show (-1 : Int) ≤ a ∧ a ≤ _; omega⟩
theorem ok_mE (y : ByteArray) (hy : y.size ≤ 1048576) : (mE y).Ok 1073741824 := ⟨rise_A _, keys_A _, by show 0 + ((y.size : Int) + 0) ≤ _; omega, by show ((6 : Nat) : Int) ≤ _; omega, by show ((0 : Nat) : Int) ≤ _; omega, by show (0 : Int) ≤ 6 ∧ (6 : Int) ≤ _; omega, by show (0 : Int) ≤ 3 ∧ (3 : Int) ≤ _; omega, by show (-1 : Int) ≤ -1 ∧ (-1 : Int) ≤ _; omega⟩
theorem lo_mD (x y : ByteArray) (hx : x.size ≤ 1048576) (hy : y.size ≤ 1048576) (a : Int) (b : Bool) : Lo (mD x y a b) := fun p => by
 show LoI ((lookD (mD x y a b).L p).getD itm0)
 simp only [mD, lookD]
 (repeat' split) <;> first | exact ⟨by decide, by decide, fun _ => by decide⟩ | exact ⟨by dsimp only [Option.getD]; omega, by dsimp only [Option.getD]; omega, fun _ => Nat.le_refl _⟩
theorem lo_mE (y : ByteArray) (hy : y.size ≤ 1048576) : Lo (mE y) := fun p => by
 show LoI ((lookD (mE y).L p).getD itm0)
 simp only [mE, lookD]
 (repeat' split) <;> first | exact ⟨by decide, by decide, fun _ => by decide⟩ | exact ⟨by dsimp only [Option.getD]; omega, by dsimp only [Option.getD]; omega, fun _ => Nat.le_refl _⟩
end Go.Proofs.YtojolcpblacjjaaDoor
