/-
  The law DiskKeeps: what was synced survives every loss: plain.
-/
import Derived.Test.YtojolcpblacjjaaDoorDkV
set_option linter.unusedSimpArgs false
set_option linter.unusedVariables false
set_option maxRecDepth 20000
namespace Go.Proofs.YtojolcpblacjjaaDoor
open Go Go.Eng Go.RowKit Go.Tr Go.Dk
def sVc' : ByteArray := { data := #[118, 47, 99] }
def iW (x : ByteArray) (t : Int) : Itm := ⟨false, x, ByteArray.empty, true, true, t⟩
def iK (x : ByteArray) (t : Int) : Itm := ⟨false, x, x, false, false, t⟩
def kL (x : ByteArray) : Nat → List (ByteArray × Itm)
 | 0 => [(sV, itmD)]
 | 1 => [(sV, itmD), (sVa, iK x 1)]
 | 2 => [(sV, itmD), (sVa, iK x 1), (sVb, iK x 2)]
 | _ => [(sV, itmD), (sVa, iK x 1), (sVb, iK x 2), (sVc', iK x 3)]
def kD (x : ByteArray) (i : Nat) : Dk := ⟨kL x i, [], 1 + 2 * (i : Int), (i : Int), -1, false, 1 + 2 * i, 0⟩
def kM (x : ByteArray) : Nat → Dk
 | 0 => ⟨[(sV, itmD), (sVa, iW x 1)], [], 2, 1, -1, false, 2, 0⟩
 | 1 => ⟨[(sV, itmD), (sVa, iK x 1), (sVb, iW x 2)], [], 4, 2, -1, false, 4, 0⟩
 | _ => ⟨[(sV, itmD), (sVa, iK x 1), (sVb, iK x 2), (sVc', iW x 3)], [], 6, 3, -1, false, 6, 0⟩
def kN : Nat → ByteArray
 | 0 => sVa
 | 1 => sVb
 | _ => sVc'
theorem kp1 (x : ByteArray) : ∀ i, i < 3 → write (kD x i) (kN i) x = (0, kM x i)
 | 0, _ => by kernel_rfl
 | 1, _ => by kernel_rfl
 | 2, _ => by kernel_rfl
 | n + 3, h => by omega
theorem kp2 (x : ByteArray) : ∀ i, i < 3 → sync (kM x i) (kN i) = (0, kD x (i + 1))
 | 0, _ => by kernel_rfl
 | 1, _ => by kernel_rfl
 | 2, _ => by kernel_rfl
 | n + 3, h => by omega
def kB (x y : ByteArray) : Itm := ⟨false, x ++ y, x, true, false, 4⟩
def kE (x y : ByteArray) : Dk := ⟨[(sV, itmD), (sVa, iK x 1), (sVb, kB x y), (sVc', iK x 3)], [], 8, 4, -1, false, 8, 0⟩
def kC (x z : ByteArray) : Itm := ⟨false, z, x, true, true, 5⟩
def kF (x y z : ByteArray) : Dk := ⟨[(sV, itmD), (sVa, iK x 1), (sVb, kB x y), (sVc', kC x z)], [], 9, 5, -1, false, 9, 0⟩
theorem kp3 (x y : ByteArray) : append (kD x 3) sVb y = (0, kE x y) := by kernel_rfl
theorem kp4 (x y z : ByteArray) : write (kE x y) sVc' z = (0, kF x y z) := by kernel_rfl
def pkB (loss : Int) : Int := mixD (IntKind.u64.wrap loss) (IntKind.u64.wrap (0 + 1))
def pkC (loss : Int) : Int := mixD (IntKind.u64.wrap loss) (IntKind.u64.wrap (0 + 1 + 1))
def kR (x : ByteArray) (b c : Itm) : Dk := ⟨[(sV, itmD), (sVa, iK x 1), (sVb, { b with stamp := 6 }), (sVc', { c with stamp := 7 })], [], 9, 7, -1, false, 11, 0⟩
theorem kp5 (x y z : ByteArray) (loss : Int) : restart (kF x y z) loss = kR x (lostI (pkB loss) (kB x y)) (lostI (pkC loss) (kC x z)) := by
 have h1 : ¬ (item (kF x y z) sV).loose = true := by
  have : (item (kF x y z) sV).loose = false := by kernel_rfl
  rw [this]; decide
 have h2 : ¬ (item (kF x y z) sVa).loose = true := by
  have : (item (kF x y z) sVa).loose = false := by kernel_rfl
  rw [this]; decide
 have h3 : (item (kF x y z) sVb).loose = true := by kernel_rfl
 have h3' : item (kF x y z) sVb = kB x y := by kernel_rfl
 have e : restGo loss (keysD (kF x y z).L) 0 (kF x y z) = setD (setD (kF x y z) sVb (lostI (pkB loss) (kB x y))) sVc' (lostI (pkC loss) (kC x z)) := by
  show restGo loss [sV, sVa, sVb, sVc'] 0 _ = _
  rw [restGo, if_neg h1, restGo, if_neg h2, restGo, if_pos h3, h3']
  have hb : lostI (mixD (IntKind.u64.wrap loss) (IntKind.u64.wrap (0 + 1))) (kB x y) = lostI (pkB loss) (kB x y) := rfl
  rw [hb]
  generalize lostI (pkB loss) (kB x y) = X
  have h4' : item (setD (kF x y z) sVb X) sVc' = kC x z := by kernel_rfl
  rw [restGo, h4', if_pos (show (kC x z).loose = true from rfl)]
  rfl
 unfold restart
 rw [e]
 generalize lostI (pkB loss) (kB x y) = X
 generalize lostI (pkC loss) (kC x z) = Y
 first | rfl | (show _ = _; kernel_rfl)
theorem kp6 (x : ByteArray) (b c : Itm) : readD (kR x b c) sVa = (x, 0) := by kernel_rfl
theorem kp7 (x : ByteArray) (b c : Itm) (h : b.dir = false) : readD (kR x b c) sVb = (b.data, 0) := by
 obtain ⟨d1, d2, d3, d4, d5, d6⟩ := b
 simp only at h
 subst h
 kernel_rfl
theorem kp8 (x : ByteArray) (b c : Itm) (h : c.dir = false) : readD (kR x b c) sVc' = (c.data, 0) := by
 obtain ⟨d1, d2, d3, d4, d5, d6⟩ := c
 simp only at h
 subst h
 kernel_rfl
theorem rise_ABC (p q r : Itm) : Rise [(sV, itmD), (sVa, p), (sVb, q), (sVc', r)] := by
 have h1 : blt sV sVa = true := by rw [← bltD_eq]; decide
 have h2 : blt sV sVb = true := by rw [← bltD_eq]; decide
 have h3 : blt sVa sVb = true := by rw [← bltD_eq]; decide
 have h4 : blt sV sVc' = true := by rw [← bltD_eq]; decide
 have h5 : blt sVa sVc' = true := by rw [← bltD_eq]; decide
 have h6 : blt sVb sVc' = true := by rw [← bltD_eq]; decide
 simp [Rise, h1, h2, h3, h4, h5, h6]
theorem sz_Vc : sVc'.size ≤ 1048576 := by decide
theorem keys_ABC (p q r : Itm) : ∀ e ∈ [(sV, itmD), (sVa, p), (sVb, q), (sVc', r)], e.1.size ≤ 1048576 := by
 intro e he
 simp only [List.mem_cons, List.not_mem_nil, or_false] at he
 rcases he with rfl | rfl | rfl | rfl
 ·exact sz_V.1
 ·exact sz_V.2.1
 ·exact sz_V.2.2.1
 ·exact sz_Vc
theorem ok_list (L : List (ByteArray × Itm)) (hr : Rise L) (hk : ∀ e ∈ L, e.1.size ≤ 1048576) (ht : tot L ≤ 1073741824) (s t : Int) (n : Nat) (hs : 0 ≤ s ∧ s ≤ 100) (ht2 : 0 ≤ t ∧ t ≤ 100) (hn : n ≤ 100) : (⟨L, [], s, t, -1, false, n, 0⟩ : Dk).Ok 1073741824 :=
 ⟨hr, hk, ht, by show (n : Int) ≤ _; omega, by show ((0 : Nat) : Int) ≤ _; omega, by show 0 ≤ s ∧ s ≤ _; omega, by show 0 ≤ t ∧ t ≤ _; omega, by show (-1 : Int) ≤ -1 ∧ (-1 : Int) ≤ _; omega⟩
theorem ok_kD (x : ByteArray) (hx : x.size ≤ 1048576) : ∀ i, i ≤ 3 → (kD x i).Ok 1073741824
 | 0, _ => ok_list _ (by simp [Rise, kL]) (fun e he => by simp only [kL, List.mem_cons, List.not_mem_nil, or_false] at he; subst he; exact sz_V.1) (by show (0 : Int) + 0 ≤ _; omega) _ _ _ (by decide) (by decide) (by decide)
 | 1, _ => ok_list _ (rise_A _) (keys_A _) (by show 0 + ((x.size : Int) + 0) ≤ _; omega) _ _ _ (by decide) (by decide) (by decide)
 | 2, _ => ok_list _ (rise_AB _ _) (keys_AB _ _) (by show 0 + ((x.size : Int) + ((x.size : Int) + 0)) ≤ _; omega) _ _ _ (by decide) (by decide) (by decide)
 | 3, _ => ok_list _ (rise_ABC _ _ _) (keys_ABC _ _ _) (by show 0 + ((x.size : Int) + ((x.size : Int) + ((x.size : Int) + 0))) ≤ _; omega) _ _ _ (by decide) (by decide) (by decide)
 | n + 4, h => by omega
theorem ok_kM (x : ByteArray) (hx : x.size ≤ 1048576) : ∀ i, i < 3 → (kM x i).Ok 1073741824
 | 0, _ => ok_list _ (rise_A _) (keys_A _) (by show 0 + ((x.size : Int) + 0) ≤ _; omega) _ _ _ (by decide) (by decide) (by decide)
 | 1, _ => ok_list _ (rise_AB _ _) (keys_AB _ _) (by show 0 + ((x.size : Int) + ((x.size : Int) + 0)) ≤ _; omega) _ _ _ (by decide) (by decide) (by decide)
 | 2, _ => ok_list _ (rise_ABC _ _ _) (keys_ABC _ _ _) (by show 0 + ((x.size : Int) + ((x.size : Int) + ((x.size : Int) + 0))) ≤ _; omega) _ _ _ (by decide) (by decide) (by decide)
 | n + 3, h => by omega
theorem ok_kE (x y : ByteArray) (hx : x.size ≤ 1048576) (hy : y.size ≤ 1048576) : (kE x y).Ok 1073741824 :=
 ok_list _ (rise_ABC _ _ _) (keys_ABC _ _ _) (by show 0 + ((x.size : Int) + (((x ++ y).size : Int) + ((x.size : Int) + 0))) ≤ _; rw [ByteArray.size_append]; omega) _ _ _ (by decide) (by decide) (by decide)
theorem ok_kF (x y z : ByteArray) (hx : x.size ≤ 1048576) (hy : y.size ≤ 1048576) (hz : z.size ≤ 1048576) : (kF x y z).Ok 1073741824 :=
 ok_list _ (rise_ABC _ _ _) (keys_ABC _ _ _) (by show 0 + ((x.size : Int) + (((x ++ y).size : Int) + ((z.size : Int) + 0))) ≤ _; rw [ByteArray.size_append]; omega) _ _ _ (by decide) (by decide) (by decide)
theorem lo_kF (x y z : ByteArray) (hx : x.size ≤ 1048576) (hy : y.size ≤ 1048576) (hz : z.size ≤ 1048576) : Lo (kF x y z) := fun p => by
 show LoI ((lookD (kF x y z).L p).getD itm0)
 simp only [kF, lookD]
 (repeat' split) <;> first | exact ⟨by decide, by decide, fun _ => by decide⟩ | exact ⟨by show x.size ≤ _; omega, by show x.size ≤ _; omega, fun _ => Nat.le_refl _⟩ | exact ⟨by show x.size ≤ _; omega, by show (x ++ y).size ≤ _; rw [ByteArray.size_append]; omega, fun _ => by show x.size ≤ (x ++ y).size; rw [ByteArray.size_append]; omega⟩ | exact ⟨by show x.size ≤ _; omega, by show z.size ≤ _; omega, fun h => by cases h⟩
theorem cutB (x y : ByteArray) (loss : Int) : ∃ k : Nat, (lostI (pkB loss) (kB x y)).data = (x ++ y).extract 0 k ∧ x.size ≤ k ∧ k ≤ (x ++ y).size := by
 have hr : 0 ≤ pkB loss ∧ pkB loss < 18446744073709551616 := mix_range (IntKind.u64.wrap loss) (IntKind.u64.wrap (0 + 1))
 obtain ⟨j, hj⟩ : ∃ j, (pkB loss).tmod (((x ++ y).size : Int) - x.size + 1) = j := ⟨_, rfl⟩
 have hs : (x ++ y).size = x.size + y.size := ByteArray.size_append
 have hj2 : 0 ≤ j ∧ j < ((x ++ y).size : Int) - x.size + 1 := by
  rw [← hj, Int.tmod_eq_emod_of_nonneg hr.1]
  exact ⟨Int.emod_nonneg _ (by omega), Int.emod_lt_of_pos _ (by omega)⟩
 refine ⟨((x.size : Int) + j).toNat, ?_, by omega, by omega⟩
 show cutR (pkB loss) (kB x y) = _
 unfold cutR
 rw [if_neg (show ¬ (kB x y).anew = true from Bool.false_ne_true)]
 show (x ++ y).extract 0 ((x.size : Int) + (pkB loss).tmod (((x ++ y).size : Int) - x.size + 1)).toNat = _
 rw [hj]
theorem cutC (x z : ByteArray) (loss : Int) : (lostI (pkC loss) (kC x z)).data = x ∨ ∃ k : Nat, (lostI (pkC loss) (kC x z)).data = z.extract 0 k ∧ k ≤ z.size := by
 have hr : 0 ≤ pkC loss ∧ pkC loss < 18446744073709551616 := mix_range (IntKind.u64.wrap loss) (IntKind.u64.wrap (0 + 1 + 1))
 obtain ⟨j, hj⟩ : ∃ j, (pkC loss).tmod ((z.size : Int) + 2) = j := ⟨_, rfl⟩
 have hj2 : 0 ≤ j ∧ j < (z.size : Int) + 2 := by
  rw [← hj, Int.tmod_eq_emod_of_nonneg hr.1]
  exact ⟨Int.emod_nonneg _ (by omega), Int.emod_lt_of_pos _ (by omega)⟩
 have e : (lostI (pkC loss) (kC x z)).data = if 0 < j then z.extract 0 (j - 1).toNat else x := by
  show cutR (pkC loss) (kC x z) = _
  unfold cutR
  rw [if_pos (show (kC x z).anew = true from rfl)]
  show (if 0 < (pkC loss).tmod ((z.size : Int) + 2) then z.extract 0 ((pkC loss).tmod ((z.size : Int) + 2) - 1).toNat else x) = _
  rw [hj]
 rw [e]
 by_cases h : 0 < j
 ·rw [if_pos h]; exact .inr ⟨_, rfl, by omega⟩
 ·rw [if_neg h]; exact .inl rfl
theorem ext_size (b : ByteArray) (k : Nat) (h : k ≤ b.size) : (b.extract 0 k).size = k := by rw [ByteArray.size_extract]; omega
end Go.Proofs.YtojolcpblacjjaaDoor
