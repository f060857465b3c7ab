/-
  The disk's functions: the volume of a path; is qP7 a folder; a file's new state.
-/
import Derived.Test.YtojolcpblacjjaaGreatDoorDkA
import Derived.Test.YtojolcpblacjjaaGreatDoorRcc
set_option linter.unusedSimpArgs false
set_option linter.unusedVariables false
set_option maxRecDepth 20000
namespace Go.Proofs.YtojolcpblacjjaaGreatDoor
open Go Go.Eng Go.RowKit Go.Tr Go.Dk
theorem uR : ∀ (l : List UInt8), (Lib.indexByte l 47 = -1 ∧ wW l = l.length) ∨ (Lib.indexByte l 47 = (wW l : Int) ∧ wW l < l.length)
 | [] => .inl ⟨rfl, rfl⟩
 | c :: r => by
  rw [Lib.indexByte, wW]
  by_cases h : c = 47
  ·subst h
   right
   simp
  ·have hc : (c == 47) = false := beq_eq_false_iff_ne.2 h
   rw [hc, if_neg h]
   rcases uR r with ⟨a, b⟩ | ⟨a, b⟩
   ·left
    rw [a, b]
    exact ⟨rfl, by simp⟩
   ·right
    rw [a]
    have : ((wW r : Int) == -1) = false := beq_eq_false_iff_ne.2 (by omega)
    rw [this]
    simp only [Bool.false_eq_true, if_false, List.length_cons]
    exact ⟨rfl, by omega⟩
theorem zAj {p : ByteArray} (h : Lib.indexByte p.data.toList 47 = -1) : vol p = p := by
 rcases uR p.data.toList with ⟨a, b⟩ | ⟨a, b⟩
 ·rw [vol, b, ← Lib.size_eq]; exact ByteArray.extract_zero_size
 ·omega
theorem qP4 (p : ByteArray) : (vol p).size ≤ p.size := by
 rw [vol, ByteArray.size_extract]; omega
def aft (p : ByteArray) : ByteArray := if wW p.data.toList < p.size then p.extract (wW p.data.toList + 1) p.size else { data := #[] }
def fnd (p : ByteArray) : Bool := decide (wW p.data.toList < p.size)
set_option maxHeartbeats 1000000 in
theorem zKk (s : ByteArray) (hs : s.size ≤ 1048576) : HFun Tryz.prog 84 [.v (.string s), .v (.string { data := #[47] })] (fun h st => h = .tup ([.string (vol s), .string (aft s), .bool (fnd s)].map .v)) := by
 refine iL (N := 23) Tryz.func84 rfl Tryz.ntmps84 Tryz.results84 (by simp) ?_
 have hc := qQk s
 unfold aft fnd
 rcases uR s.data.toList with ⟨a, b⟩ | ⟨a, b⟩
 ·rw [a] at hc
  rw [← Lib.size_eq] at b
  refine zE ?_; refine zJ (fun K hK => ?_); simp (disch := omega) only [push_cast, ↓Int.cast_ofNat_Int, simprocAttr]; refine hK _ ?_; clear hK K
  refine zE ?_; refine zE ?_; refine zJ (fun K hK => ?_); simp (disch := omega) only [push_cast, ↓Int.cast_ofNat_Int, simprocAttr]
  refine cG zEf hc (.cons (.v _) (.cons (.v _) .nil)) ?_
  with_reducible refine aN ?_; simp (disch := omega) only [push_cast, ↓Int.cast_ofNat_Int, simprocAttr]
  refine hK _ ?_; clear hK K
  refine zE ?_; refine zJ (fun K hK => ?_); simp (disch := omega) only [push_cast, ↓Int.cast_ofNat_Int, simprocAttr]; refine hK _ ?_; clear hK K
  refine zA ?_
  refine yC rfl ?_
  refine zC ?_; refine zE ?_; refine zJ (fun K hK => ?_); simp (disch := omega) only [push_cast, ↓Int.cast_ofNat_Int, simprocAttr]; refine hK _ ?_; clear hK K
  refine zA ?_; refine zW ?_
  simp only [yA, yM, yH, yE, aQ, aZ, yK, yJ, zS, zM, Nat.reduceEqDiff, reduceIte, reduceCtorEq]
  refine qGf ?_
  rw [zAj a, b]
  simp
 ·rw [a] at hc
  rw [← Lib.size_eq] at b
  obtain ⟨k, hk⟩ : ∃ k, wW s.data.toList = k := ⟨_, rfl⟩
  have hv : vol s = s.extract 0 k := by rw [vol, hk]
  rw [hk] at hc b ⊢
  rw [hv, if_pos b]
  refine zE ?_; refine zJ (fun K hK => ?_); simp (disch := omega) only [push_cast, ↓Int.cast_ofNat_Int, simprocAttr]; refine hK _ ?_; clear hK K
  refine zE ?_; refine zE ?_; refine zJ (fun K hK => ?_); simp (disch := omega) only [push_cast, ↓Int.cast_ofNat_Int, simprocAttr]
  refine cG zEf hc (.cons (.v _) (.cons (.v _) .nil)) ?_
  with_reducible refine aN ?_; simp (disch := omega) only [push_cast, ↓Int.cast_ofNat_Int, simprocAttr]
  refine hK _ ?_; clear hK K
  refine zE ?_; refine zJ (fun K hK => ?_); simp (disch := omega) only [push_cast, ↓Int.cast_ofNat_Int, simprocAttr]; refine hK _ ?_; clear hK K
  refine zA ?_
  refine bC rfl (fun _ => ?_) (fun hf => by simp at hf)
  refine zE ?_; refine HW_drw 10 mixed (by kernel_rfl) (fun K hK => ?_); simp (disch := omega) only [push_cast, ↓Int.cast_ofNat_Int, simprocAttr, nC]
  refine ⟨by omega, by omega, ?_⟩
  with_reducible refine aN ?_; simp (disch := omega) only [push_cast, ↓Int.cast_ofNat_Int, simprocAttr]
  refine hK _ ?_; clear hK K
  refine zA ?_; refine zW ?_; refine zK ?_
  simp only [yA, yM, yH, yE, aQ, aZ, yK, yJ, zS, zM, Nat.reduceEqDiff, reduceIte, reduceCtorEq]
  refine qGf ?_
  simp [b]
set_option maxHeartbeats 1000000 in
theorem zGw (s : ByteArray) (hs : s.size ≤ 1048576) : HFun Tryz.prog 72 [.v (.string s), .v (.string { data := #[47] })] (fun h st => h = .tup ([.string (vol s), .string (aft s), .bool (fnd s)].map .v)) := by
 refine iL (N := 13) Tryz.func72 rfl Tryz.ntmps72 Tryz.results72 (by simp) ?_
 refine zE ?_; refine zJ (fun K hK => ?_); simp (disch := omega) only [push_cast, ↓Int.cast_ofNat_Int, simprocAttr]; refine hK _ ?_; clear hK K
 refine zE ?_; refine zJ (fun K hK => ?_); simp (disch := omega) only [push_cast, ↓Int.cast_ofNat_Int, simprocAttr]
 refine zKh zLh (zKk s hs) (.cons (.v _) (.cons (.v _) .nil)) ?_
 with_reducible refine aN ?_; simp (disch := omega) only [push_cast, ↓Int.cast_ofNat_Int, simprocAttr]
 refine hK _ ?_; clear hK K
 refine zA ?_; refine zW ?_
 simp only [yA, yM, yH, yE, aQ, aZ, yK, yJ, zS, zM, Nat.reduceEqDiff, reduceIte, reduceCtorEq]
 exact qGf rfl
set_option maxHeartbeats 1000000 in
theorem qVx (s : ByteArray) (hs : s.size ≤ 1048576) : HFun Tryz.prog 48 [.v (.string s)] (fun h st => h = .v (.string (vol s))) := by
 refine iL (N := 13) Tryz.func48 rfl Tryz.ntmps48 Tryz.results48 (by simp) ?_
 refine zE ?_; refine zJ (fun K hK => ?_); simp (disch := omega) only [push_cast, ↓Int.cast_ofNat_Int, simprocAttr]; refine hK _ ?_; clear hK K
 refine zE ?_; refine zJ (fun K hK => ?_); simp (disch := omega) only [push_cast, ↓Int.cast_ofNat_Int, simprocAttr]
 refine zKh zLm (zGw s hs) (.cons (.v _) (.cons (.v _) .nil)) ?_
 with_reducible refine aN ?_; simp (disch := omega) only [push_cast, ↓Int.cast_ofNat_Int, simprocAttr]
 refine hK _ ?_; clear hK K
 refine zE ?_; refine zJ (fun K hK => ?_); simp (disch := omega) only [push_cast, ↓Int.cast_ofNat_Int, simprocAttr]; refine hK _ ?_; clear hK K
 refine zA ?_; refine zW ?_
 simp only [yA, yM, yH, yE, aQ, aZ, yK, yJ, zS, zM, Nat.reduceEqDiff, reduceIte, reduceCtorEq]
 exact bK rfl
theorem zBr (p : ByteArray) : (par p).size ≤ p.size := by rw [par, ByteArray.size_extract]; omega
theorem mx {s : ByteArray} (h : s.size ≤ 1048576) : s.size ≤ maxLen := Nat.le_trans h (by decide)
set_option maxHeartbeats 1000000 in
theorem qJr (d : Dk) (p : ByteArray) (r1 r2 : Nat) (hs : p.size ≤ 1048576) : HFunM Tryz.prog 44 [.ptr 0 6 0 0, .v (.string p)] [(0, .bx false 47 (d.cells r1 r2))] (d.maps kS r1 r2) (fun h st g => h = .v (.bool (eJ d p)) ∧ st = [(0, .bx false 47 (d.cells r1 r2))] ∧ g = d.maps kS r1 r2) := by
 refine jA (N := 18) Tryz.func44 rfl Tryz.ntmps44 Tryz.results44 (by simp) ?_
 have hde := zEb p hs
 have hpa := qQy p hs
 simp only [bJ]
 unfold eJ
 refine aA ?_; refine aC (fun K hK => ?_); simp (disch := omega) only [push_cast, ↓Int.cast_ofNat_Int, simprocAttr]; refine hK _ ?_; clear hK K
 by_cases h1 : qBx p = 1
 ·rw [h1] at hde ⊢
  refine aA ?_
  refine qDx 10 mixed (by kernel_rfl) (fun K1 hK1 => ?_)
  simp (disch := omega) only [push_cast, ↓Int.cast_ofNat_Int, simprocAttr]
  refine jN zHp hde (.cons (.v _) .nil) ?_
  with_reducible refine aN ?_; simp (disch := omega) only [push_cast, ↓Int.cast_ofNat_Int, simprocAttr]
  refine hK1 _ ?_; (try clear hK1 K1)
  refine aH 4 (fun K1 hK1 => ?_); simp (disch := omega) only [push_cast, ↓Int.cast_ofNat_Int, simprocAttr, aG, aE]; refine hK1 _ ?_; (try clear hK1 K1)
  refine aY ?_
  refine aB ?_; refine aV ?_
  simp only [aD, aK, yH, yE, yK, yJ, aF, zS, zM, Nat.reduceEqDiff, reduceIte, reduceCtorEq]
  refine bP [0] [] (by first | rfl | simp [bsL, MO.bs]) (by decide) (by decide) (by simp only [push_cast, simprocAttr]) (by simp only [push_cast, simprocAttr]) (by simp only [push_cast, simprocAttr]; rfl) (by simp only [push_cast, simprocAttr]; rfl) ?_
  exact ⟨by simp, rfl, rfl⟩
 ·refine aA ?_
  refine qDx 10 mixed (by kernel_rfl) (fun K1 hK1 => ?_)
  simp (disch := omega) only [push_cast, ↓Int.cast_ofNat_Int, simprocAttr]
  refine jN zHp hde (.cons (.v _) .nil) ?_
  with_reducible refine aN ?_; simp (disch := omega) only [push_cast, ↓Int.cast_ofNat_Int, simprocAttr, h1]
  refine jN zKn hpa (.cons (.v _) .nil) ?_
  with_reducible refine aN ?_; simp (disch := omega) only [push_cast, ↓Int.cast_ofNat_Int, simprocAttr]
  refine hK1 _ ?_; (try clear hK1 K1)
  refine dZ (i := 0) mtI rfl rfl rfl rfl rfl rfl (mx (Nat.le_trans (zBr p) hs)) ?_
  refine aH 3 (fun K1 hK1 => ?_); simp (disch := omega) only [push_cast, ↓Int.cast_ofNat_Int, simprocAttr, aG, aE, dY, eD]; refine hK1 _ ?_; (try clear hK1 K1)
  refine aY ?_
  refine aB ?_; refine aV ?_
  simp only [aD, aK, yH, yE, yK, yJ, aF, zS, zM, Nat.reduceEqDiff, reduceIte, reduceCtorEq]
  refine bP [0] [] (by first | rfl | simp [bsL, MO.bs]) (by decide) (by decide) (by simp only [push_cast, simprocAttr]) (by simp only [push_cast, simprocAttr]) (by simp only [push_cast, simprocAttr]; rfl) (by simp only [push_cast, simprocAttr]; rfl) ?_
  exact ⟨by simp [h1, aP], rfl, rfl⟩
end Go.Proofs.YtojolcpblacjjaaGreatDoor
