/-
  The law's first look: a eU in a volume, renamed.
-/
import Derived.Test.YtojolcpblacjjaaGreatDoorDkH
set_option linter.unusedSimpArgs false
set_option linter.unusedVariables false
set_option maxRecDepth 20000
namespace Go.Proofs.YtojolcpblacjjaaGreatDoor
open Go Go.Eng Go.RowKit Go.Tr Go.Dk
def sV : ByteArray := { data := #[118] }
def sVa : ByteArray := { data := #[118, 47, 97] }
def sVb : ByteArray := { data := #[118, 47, 98] }
def sHi : ByteArray := { data := #[104, 105] }
def dA1 : Dk := ⟨[(sV, qPl)], [], 1, 0, -1, false, 1, 0⟩
def dA2 : Dk := ⟨[(sV, qPl), (sVa, ⟨false, sHi, ByteArray.empty, true, true, 1⟩)], [], 2, 1, -1, false, 2, 0⟩
def dA3 : Dk := ⟨[(sV, qPl), (sVb, ⟨false, sHi, ByteArray.empty, true, true, 2⟩)], [], 3, 2, -1, false, 3, 0⟩
theorem aw1 : dJ Dk.new sV = (0, dA1) := by kernel_rfl
theorem aw2 : cX dA1 sVa sHi = (0, dA2) := by kernel_rfl
theorem aw3 : cU dA2 sVa sVb = (0, dA3) := by kernel_rfl
theorem aw4 : mF dA3 sVb = (sHi, 0) := by kernel_rfl
theorem aw5 : gE dA3 sVa = 0 := by kernel_rfl
theorem aw6 : used dA3 sV = 2 := by kernel_rfl
abbrev BB : Int := 1099511627776
theorem zHb : Dk.new.Ok BB := ⟨List.Pairwise.nil, by simp [Dk.new], by decide, by decide, by decide, by decide, by decide, by decide⟩
theorem zJx : dA1.Ok BB := ⟨by simp [gJ, dA1], by intro e he; simp only [dA1, List.mem_cons, List.not_mem_nil, or_false] at he; subst he; decide, by decide, by decide, by decide, by decide, by decide, by decide⟩
theorem qQq {a b : ByteArray × Itm} (h : zF6 a.1 b.1 = true) : gJ [a, b] := by
 rw [tS] at h
 simp [gJ, h]
theorem zJw : dA2.Ok BB := ⟨qQq (by decide), by intro e he; simp only [dA2, List.mem_cons, List.not_mem_nil, or_false] at he; rcases he with rfl | rfl <;> decide, by decide, by decide, by decide, by decide, by decide, by decide⟩
theorem zJv : dA3.Ok BB := ⟨qQq (by decide), by intro e he; simp only [dA3, List.mem_cons, List.not_mem_nil, or_false] at he; rcases he with rfl | rfl <;> decide, by decide, by decide, by decide, by decide, by decide, by decide⟩
theorem zK7 : sV.size ≤ 1048576 ∧ sVa.size ≤ 1048576 ∧ sVb.size ≤ 1048576 ∧ sHi.size ≤ 1048576 := by decide
set_option maxHeartbeats 2000000 in
theorem qAf : HFun Tryz.prog 6 [] (fun h st => h = .v (.bool true)) := by
 refine iL (N := 48) Tryz.func6 rfl Tryz.ntmps6 Tryz.results6 (by simp) ?_
 obtain ⟨z1, z2, z3, z4⟩ := zK7
 refine zEo ?_
 refine aA ?_; refine aC (fun K hK => ?_); simp (disch := omega) only [push_cast, ↓Int.cast_ofNat_Int, simprocAttr]; refine hK _ ?_; clear hK K
 refine aA ?_
 refine bD ?_
 refine bL 32 [] cl5 (zGk) rfl rfl rfl rfl (by simp only [push_cast, simprocAttr]; exact rfl) (by decide) (by decide) (by decide) (by simp only [push_cast, simprocAttr]; try rfl) (by simp only [push_cast, simprocAttr]; try rfl) ?_
 rintro _ _ _ ⟨r1, r2, rfl, rfl, rfl⟩
 have c1 := qWv Dk.new BB zHb (Int.le_refl _) sV r1 r2 z1
 have c2 := qVw dA1 BB zJx (Int.le_refl _) sVa r1 r2 z2 sHi z4
 have c3 := qQs dA2 BB zJw (Int.le_refl _) sVa sVb r1 r2 z2 z3
 have c4 := qUi dA3 sVb r1 r2 z3
 have c5 := zEv dA3 r1 r2
 have c6 := qU1 dA3 sVa r1 r2 z2
 have c7 := zAm dA3 BB zJv (Int.le_refl _) sV r1 r2
 rw [aw1] at c1
 rw [aw2] at c2
 rw [aw3] at c3
 rw [aw4] at c4
 rw [aw5] at c6
 rw [aw6] at c7
 simp only [bJ] at c1 c2 c3 c4 c5 c6 c7
 refine aH 1 (fun K1 hK1 => ?_); simp (disch := omega) only [push_cast, ↓Int.cast_ofNat_Int, simprocAttr, aG, aE, bJ]; refine hK1 _ ?_; (try clear hK1 K1)
 refine aY ?_
 refine aA ?_; refine aA ?_; refine bD ?_; refine aH 4 (fun K1 hK1 => ?_); simp (disch := omega) only [push_cast, ↓Int.cast_ofNat_Int, simprocAttr]; refine hK1 _ ?_; (try clear hK1 K1)
 refine bL 72 [32] zKu (c1) rfl rfl rfl rfl (by simp only [push_cast, simprocAttr]; exact rfl) (by decide) (by decide) (by decide) (by simp only [push_cast, simprocAttr]; try rfl) (by simp only [push_cast, simprocAttr]; try rfl) ?_
 rintro _ _ _ ⟨rfl, rfl, rfl⟩
 refine aH 4 (fun K1 hK1 => ?_); simp (disch := omega) only [push_cast, ↓Int.cast_ofNat_Int, simprocAttr, aG, aE]; refine hK1 _ ?_; (try clear hK1 K1)
 refine bL 112 [32] zKt (c2) rfl rfl rfl rfl (by simp only [push_cast, simprocAttr]; exact rfl) (by decide) (by decide) (by decide) (by simp only [push_cast, simprocAttr]; try rfl) (by simp only [push_cast, simprocAttr]; try rfl) ?_
 rintro _ _ _ ⟨rfl, rfl, rfl⟩
 refine aH 4 (fun K1 hK1 => ?_); simp (disch := omega) only [push_cast, ↓Int.cast_ofNat_Int, simprocAttr, aG, aE]; refine hK1 _ ?_; (try clear hK1 K1)
 refine bL 152 [32] zKs (c3) rfl rfl rfl rfl (by simp only [push_cast, simprocAttr]; exact rfl) (by decide) (by decide) (by decide) (by simp only [push_cast, simprocAttr]; try rfl) (by simp only [push_cast, simprocAttr]; try rfl) ?_
 rintro _ _ _ ⟨rfl, rfl, rfl⟩
 refine aH 2 (fun K1 hK1 => ?_); simp (disch := omega) only [push_cast, ↓Int.cast_ofNat_Int, simprocAttr, aG, aE]; refine hK1 _ ?_; (try clear hK1 K1)
 refine aY ?_
 refine aB ?_
 refine bE rfl ?_
 refine aU [0, 1] [32] (by simp only [zZ, zR, zP, zQ, zN, zS, zM, zX, zU, Nat.reduceEqDiff, reduceIte]; exact rfl) ?_
 refine aW ?_; refine aA ?_; refine bD ?_; refine aH 1 (fun K1 hK1 => ?_); simp (disch := omega) only [push_cast, ↓Int.cast_ofNat_Int, simprocAttr]; refine hK1 _ ?_; (try clear hK1 K1)
 refine bL 192 [32] zHv (c4) rfl rfl rfl rfl (by simp only [push_cast, simprocAttr]; exact rfl) (by decide) (by decide) (by decide) (by simp only [push_cast, simprocAttr]; try rfl) (by simp only [push_cast, simprocAttr]; try rfl) ?_
 rintro _ _ _ ⟨rfl, rfl, rfl⟩
 refine aH 5 (fun K1 hK1 => ?_); simp (disch := omega) only [push_cast, ↓Int.cast_ofNat_Int, simprocAttr, aG, aE]; refine hK1 _ ?_; (try clear hK1 K1)
 refine aY ?_
 have hhi : decide (sHi = { data := #[104, 105] }) = true := by decide
 refine aU [0, 1, 2, 3] [32] (by simp only [zZ, zR, zP, zQ, zN, zS, zM, zX, zU, Nat.reduceEqDiff, reduceIte]; exact rfl) ?_
 refine aA ?_; refine bD ?_; refine aH 13 (fun K1 hK1 => ?_); simp (disch := omega) only [push_cast, ↓Int.cast_ofNat_Int, simprocAttr, hhi]
 refine dU 280 [32] zMb (c5) rfl (by decide) (by decide) (by simp only [push_cast, simprocAttr]; try rfl) (by simp only [push_cast, simprocAttr]; try rfl) ?_
 rintro _ _ ⟨rfl, rfl⟩
 refine aN ?_; simp (disch := omega) only [push_cast, ↓Int.cast_ofNat_Int, simprocAttr]
 refine hK1 _ ?_; (try clear hK1 K1)
 refine bL 320 [32] zF5 (c6) rfl rfl rfl rfl (by simp only [push_cast, simprocAttr]; exact rfl) (by decide) (by decide) (by decide) (by simp only [push_cast, simprocAttr]; try rfl) (by simp only [push_cast, simprocAttr]; try rfl) ?_
 rintro _ _ _ ⟨rfl, rfl, rfl⟩
 refine aH 4 (fun K1 hK1 => ?_); simp (disch := omega) only [push_cast, ↓Int.cast_ofNat_Int, simprocAttr, aG, aE]; refine hK1 _ ?_; (try clear hK1 K1)
 refine bL 360 [32] zKr (c7) rfl rfl rfl rfl (by simp only [push_cast, simprocAttr]; exact rfl) (by decide) (by decide) (by decide) (by simp only [push_cast, simprocAttr]; try rfl) (by simp only [push_cast, simprocAttr]; try rfl) ?_
 rintro _ _ _ ⟨rfl, rfl, rfl⟩
 refine aH 3 (fun K1 hK1 => ?_); simp (disch := omega) only [push_cast, ↓Int.cast_ofNat_Int, simprocAttr, aG, aE]; refine hK1 _ ?_; (try clear hK1 K1)
 refine aY ?_
 refine aB ?_; refine aV ?_
 simp only [yA, yM, yH, yE, aQ, aZ, yK, yJ, zS, zM, Nat.reduceEqDiff, reduceIte, reduceCtorEq]
 exact bK rfl
end Go.Proofs.YtojolcpblacjjaaGreatDoor
