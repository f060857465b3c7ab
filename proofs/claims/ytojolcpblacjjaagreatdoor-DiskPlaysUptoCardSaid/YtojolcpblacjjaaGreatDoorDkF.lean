/-
  The disk's calls: New, Limit, Arm, Steps, Down, Read, Kind.
-/
import Derived.Test.YtojolcpblacjjaaGreatDoorDkE
set_option linter.unusedSimpArgs false
set_option linter.unusedVariables false
set_option maxRecDepth 20000
namespace Go.Proofs.YtojolcpblacjjaaGreatDoor
open Go Go.Eng Go.RowKit Go.Tr Go.Dk
set_option maxHeartbeats 1000000 in
theorem zC0 : HFunM Tryz.prog 5 [] [] [] (fun h st g => ∃ r1 r2, h = .ptr 0 6 0 0 ∧ st = [(0, .bx true 47 (Dk.new.cells r1 r2))] ∧ g = Dk.new.maps kS r1 r2) := by
 refine iU (N := 5) Tryz.func5 rfl Tryz.ntmps5 Tryz.results5 (by simp) ?_
 refine aA ?_; refine aC (fun K hK => ?_); simp (disch := omega) only [push_cast, ↓Int.cast_ofNat_Int, simprocAttr]; refine hK _ ?_; clear hK K
 refine aA ?_
 refine bF ?_
 refine qU6 (cp := none) rfl rfl rfl kS fun r1 => ?_
 refine qU6 (cp := none) rfl rfl rfl kS fun r2 => ?_
 refine aH 3 (fun K1 hK1 => ?_); simp (disch := omega) only [push_cast, ↓Int.cast_ofNat_Int, simprocAttr, aF, aD, qWi, zGg]; refine hK1 _ ?_; (try clear hK1 K1)
 refine aW ?_
 refine aB ?_; refine aY ?_
 simp only [aE, aL, yH, yE, yK, yJ, aG, zS, zM, Nat.reduceEqDiff, reduceIte, reduceCtorEq]
 refine bR [32] [r1, r2] (by first | rfl | simp [bsL, MO.bs]) (by decide) (by decide) (by simp only [push_cast, simprocAttr]) (by simp only [push_cast, simprocAttr]) (by simp only [push_cast, simprocAttr]; rfl) (by simp only [push_cast, simprocAttr]; rfl) ?_
 exact ⟨r1, r2, rfl, rfl, rfl⟩
set_option maxHeartbeats 1000000 in
theorem zGl (d : Dk) (B : Int) (hd : d.Ok B) (hB : B ≤ 1099511627776) (p : ByteArray) (r1 r2 : Nat) (hs : p.size ≤ 1048576) (k : Int) : HFunM Tryz.prog 28 [.ptr 0 6 0 0, .v (.string p), .v (.int .i64 k)] [(0, .bx false 47 (d.cells r1 r2))] (d.maps kS r1 r2) (fun h st g => h = .v (.int .i64 (dW d p k).1) ∧ st = [(0, .bx false 47 ((dW d p k).2.cells r1 r2))] ∧ g = (dW d p k).2.maps kS r1 r2) := by
 refine iU (N := 22) Tryz.func28 rfl Tryz.ntmps28 Tryz.results28 (by simp) ?_
 have hc : HFun Tryz.prog 60 [.v (.string p), .v (.int .i64 1)] (fun h st => h = .v (.int .i64 (okN (pOk p 1)))) := qSa p 1 hs (by decide)
 have hn : d.m < maxLen := by have := hd.m; simp only [maxLen]; omega
 simp only [bG]
 refine aA ?_; refine aC (fun K hK => ?_); simp (disch := omega) only [push_cast, ↓Int.cast_ofNat_Int, simprocAttr]; refine hK _ ?_; clear hK K
 refine aA ?_; refine aA ?_; refine aC (fun K hK => ?_); simp (disch := omega) only [push_cast, ↓Int.cast_ofNat_Int, simprocAttr]; refine hK _ ?_; clear hK K
 refine aB ?_
 rcases (Decidable.em (k < 0)) with h0 | h0
 ·have hr : dW d p k = (1, d) := by simp [dW, h0]
  rw [hr]
  refine aZ rfl (fun _ => ?_) (fun h => by simp [h0] at h)
  refine aA ?_; refine aC (fun K hK => ?_); simp (disch := omega) only [push_cast, ↓Int.cast_ofNat_Int, simprocAttr]; refine hK _ ?_; clear hK K
  refine aB ?_; refine aY ?_; refine bK ?_
  simp only [aE, aL, yH, yE, yK, yJ, aG, zS, zM, Nat.reduceEqDiff, reduceIte, reduceCtorEq]
  refine bR [0] [] (by first | rfl | simp [bsL, MO.bs]) (by decide) (by decide) (by simp only [push_cast, simprocAttr]) (by simp only [push_cast, simprocAttr]) (by simp only [push_cast, simprocAttr]; rfl) (by simp only [push_cast, simprocAttr]; rfl) ?_
  exact ⟨rfl, rfl, rfl⟩
 refine aZ rfl (fun h => by simp [h0] at h) (fun _ => ?_)
 cases h1 : pOk p 1 with
 | false =>
  have hr : dW d p k = (10, d) := by simp [dW, h0, h1]
  rw [hr]
  rw [h1] at hc
  have hc : HFun Tryz.prog 60 [.v (.string p), .v (.int .i64 1)] (fun h st => h = .v (.int .i64 10)) := hc
  refine aU ?_; refine aA ?_; refine aA ?_; refine aC (fun K hK => ?_); simp (disch := omega) only [push_cast, ↓Int.cast_ofNat_Int, simprocAttr]
  refine cG zGx hc (.cons (.v _) (.cons (.v _) .nil)) ?_
  with_reducible refine aM ?_; simp (disch := omega) only [push_cast, ↓Int.cast_ofNat_Int, simprocAttr]
  refine hK _ ?_; clear hK K
  refine aB ?_
  refine bY rfl ?_
  refine aA ?_; refine aC (fun K hK => ?_); simp (disch := omega) only [push_cast, ↓Int.cast_ofNat_Int, simprocAttr]; refine hK _ ?_; clear hK K
  refine aB ?_; refine aY ?_; refine bK ?_
  simp only [aE, aL, yH, yE, yK, yJ, aG, zS, zM, Nat.reduceEqDiff, reduceIte, reduceCtorEq]
  refine bR [0] [] (by first | rfl | simp [bsL, MO.bs]) (by decide) (by decide) (by simp only [push_cast, simprocAttr]) (by simp only [push_cast, simprocAttr]) (by simp only [push_cast, simprocAttr]; rfl) (by simp only [push_cast, simprocAttr]; rfl) ?_
  exact ⟨rfl, rfl, rfl⟩
 | true =>
  have hr : dW d p k = (0, { d with R := put p k d.R, m := d.m + 1 }) := by simp [dW, h0, h1]
  rw [hr]
  rw [h1] at hc
  have hc : HFun Tryz.prog 60 [.v (.string p), .v (.int .i64 1)] (fun h st => h = .v (.int .i64 0)) := hc
  refine aU ?_; refine aA ?_; refine aA ?_; refine aC (fun K hK => ?_); simp (disch := omega) only [push_cast, ↓Int.cast_ofNat_Int, simprocAttr]
  refine cG zGx hc (.cons (.v _) (.cons (.v _) .nil)) ?_
  with_reducible refine aM ?_; simp (disch := omega) only [push_cast, ↓Int.cast_ofNat_Int, simprocAttr]
  refine hK _ ?_; clear hK K
  refine aB ?_
  refine bB rfl ?_
  refine aU ?_; refine aA ?_; refine bF ?_; refine aH 6 (fun K1 hK1 => ?_); simp (disch := omega) only [push_cast, ↓Int.cast_ofNat_Int, simprocAttr]; refine hK1 _ ?_; (try clear hK1 K1)
  rw [dB]
  refine qFy (i := 1) mtL rfl rfl rfl rfl (hn) rfl rfl (mx hs) rfl rfl ?_
  refine aH 0 (fun K1 hK1 => ?_); simp (disch := omega) only [push_cast, ↓Int.cast_ofNat_Int, simprocAttr, aF, aD]; refine hK1 _ ?_; (try clear hK1 K1)
  refine aW ?_
  refine aA ?_; refine aC (fun K hK => ?_); simp (disch := omega) only [push_cast, ↓Int.cast_ofNat_Int, simprocAttr]; refine hK _ ?_; clear hK K
  refine aB ?_; refine aY ?_
  simp only [aE, aL, yH, yE, yK, yJ, aG, zS, zM, Nat.reduceEqDiff, reduceIte, reduceCtorEq]
  refine bR [0] [] (by first | rfl | simp [bsL, MO.bs]) (by decide) (by decide) (by simp only [push_cast, simprocAttr]) (by simp only [push_cast, simprocAttr]) (by simp only [push_cast, simprocAttr]; rfl) (by simp only [push_cast, simprocAttr]; rfl) ?_
  exact ⟨rfl, rfl, by rw [dB, ← qQb]; rfl⟩
set_option maxHeartbeats 1000000 in
theorem zCg (d : Dk) (p : ByteArray) (r1 r2 : Nat) (hs : p.size ≤ 1048576) : HFunM Tryz.prog 11 [.ptr 0 6 0 0, .v (.string p)] [(0, .bx false 47 (d.cells r1 r2))] (d.maps kS r1 r2) (fun h st g => h = .tup [.v (.string (nX d p).1), .v (.int .i64 (nX d p).2)] ∧ st = [(0, .bx false 47 (d.cells r1 r2))] ∧ g = d.maps kS r1 r2) := by
 refine iU (N := 32) Tryz.func11 rfl Tryz.ntmps11 Tryz.results11 (by simp) ?_
 simp only [bG]
 rw [dB]
 refine aA ?_; refine aC (fun K hK => ?_); simp (disch := omega) only [push_cast, ↓Int.cast_ofNat_Int, simprocAttr]; refine hK _ ?_; clear hK K
 refine aA ?_; refine aA ?_; refine aC (fun K hK => ?_); simp (disch := omega) only [push_cast, ↓Int.cast_ofNat_Int, simprocAttr]; refine hK _ ?_; clear hK K
 refine aB ?_
 refine bB rfl ?_
 refine aU ?_; refine aA ?_; refine bF ?_; refine aH 5 (fun K1 hK1 => ?_); simp (disch := omega) only [push_cast, ↓Int.cast_ofNat_Int, simprocAttr]; refine hK1 _ ?_; (try clear hK1 K1)
 refine eK (i := 0) mtI rfl rfl rfl rfl rfl rfl (mx hs) ?_
 refine aH 6 (fun K1 hK1 => ?_); simp (disch := omega) only [push_cast, ↓Int.cast_ofNat_Int, simprocAttr, aF, aD, eH, lV, eQ]; refine hK1 _ ?_; (try clear hK1 K1)
 refine aW ?_
 have hxd : (bC d.L p).getD itm0 = aQ d p := rfl
 have hxs : (bC d.L p).isSome = has d p := rfl
 rw [hxd, hxs]
 refine aT [0, 1, 6, 7] [0, 48] (by simp only [zZ, zR, zP, zQ, zN, zS, zM, zX, zU, Nat.reduceEqDiff, reduceIte]; exact rfl) ?_
 refine aA ?_; refine bL ?_; refine aA ?_; refine aC (fun K hK => ?_); simp (disch := omega) only [push_cast, ↓Int.cast_ofNat_Int, simprocAttr]; refine hK _ ?_; clear hK K
 refine aB ?_
 cases h0 : d.down with
 | true =>
  have hr : nX d p = (ByteArray.empty, 14) := by simp [nX, h0]
  rw [hr]
  refine bY rfl ?_
  refine aA ?_; refine aC (fun K hK => ?_); simp (disch := omega) only [push_cast, ↓Int.cast_ofNat_Int, simprocAttr]; refine hK _ ?_; clear hK K
  refine aB ?_; refine aY ?_; refine cQ ?_; refine bK ?_
  simp only [aE, aL, yH, yE, yK, yJ, aG, zS, zM, Nat.reduceEqDiff, reduceIte, reduceCtorEq]
  refine bR [0] [] (by first | rfl | simp [bsL, MO.bs]) (by decide) (by decide) (by simp only [push_cast, simprocAttr]) (by simp only [push_cast, simprocAttr]) (by simp only [push_cast, simprocAttr]; rfl) (by simp only [push_cast, simprocAttr]; rfl) ?_
  exact ⟨rfl, rfl, rfl⟩
 | false =>
  refine bB rfl ?_
  cases h1 : has d p with
  | false =>
   have hr : nX d p = (ByteArray.empty, 11) := by simp [nX, h0, h1]
   rw [hr]
   refine aA ?_; refine aC (fun K hK => ?_); simp (disch := omega) only [push_cast, ↓Int.cast_ofNat_Int, simprocAttr]; refine hK _ ?_; clear hK K
   refine aB ?_
   refine bY rfl ?_
   refine aA ?_; refine aC (fun K hK => ?_); simp (disch := omega) only [push_cast, ↓Int.cast_ofNat_Int, simprocAttr]; refine hK _ ?_; clear hK K
   refine aB ?_; refine aY ?_; refine cQ ?_; refine bK ?_
   simp only [aE, aL, yH, yE, yK, yJ, aG, zS, zM, Nat.reduceEqDiff, reduceIte, reduceCtorEq]
   refine bR [0] [] (by first | rfl | simp [bsL, MO.bs]) (by decide) (by decide) (by simp only [push_cast, simprocAttr]) (by simp only [push_cast, simprocAttr]) (by simp only [push_cast, simprocAttr]; rfl) (by simp only [push_cast, simprocAttr]; rfl) ?_
   exact ⟨rfl, rfl, rfl⟩
  | true =>
   refine aA ?_; refine aC (fun K hK => ?_); simp (disch := omega) only [push_cast, ↓Int.cast_ofNat_Int, simprocAttr]; refine hK _ ?_; clear hK K
   refine aB ?_
   refine bB rfl ?_
   refine aA ?_; refine aC (fun K hK => ?_); simp (disch := omega) only [push_cast, ↓Int.cast_ofNat_Int, simprocAttr]; refine hK _ ?_; clear hK K
   refine aB ?_
   cases h2 : (aQ d p).dir with
   | true =>
    have hr : nX d p = (ByteArray.empty, 12) := by simp [nX, h0, h1, h2]
    rw [hr]
    refine bY rfl ?_
    refine aA ?_; refine aC (fun K hK => ?_); simp (disch := omega) only [push_cast, ↓Int.cast_ofNat_Int, simprocAttr]; refine hK _ ?_; clear hK K
    refine aB ?_; refine aY ?_; refine cQ ?_; refine bK ?_
    simp only [aE, aL, yH, yE, yK, yJ, aG, zS, zM, Nat.reduceEqDiff, reduceIte, reduceCtorEq]
    refine bR [0] [] (by first | rfl | simp [bsL, MO.bs]) (by decide) (by decide) (by simp only [push_cast, simprocAttr]) (by simp only [push_cast, simprocAttr]) (by simp only [push_cast, simprocAttr]; rfl) (by simp only [push_cast, simprocAttr]; rfl) ?_
    exact ⟨rfl, rfl, rfl⟩
   | false =>
    have hr : nX d p = ((aQ d p).data, 0) := by simp [nX, h0, h1, h2]
    rw [hr]
    refine bB rfl ?_
    refine aU ?_; refine bP ?_; refine aA ?_
    refine aC (fun K hK => ?_); simp (disch := omega) only [push_cast, ↓Int.cast_ofNat_Int, simprocAttr]; refine hK _ ?_; clear hK K
    refine aB ?_; refine aY ?_
    simp only [aE, aL, yH, yE, yK, yJ, aG, zS, zM, Nat.reduceEqDiff, reduceIte, reduceCtorEq]
    refine bR [0] [] (by first | rfl | simp [bsL, MO.bs]) (by decide) (by decide) (by simp only [push_cast, simprocAttr]) (by simp only [push_cast, simprocAttr]) (by simp only [push_cast, simprocAttr]; rfl) (by simp only [push_cast, simprocAttr]; rfl) ?_
    exact ⟨rfl, rfl, rfl⟩
set_option maxHeartbeats 1000000 in
theorem zDa (d : Dk) (p : ByteArray) (r1 r2 : Nat) (hs : p.size ≤ 1048576) : HFunM Tryz.prog 12 [.ptr 0 6 0 0, .v (.string p)] [(0, .bx false 47 (d.cells r1 r2))] (d.maps kS r1 r2) (fun h st g => h = .v (.int .i64 (hZ d p)) ∧ st = [(0, .bx false 47 (d.cells r1 r2))] ∧ g = d.maps kS r1 r2) := by
 refine iU (N := 24) Tryz.func12 rfl Tryz.ntmps12 Tryz.results12 (by simp) ?_
 simp only [bG]
 rw [dB]
 refine aA ?_; refine aC (fun K hK => ?_); simp (disch := omega) only [push_cast, ↓Int.cast_ofNat_Int, simprocAttr]; refine hK _ ?_; clear hK K
 refine aA ?_; refine aA ?_; refine aC (fun K hK => ?_); simp (disch := omega) only [push_cast, ↓Int.cast_ofNat_Int, simprocAttr]; refine hK _ ?_; clear hK K
 refine aB ?_
 refine bB rfl ?_
 refine aU ?_; refine aA ?_; refine bF ?_; refine aH 5 (fun K1 hK1 => ?_); simp (disch := omega) only [push_cast, ↓Int.cast_ofNat_Int, simprocAttr]; refine hK1 _ ?_; (try clear hK1 K1)
 refine eK (i := 0) mtI rfl rfl rfl rfl rfl rfl (mx hs) ?_
 refine aH 6 (fun K1 hK1 => ?_); simp (disch := omega) only [push_cast, ↓Int.cast_ofNat_Int, simprocAttr, aF, aD, eH, lV, eQ]; refine hK1 _ ?_; (try clear hK1 K1)
 refine aW ?_
 have hxd : (bC d.L p).getD itm0 = aQ d p := rfl
 have hxs : (bC d.L p).isSome = has d p := rfl
 rw [hxd, hxs]
 refine aT [0, 1, 5, 6] [0, 40] (by simp only [zZ, zR, zP, zQ, zN, zS, zM, zX, zU, Nat.reduceEqDiff, reduceIte]; exact rfl) ?_
 refine aA ?_; refine bL ?_; refine aA ?_
 cases h1 : has d p with
 | false =>
  have hr : hZ d p = 0 := by simp [hZ, h1]
  rw [hr]
  refine aC (fun K hK => ?_); simp (disch := omega) only [push_cast, ↓Int.cast_ofNat_Int, simprocAttr]; refine hK _ ?_; clear hK K
  refine aB ?_
  refine bY rfl ?_
  refine aA ?_; refine aC (fun K hK => ?_); simp (disch := omega) only [push_cast, ↓Int.cast_ofNat_Int, simprocAttr]; refine hK _ ?_; clear hK K
  refine aB ?_; refine aY ?_; refine cQ ?_; refine bK ?_
  simp only [aE, aL, yH, yE, yK, yJ, aG, zS, zM, Nat.reduceEqDiff, reduceIte, reduceCtorEq]
  refine bR [0] [] (by first | rfl | simp [bsL, MO.bs]) (by decide) (by decide) (by simp only [push_cast, simprocAttr]) (by simp only [push_cast, simprocAttr]) (by simp only [push_cast, simprocAttr]; rfl) (by simp only [push_cast, simprocAttr]; rfl) ?_
  exact ⟨rfl, rfl, rfl⟩
 | true =>
  refine aC (fun K hK => ?_); simp (disch := omega) only [push_cast, ↓Int.cast_ofNat_Int, simprocAttr]; refine hK _ ?_; clear hK K
  refine aB ?_
  refine bB rfl ?_
  refine aA ?_; refine aC (fun K hK => ?_); simp (disch := omega) only [push_cast, ↓Int.cast_ofNat_Int, simprocAttr]; refine hK _ ?_; clear hK K
  refine aB ?_
  cases h2 : (aQ d p).dir with
  | true =>
   have hr : hZ d p = 1 := by simp [hZ, h1, h2]
   rw [hr]
   refine bY rfl ?_
   refine aA ?_; refine aC (fun K hK => ?_); simp (disch := omega) only [push_cast, ↓Int.cast_ofNat_Int, simprocAttr]; refine hK _ ?_; clear hK K
   refine aB ?_; refine aY ?_; refine cQ ?_; refine bK ?_
   simp only [aE, aL, yH, yE, yK, yJ, aG, zS, zM, Nat.reduceEqDiff, reduceIte, reduceCtorEq]
   refine bR [0] [] (by first | rfl | simp [bsL, MO.bs]) (by decide) (by decide) (by simp only [push_cast, simprocAttr]) (by simp only [push_cast, simprocAttr]) (by simp only [push_cast, simprocAttr]; rfl) (by simp only [push_cast, simprocAttr]; rfl) ?_
   exact ⟨rfl, rfl, rfl⟩
  | false =>
   have hr : hZ d p = 2 := by simp [hZ, h1, h2]
   rw [hr]
   refine bB rfl ?_
   refine aU ?_; refine bP ?_; refine aA ?_
   refine aC (fun K hK => ?_); simp (disch := omega) only [push_cast, ↓Int.cast_ofNat_Int, simprocAttr]; refine hK _ ?_; clear hK K
   refine aB ?_; refine aY ?_
   simp only [aE, aL, yH, yE, yK, yJ, aG, zS, zM, Nat.reduceEqDiff, reduceIte, reduceCtorEq]
   refine bR [0] [] (by first | rfl | simp [bsL, MO.bs]) (by decide) (by decide) (by simp only [push_cast, simprocAttr]) (by simp only [push_cast, simprocAttr]) (by simp only [push_cast, simprocAttr]; rfl) (by simp only [push_cast, simprocAttr]; rfl) ?_
   exact ⟨rfl, rfl, rfl⟩
theorem zFu (d : Dk) (r1 r2 : Nat) : HFunS Tryz.prog 17 [.ptr 0 6 0 0] [(0, .bx false 47 (d.cells r1 r2))] (fun h st => h = .v (.int .i64 d.steps) ∧ st = [(0, .bx false 47 (d.cells r1 r2))]) := by
 refine kJ (N := 9) Tryz.func17 rfl Tryz.ntmps17 Tryz.results17 (by simp) ?_
 simp only [bG]
 refine zE ?_; refine zJ (fun K hK => ?_); simp (disch := omega) only [push_cast, ↓Int.cast_ofNat_Int, simprocAttr]; refine hK _ ?_; clear hK K
 refine zE ?_; refine zE ?_; refine zJ (fun K hK => ?_); simp (disch := omega) only [push_cast, ↓Int.cast_ofNat_Int, simprocAttr]; refine hK _ ?_; clear hK K
 refine zA ?_
 refine yC rfl ?_
 refine zC ?_; refine zE ?_; refine zJ (fun K hK => ?_); simp (disch := omega) only [push_cast, ↓Int.cast_ofNat_Int, simprocAttr]; refine hK _ ?_; clear hK K
 refine zA ?_; refine zW ?_
 simp only [aK, aR, yH, yE, yK, yJ, aG, zS, zM, Nat.reduceEqDiff, reduceIte, reduceCtorEq]
 refine cJ [0] (by decide) (by decide) (by simp only [push_cast, simprocAttr]) (by simp only [push_cast, simprocAttr]) (by simp only [push_cast, simprocAttr]; rfl) (by simp only [push_cast, simprocAttr]; rfl) ?_
 exact ⟨rfl, rfl⟩
def qWu (d : Dk) (n : Int) : Dk := { d with armed := if -1 < n then n else -1 }
theorem zLv (d : Dk) (n : Int) (r1 r2 : Nat) : HFunS Tryz.prog 30 [.ptr 0 6 0 0, .v (.int .i64 n)] [(0, .bx false 47 (d.cells r1 r2))] (fun h st => h = .tup [] ∧ st = [(0, .bx false 47 ((qWu d n).cells r1 r2))]) := by
 refine kJ (N := 11) Tryz.func30 rfl Tryz.ntmps30 Tryz.results30 (by simp) ?_
 simp only [bG, qWu]
 refine zE ?_; refine zJ (fun K hK => ?_); simp (disch := omega) only [push_cast, ↓Int.cast_ofNat_Int, simprocAttr]; refine hK _ ?_; clear hK K
 refine zA ?_
 refine yD rfl ?_
 refine zJ (fun K hK => ?_); simp (disch := omega) only [push_cast, ↓Int.cast_ofNat_Int, simprocAttr]; refine hK _ ?_; clear hK K
 skip
 simp only [aK, aR, yH, yE, yK, yJ, aG, zS, zM, Nat.reduceEqDiff, reduceIte, reduceCtorEq]
 refine cJ [0] (by decide) (by decide) (by simp only [push_cast, simprocAttr]) (by simp only [push_cast, simprocAttr]) (by simp only [push_cast, simprocAttr]; rfl) (by simp only [push_cast, simprocAttr]; rfl) ?_
 exact ⟨rfl, rfl⟩
end Go.Proofs.YtojolcpblacjjaaGreatDoor
