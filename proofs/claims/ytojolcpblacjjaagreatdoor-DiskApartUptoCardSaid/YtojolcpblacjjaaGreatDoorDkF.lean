/-
  The disk's calls: New, Limit, Arm, Steps, Down, Read, Kind.
-/
import Derived.Test.YtojolcpblacjjaaGreatDoorDkE
set_option linter.unusedSimpArgs false
set_option linter.unusedVariables false
set_option maxRecDepth 20000
namespace Go.Proofs.YtojolcpblacjjaaGreatDoor
open Go Go.Eng Go.RowKit Go.Tr Go.Dk
set_option maxHeartbeats 1000000 in
theorem zGk : HFunM Tryz.prog 5 [] [] [] (fun h st g => ∃ r1 r2, h = .ptr 0 6 0 0 ∧ st = [(0, .bx true 47 (Dk.new.cells r1 r2))] ∧ g = Dk.new.maps kS r1 r2) := by
 refine jA (N := 5) Tryz.func5 rfl Tryz.ntmps5 Tryz.results5 (by simp) ?_
 refine aA ?_; refine aC (fun K hK => ?_); simp (disch := omega) only [push_cast, ↓Int.cast_ofNat_Int, simprocAttr]; refine hK _ ?_; clear hK K
 refine aA ?_
 refine bD ?_
 refine qTu (cp := none) rfl rfl rfl kS fun r1 => ?_
 refine qTu (cp := none) rfl rfl rfl kS fun r2 => ?_
 refine aH 3 (fun K1 hK1 => ?_); simp (disch := omega) only [push_cast, ↓Int.cast_ofNat_Int, simprocAttr, aG, aE, qVb, zFd]; refine hK1 _ ?_; (try clear hK1 K1)
 refine aY ?_
 refine aB ?_; refine aV ?_
 simp only [aD, aK, yH, yE, yK, yJ, aF, zS, zM, Nat.reduceEqDiff, reduceIte, reduceCtorEq]
 refine bP [32] [r1, r2] (by first | rfl | simp [bsL, MO.bs]) (by decide) (by decide) (by simp only [push_cast, simprocAttr]) (by simp only [push_cast, simprocAttr]) (by simp only [push_cast, simprocAttr]; rfl) (by simp only [push_cast, simprocAttr]; rfl) ?_
 exact ⟨r1, r2, rfl, rfl, rfl⟩
set_option maxHeartbeats 1000000 in
theorem zFj (d : Dk) (B : Int) (hd : d.Ok B) (hB : B ≤ 1099511627776) (p : ByteArray) (r1 r2 : Nat) (hs : p.size ≤ 1048576) (k : Int) : HFunM Tryz.prog 28 [.ptr 0 6 0 0, .v (.string p), .v (.int .i64 k)] [(0, .bx false 47 (d.cells r1 r2))] (d.maps kS r1 r2) (fun h st g => h = .v (.int .i64 (dK d p k).1) ∧ st = [(0, .bx false 47 ((dK d p k).2.cells r1 r2))] ∧ g = (dK d p k).2.maps kS r1 r2) := by
 refine jA (N := 22) Tryz.func28 rfl Tryz.ntmps28 Tryz.results28 (by simp) ?_
 have hc : HFun Tryz.prog 60 [.v (.string p), .v (.int .i64 1)] (fun h st => h = .v (.int .i64 (okN (pOk p 1)))) := qQx p 1 hs (by decide)
 have hn : d.m < maxLen := by have := hd.m; simp only [maxLen]; omega
 simp only [bJ]
 refine aA ?_; refine aC (fun K hK => ?_); simp (disch := omega) only [push_cast, ↓Int.cast_ofNat_Int, simprocAttr]; refine hK _ ?_; clear hK K
 refine aA ?_; refine aA ?_; refine aC (fun K hK => ?_); simp (disch := omega) only [push_cast, ↓Int.cast_ofNat_Int, simprocAttr]; refine hK _ ?_; clear hK K
 refine aB ?_
 rcases (Decidable.em (k < 0)) with h0 | h0
 ·have hr : dK d p k = (1, d) := by simp [dK, h0]
  rw [hr]
  refine bA rfl (fun _ => ?_) (fun h => by simp [h0] at h)
  refine aA ?_; refine aC (fun K hK => ?_); simp (disch := omega) only [push_cast, ↓Int.cast_ofNat_Int, simprocAttr]; refine hK _ ?_; clear hK K
  refine aB ?_; refine aV ?_; refine bH ?_
  simp only [aD, aK, yH, yE, yK, yJ, aF, zS, zM, Nat.reduceEqDiff, reduceIte, reduceCtorEq]
  refine bP [0] [] (by first | rfl | simp [bsL, MO.bs]) (by decide) (by decide) (by simp only [push_cast, simprocAttr]) (by simp only [push_cast, simprocAttr]) (by simp only [push_cast, simprocAttr]; rfl) (by simp only [push_cast, simprocAttr]; rfl) ?_
  exact ⟨rfl, rfl, rfl⟩
 refine bA rfl (fun h => by simp [h0] at h) (fun _ => ?_)
 cases h1 : pOk p 1 with
 | false =>
  have hr : dK d p k = (10, d) := by simp [dK, h0, h1]
  rw [hr]
  rw [h1] at hc
  have hc : HFun Tryz.prog 60 [.v (.string p), .v (.int .i64 1)] (fun h st => h = .v (.int .i64 10)) := hc
  refine aW ?_; refine aA ?_; refine aA ?_; refine aC (fun K hK => ?_); simp (disch := omega) only [push_cast, ↓Int.cast_ofNat_Int, simprocAttr]
  refine cG zF3 hc (.cons (.v _) (.cons (.v _) .nil)) ?_
  with_reducible refine aN ?_; simp (disch := omega) only [push_cast, ↓Int.cast_ofNat_Int, simprocAttr]
  refine hK _ ?_; clear hK K
  refine aB ?_
  refine bT rfl ?_
  refine aA ?_; refine aC (fun K hK => ?_); simp (disch := omega) only [push_cast, ↓Int.cast_ofNat_Int, simprocAttr]; refine hK _ ?_; clear hK K
  refine aB ?_; refine aV ?_; refine bH ?_
  simp only [aD, aK, yH, yE, yK, yJ, aF, zS, zM, Nat.reduceEqDiff, reduceIte, reduceCtorEq]
  refine bP [0] [] (by first | rfl | simp [bsL, MO.bs]) (by decide) (by decide) (by simp only [push_cast, simprocAttr]) (by simp only [push_cast, simprocAttr]) (by simp only [push_cast, simprocAttr]; rfl) (by simp only [push_cast, simprocAttr]; rfl) ?_
  exact ⟨rfl, rfl, rfl⟩
 | true =>
  have hr : dK d p k = (0, { d with R := put p k d.R, m := d.m + 1 }) := by simp [dK, h0, h1]
  rw [hr]
  rw [h1] at hc
  have hc : HFun Tryz.prog 60 [.v (.string p), .v (.int .i64 1)] (fun h st => h = .v (.int .i64 0)) := hc
  refine aW ?_; refine aA ?_; refine aA ?_; refine aC (fun K hK => ?_); simp (disch := omega) only [push_cast, ↓Int.cast_ofNat_Int, simprocAttr]
  refine cG zF3 hc (.cons (.v _) (.cons (.v _) .nil)) ?_
  with_reducible refine aN ?_; simp (disch := omega) only [push_cast, ↓Int.cast_ofNat_Int, simprocAttr]
  refine hK _ ?_; clear hK K
  refine aB ?_
  refine bE rfl ?_
  refine aW ?_; refine aA ?_; refine bD ?_; refine aH 6 (fun K1 hK1 => ?_); simp (disch := omega) only [push_cast, ↓Int.cast_ofNat_Int, simprocAttr]; refine hK1 _ ?_; (try clear hK1 K1)
  rw [cV]
  refine qDy (i := 1) mtL rfl rfl rfl rfl (hn) rfl rfl (mx hs) rfl rfl ?_
  refine aH 0 (fun K1 hK1 => ?_); simp (disch := omega) only [push_cast, ↓Int.cast_ofNat_Int, simprocAttr, aG, aE]; refine hK1 _ ?_; (try clear hK1 K1)
  refine aY ?_
  refine aA ?_; refine aC (fun K hK => ?_); simp (disch := omega) only [push_cast, ↓Int.cast_ofNat_Int, simprocAttr]; refine hK _ ?_; clear hK K
  refine aB ?_; refine aV ?_
  simp only [aD, aK, yH, yE, yK, yJ, aF, zS, zM, Nat.reduceEqDiff, reduceIte, reduceCtorEq]
  refine bP [0] [] (by first | rfl | simp [bsL, MO.bs]) (by decide) (by decide) (by simp only [push_cast, simprocAttr]) (by simp only [push_cast, simprocAttr]) (by simp only [push_cast, simprocAttr]; rfl) (by simp only [push_cast, simprocAttr]; rfl) ?_
  exact ⟨rfl, rfl, by rw [cV, ← qNq]; rfl⟩
set_option maxHeartbeats 1000000 in
theorem qUi (d : Dk) (p : ByteArray) (r1 r2 : Nat) (hs : p.size ≤ 1048576) : HFunM Tryz.prog 11 [.ptr 0 6 0 0, .v (.string p)] [(0, .bx false 47 (d.cells r1 r2))] (d.maps kS r1 r2) (fun h st g => h = .tup [.v (.string (mF d p).1), .v (.int .i64 (mF d p).2)] ∧ st = [(0, .bx false 47 (d.cells r1 r2))] ∧ g = d.maps kS r1 r2) := by
 refine jA (N := 32) Tryz.func11 rfl Tryz.ntmps11 Tryz.results11 (by simp) ?_
 simp only [bJ]
 rw [cV]
 refine aA ?_; refine aC (fun K hK => ?_); simp (disch := omega) only [push_cast, ↓Int.cast_ofNat_Int, simprocAttr]; refine hK _ ?_; clear hK K
 refine aA ?_; refine aA ?_; refine aC (fun K hK => ?_); simp (disch := omega) only [push_cast, ↓Int.cast_ofNat_Int, simprocAttr]; refine hK _ ?_; clear hK K
 refine aB ?_
 refine bE rfl ?_
 refine aW ?_; refine aA ?_; refine bD ?_; refine aH 5 (fun K1 hK1 => ?_); simp (disch := omega) only [push_cast, ↓Int.cast_ofNat_Int, simprocAttr]; refine hK1 _ ?_; (try clear hK1 K1)
 refine dZ (i := 0) mtI rfl rfl rfl rfl rfl rfl (mx hs) ?_
 refine aH 6 (fun K1 hK1 => ?_); simp (disch := omega) only [push_cast, ↓Int.cast_ofNat_Int, simprocAttr, aG, aE, dY, kN, eD]; refine hK1 _ ?_; (try clear hK1 K1)
 refine aY ?_
 have hxd : (aT d.L p).getD itm0 = aP d p := rfl
 have hxs : (aT d.L p).isSome = has d p := rfl
 rw [hxd, hxs]
 refine aU [0, 1, 6, 7] [0, 48] (by simp only [zZ, zR, zP, zQ, zN, zS, zM, zX, zU, Nat.reduceEqDiff, reduceIte]; exact rfl) ?_
 refine aA ?_; refine bQ ?_; refine aA ?_; refine aC (fun K hK => ?_); simp (disch := omega) only [push_cast, ↓Int.cast_ofNat_Int, simprocAttr]; refine hK _ ?_; clear hK K
 refine aB ?_
 cases h0 : d.down with
 | true =>
  have hr : mF d p = (ByteArray.empty, 14) := by simp [mF, h0]
  rw [hr]
  refine bT rfl ?_
  refine aA ?_; refine aC (fun K hK => ?_); simp (disch := omega) only [push_cast, ↓Int.cast_ofNat_Int, simprocAttr]; refine hK _ ?_; clear hK K
  refine aB ?_; refine aV ?_; refine cK ?_; refine bH ?_
  simp only [aD, aK, yH, yE, yK, yJ, aF, zS, zM, Nat.reduceEqDiff, reduceIte, reduceCtorEq]
  refine bP [0] [] (by first | rfl | simp [bsL, MO.bs]) (by decide) (by decide) (by simp only [push_cast, simprocAttr]) (by simp only [push_cast, simprocAttr]) (by simp only [push_cast, simprocAttr]; rfl) (by simp only [push_cast, simprocAttr]; rfl) ?_
  exact ⟨rfl, rfl, rfl⟩
 | false =>
  refine bE rfl ?_
  cases h1 : has d p with
  | false =>
   have hr : mF d p = (ByteArray.empty, 11) := by simp [mF, h0, h1]
   rw [hr]
   refine aA ?_; refine aC (fun K hK => ?_); simp (disch := omega) only [push_cast, ↓Int.cast_ofNat_Int, simprocAttr]; refine hK _ ?_; clear hK K
   refine aB ?_
   refine bT rfl ?_
   refine aA ?_; refine aC (fun K hK => ?_); simp (disch := omega) only [push_cast, ↓Int.cast_ofNat_Int, simprocAttr]; refine hK _ ?_; clear hK K
   refine aB ?_; refine aV ?_; refine cK ?_; refine bH ?_
   simp only [aD, aK, yH, yE, yK, yJ, aF, zS, zM, Nat.reduceEqDiff, reduceIte, reduceCtorEq]
   refine bP [0] [] (by first | rfl | simp [bsL, MO.bs]) (by decide) (by decide) (by simp only [push_cast, simprocAttr]) (by simp only [push_cast, simprocAttr]) (by simp only [push_cast, simprocAttr]; rfl) (by simp only [push_cast, simprocAttr]; rfl) ?_
   exact ⟨rfl, rfl, rfl⟩
  | true =>
   refine aA ?_; refine aC (fun K hK => ?_); simp (disch := omega) only [push_cast, ↓Int.cast_ofNat_Int, simprocAttr]; refine hK _ ?_; clear hK K
   refine aB ?_
   refine bE rfl ?_
   refine aA ?_; refine aC (fun K hK => ?_); simp (disch := omega) only [push_cast, ↓Int.cast_ofNat_Int, simprocAttr]; refine hK _ ?_; clear hK K
   refine aB ?_
   cases h2 : (aP d p).dir with
   | true =>
    have hr : mF d p = (ByteArray.empty, 12) := by simp [mF, h0, h1, h2]
    rw [hr]
    refine bT rfl ?_
    refine aA ?_; refine aC (fun K hK => ?_); simp (disch := omega) only [push_cast, ↓Int.cast_ofNat_Int, simprocAttr]; refine hK _ ?_; clear hK K
    refine aB ?_; refine aV ?_; refine cK ?_; refine bH ?_
    simp only [aD, aK, yH, yE, yK, yJ, aF, zS, zM, Nat.reduceEqDiff, reduceIte, reduceCtorEq]
    refine bP [0] [] (by first | rfl | simp [bsL, MO.bs]) (by decide) (by decide) (by simp only [push_cast, simprocAttr]) (by simp only [push_cast, simprocAttr]) (by simp only [push_cast, simprocAttr]; rfl) (by simp only [push_cast, simprocAttr]; rfl) ?_
    exact ⟨rfl, rfl, rfl⟩
   | false =>
    have hr : mF d p = ((aP d p).data, 0) := by simp [mF, h0, h1, h2]
    rw [hr]
    refine bE rfl ?_
    refine aW ?_; refine bR ?_; refine aA ?_
    refine aC (fun K hK => ?_); simp (disch := omega) only [push_cast, ↓Int.cast_ofNat_Int, simprocAttr]; refine hK _ ?_; clear hK K
    refine aB ?_; refine aV ?_
    simp only [aD, aK, yH, yE, yK, yJ, aF, zS, zM, Nat.reduceEqDiff, reduceIte, reduceCtorEq]
    refine bP [0] [] (by first | rfl | simp [bsL, MO.bs]) (by decide) (by decide) (by simp only [push_cast, simprocAttr]) (by simp only [push_cast, simprocAttr]) (by simp only [push_cast, simprocAttr]; rfl) (by simp only [push_cast, simprocAttr]; rfl) ?_
    exact ⟨rfl, rfl, rfl⟩
set_option maxHeartbeats 1000000 in
theorem qU1 (d : Dk) (p : ByteArray) (r1 r2 : Nat) (hs : p.size ≤ 1048576) : HFunM Tryz.prog 12 [.ptr 0 6 0 0, .v (.string p)] [(0, .bx false 47 (d.cells r1 r2))] (d.maps kS r1 r2) (fun h st g => h = .v (.int .i64 (gE d p)) ∧ st = [(0, .bx false 47 (d.cells r1 r2))] ∧ g = d.maps kS r1 r2) := by
 refine jA (N := 24) Tryz.func12 rfl Tryz.ntmps12 Tryz.results12 (by simp) ?_
 simp only [bJ]
 rw [cV]
 refine aA ?_; refine aC (fun K hK => ?_); simp (disch := omega) only [push_cast, ↓Int.cast_ofNat_Int, simprocAttr]; refine hK _ ?_; clear hK K
 refine aA ?_; refine aA ?_; refine aC (fun K hK => ?_); simp (disch := omega) only [push_cast, ↓Int.cast_ofNat_Int, simprocAttr]; refine hK _ ?_; clear hK K
 refine aB ?_
 refine bE rfl ?_
 refine aW ?_; refine aA ?_; refine bD ?_; refine aH 5 (fun K1 hK1 => ?_); simp (disch := omega) only [push_cast, ↓Int.cast_ofNat_Int, simprocAttr]; refine hK1 _ ?_; (try clear hK1 K1)
 refine dZ (i := 0) mtI rfl rfl rfl rfl rfl rfl (mx hs) ?_
 refine aH 6 (fun K1 hK1 => ?_); simp (disch := omega) only [push_cast, ↓Int.cast_ofNat_Int, simprocAttr, aG, aE, dY, kN, eD]; refine hK1 _ ?_; (try clear hK1 K1)
 refine aY ?_
 have hxd : (aT d.L p).getD itm0 = aP d p := rfl
 have hxs : (aT d.L p).isSome = has d p := rfl
 rw [hxd, hxs]
 refine aU [0, 1, 5, 6] [0, 40] (by simp only [zZ, zR, zP, zQ, zN, zS, zM, zX, zU, Nat.reduceEqDiff, reduceIte]; exact rfl) ?_
 refine aA ?_; refine bQ ?_; refine aA ?_
 cases h1 : has d p with
 | false =>
  have hr : gE d p = 0 := by simp [gE, h1]
  rw [hr]
  refine aC (fun K hK => ?_); simp (disch := omega) only [push_cast, ↓Int.cast_ofNat_Int, simprocAttr]; refine hK _ ?_; clear hK K
  refine aB ?_
  refine bT rfl ?_
  refine aA ?_; refine aC (fun K hK => ?_); simp (disch := omega) only [push_cast, ↓Int.cast_ofNat_Int, simprocAttr]; refine hK _ ?_; clear hK K
  refine aB ?_; refine aV ?_; refine cK ?_; refine bH ?_
  simp only [aD, aK, yH, yE, yK, yJ, aF, zS, zM, Nat.reduceEqDiff, reduceIte, reduceCtorEq]
  refine bP [0] [] (by first | rfl | simp [bsL, MO.bs]) (by decide) (by decide) (by simp only [push_cast, simprocAttr]) (by simp only [push_cast, simprocAttr]) (by simp only [push_cast, simprocAttr]; rfl) (by simp only [push_cast, simprocAttr]; rfl) ?_
  exact ⟨rfl, rfl, rfl⟩
 | true =>
  refine aC (fun K hK => ?_); simp (disch := omega) only [push_cast, ↓Int.cast_ofNat_Int, simprocAttr]; refine hK _ ?_; clear hK K
  refine aB ?_
  refine bE rfl ?_
  refine aA ?_; refine aC (fun K hK => ?_); simp (disch := omega) only [push_cast, ↓Int.cast_ofNat_Int, simprocAttr]; refine hK _ ?_; clear hK K
  refine aB ?_
  cases h2 : (aP d p).dir with
  | true =>
   have hr : gE d p = 1 := by simp [gE, h1, h2]
   rw [hr]
   refine bT rfl ?_
   refine aA ?_; refine aC (fun K hK => ?_); simp (disch := omega) only [push_cast, ↓Int.cast_ofNat_Int, simprocAttr]; refine hK _ ?_; clear hK K
   refine aB ?_; refine aV ?_; refine cK ?_; refine bH ?_
   simp only [aD, aK, yH, yE, yK, yJ, aF, zS, zM, Nat.reduceEqDiff, reduceIte, reduceCtorEq]
   refine bP [0] [] (by first | rfl | simp [bsL, MO.bs]) (by decide) (by decide) (by simp only [push_cast, simprocAttr]) (by simp only [push_cast, simprocAttr]) (by simp only [push_cast, simprocAttr]; rfl) (by simp only [push_cast, simprocAttr]; rfl) ?_
   exact ⟨rfl, rfl, rfl⟩
  | false =>
   have hr : gE d p = 2 := by simp [gE, h1, h2]
   rw [hr]
   refine bE rfl ?_
   refine aW ?_; refine bR ?_; refine aA ?_
   refine aC (fun K hK => ?_); simp (disch := omega) only [push_cast, ↓Int.cast_ofNat_Int, simprocAttr]; refine hK _ ?_; clear hK K
   refine aB ?_; refine aV ?_
   simp only [aD, aK, yH, yE, yK, yJ, aF, zS, zM, Nat.reduceEqDiff, reduceIte, reduceCtorEq]
   refine bP [0] [] (by first | rfl | simp [bsL, MO.bs]) (by decide) (by decide) (by simp only [push_cast, simprocAttr]) (by simp only [push_cast, simprocAttr]) (by simp only [push_cast, simprocAttr]; rfl) (by simp only [push_cast, simprocAttr]; rfl) ?_
   exact ⟨rfl, rfl, rfl⟩
theorem zEv (d : Dk) (r1 r2 : Nat) : HFunS Tryz.prog 17 [.ptr 0 6 0 0] [(0, .bx false 47 (d.cells r1 r2))] (fun h st => h = .v (.int .i64 d.steps) ∧ st = [(0, .bx false 47 (d.cells r1 r2))]) := by
 refine jE (N := 9) Tryz.func17 rfl Tryz.ntmps17 Tryz.results17 (by simp) ?_
 simp only [bJ]
 refine zE ?_; refine zJ (fun K hK => ?_); simp (disch := omega) only [push_cast, ↓Int.cast_ofNat_Int, simprocAttr]; refine hK _ ?_; clear hK K
 refine zE ?_; refine zE ?_; refine zJ (fun K hK => ?_); simp (disch := omega) only [push_cast, ↓Int.cast_ofNat_Int, simprocAttr]; refine hK _ ?_; clear hK K
 refine zA ?_
 refine yC rfl ?_
 refine zC ?_; refine zE ?_; refine zJ (fun K hK => ?_); simp (disch := omega) only [push_cast, ↓Int.cast_ofNat_Int, simprocAttr]; refine hK _ ?_; clear hK K
 refine zA ?_; refine zW ?_
 simp only [aJ, aR, yH, yE, yK, yJ, aF, zS, zM, Nat.reduceEqDiff, reduceIte, reduceCtorEq]
 refine cE [0] (by decide) (by decide) (by simp only [push_cast, simprocAttr]) (by simp only [push_cast, simprocAttr]) (by simp only [push_cast, simprocAttr]; rfl) (by simp only [push_cast, simprocAttr]; rfl) ?_
 exact ⟨rfl, rfl⟩
theorem zD5 (d : Dk) (r1 r2 : Nat) : HFunS Tryz.prog 10 [.ptr 0 6 0 0] [(0, .bx false 47 (d.cells r1 r2))] (fun h st => h = .v (.bool d.down) ∧ st = [(0, .bx false 47 (d.cells r1 r2))]) := by
 refine jE (N := 11) Tryz.func10 rfl Tryz.ntmps10 Tryz.results10 (by simp) ?_
 simp only [bJ]
 refine zE ?_; refine zJ (fun K hK => ?_); simp (disch := omega) only [push_cast, ↓Int.cast_ofNat_Int, simprocAttr]; refine hK _ ?_; clear hK K
 refine zE ?_; refine zJ (fun K hK => ?_); simp (disch := omega) only [push_cast, ↓Int.cast_ofNat_Int, simprocAttr]; refine hK _ ?_; clear hK K
 refine zA ?_; refine zW ?_
 simp only [aJ, aR, yH, yE, yK, yJ, aF, zS, zM, Nat.reduceEqDiff, reduceIte, reduceCtorEq]
 refine cE [0] (by decide) (by decide) (by simp only [push_cast, simprocAttr]) (by simp only [push_cast, simprocAttr]) (by simp only [push_cast, simprocAttr]; rfl) (by simp only [push_cast, simprocAttr]; rfl) ?_
 exact ⟨rfl, rfl⟩
def qVq (d : Dk) (n : Int) : Dk := { d with armed := if -1 < n then n else -1 }
theorem zK3 (d : Dk) (n : Int) (r1 r2 : Nat) : HFunS Tryz.prog 30 [.ptr 0 6 0 0, .v (.int .i64 n)] [(0, .bx false 47 (d.cells r1 r2))] (fun h st => h = .tup [] ∧ st = [(0, .bx false 47 ((qVq d n).cells r1 r2))]) := by
 refine jE (N := 11) Tryz.func30 rfl Tryz.ntmps30 Tryz.results30 (by simp) ?_
 simp only [bJ, qVq]
 refine zE ?_; refine zJ (fun K hK => ?_); simp (disch := omega) only [push_cast, ↓Int.cast_ofNat_Int, simprocAttr]; refine hK _ ?_; clear hK K
 refine zA ?_
 refine yD rfl ?_
 refine zJ (fun K hK => ?_); simp (disch := omega) only [push_cast, ↓Int.cast_ofNat_Int, simprocAttr]; refine hK _ ?_; clear hK K
 skip
 simp only [aJ, aR, yH, yE, yK, yJ, aF, zS, zM, Nat.reduceEqDiff, reduceIte, reduceCtorEq]
 refine cE [0] (by decide) (by decide) (by simp only [push_cast, simprocAttr]) (by simp only [push_cast, simprocAttr]) (by simp only [push_cast, simprocAttr]; rfl) (by simp only [push_cast, simprocAttr]; rfl) ?_
 exact ⟨rfl, rfl⟩
end Go.Proofs.YtojolcpblacjjaaGreatDoor
