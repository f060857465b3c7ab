/-
  The disk's calls: fE, Append, Sync.
-/
import Derived.Test.YtojolcpblacjjaaGreatDoorDkF
set_option linter.unusedSimpArgs false
set_option linter.unusedVariables false
set_option maxRecDepth 20000
namespace Go.Proofs.YtojolcpblacjjaaGreatDoor
open Go Go.Eng Go.RowKit Go.Tr Go.Dk
set_option maxHeartbeats 1000000 in
theorem qWn (d : Dk) (p : ByteArray) (r1 r2 : Nat) (hs : p.size ≤ 1048576) : HFunM Tryz.prog 56 [.ptr 0 6 0 0, .v (.string p)] [(0, .bx false 47 (d.cells r1 r2))] (d.maps kS r1 r2) (fun h st g => h = .v (.int .i64 (fE d p)) ∧ st = [(0, .bx false 47 (d.cells r1 r2))] ∧ g = d.maps kS r1 r2) := by
 refine iU (N := 29) Tryz.func56 rfl Tryz.ntmps56 Tryz.results56 (by simp) ?_
 have hm := qM3 d p 1 r1 r2 hs
 simp only [bG] at hm ⊢
 rw [dB]
 refine aA ?_; refine aC (fun K hK => ?_); simp (disch := omega) only [push_cast, ↓Int.cast_ofNat_Int, simprocAttr]; refine hK _ ?_; clear hK K
 refine aA ?_; refine aA ?_; refine aC (fun K hK => ?_); simp (disch := omega) only [push_cast, ↓Int.cast_ofNat_Int, simprocAttr]
 refine eC 80 [0] zBe (hm) rfl (by decide) (by decide) (by simp only [push_cast, simprocAttr]; try rfl) (by simp only [push_cast, simprocAttr]; try rfl) ?_
 rintro _ _ ⟨rfl, rfl⟩
 refine aM ?_; simp (disch := omega) only [push_cast, ↓Int.cast_ofNat_Int, simprocAttr]
 refine hK _ ?_; clear hK K
 refine aA ?_; refine aC (fun K hK => ?_); simp (disch := omega) only [push_cast, ↓Int.cast_ofNat_Int, simprocAttr]; refine hK _ ?_; clear hK K
 refine aT [0, 1, 5, 12] [0] (by simp only [zZ, zR, zP, zQ, zN, zS, zM, zX, zU, Nat.reduceEqDiff, reduceIte]; exact rfl) ?_
 rcases (Decidable.em (may d p 1 = 0)).symm with h0 | h0
 ·have hr : fE d p = may d p 1 := by simp [fE, h0]
  rw [hr]
  refine aZ rfl (fun _ => ?_) (fun h => by simp [h0] at h)
  refine aA ?_; refine aC (fun K hK => ?_); simp (disch := omega) only [push_cast, ↓Int.cast_ofNat_Int, simprocAttr]; refine hK _ ?_; clear hK K
  refine aB ?_; refine aY ?_; refine bK ?_
  simp only [aE, aL, yH, yE, yK, yJ, aG, zS, zM, Nat.reduceEqDiff, reduceIte, reduceCtorEq]
  refine bR [0] [] (by first | rfl | simp [bsL, MO.bs]) (by decide) (by decide) (by simp only [push_cast, simprocAttr]) (by simp only [push_cast, simprocAttr]) (by simp only [push_cast, simprocAttr]; rfl) (by simp only [push_cast, simprocAttr]; rfl) ?_
  exact ⟨rfl, rfl, rfl⟩
 refine aZ rfl (fun h => by simp [h0] at h) (fun _ => ?_)
 refine aU ?_; refine aA ?_; refine bF ?_; refine aH 5 (fun K1 hK1 => ?_); simp (disch := omega) only [push_cast, ↓Int.cast_ofNat_Int, simprocAttr]; refine hK1 _ ?_; (try clear hK1 K1)
 refine eK (i := 0) mtI rfl rfl rfl rfl rfl rfl (mx hs) ?_
 refine aH 6 (fun K1 hK1 => ?_); simp (disch := omega) only [push_cast, ↓Int.cast_ofNat_Int, simprocAttr, aF, aD, eH, lV, eQ]; refine hK1 _ ?_; (try clear hK1 K1)
 refine aW ?_
 have hxd : (bC d.L p).getD itm0 = aQ d p := rfl
 have hxs : (bC d.L p).isSome = has d p := rfl
 rw [hxd, hxs]
 refine aT [0, 1, 6, 7] [0, 48] (by simp only [zZ, zR, zP, zQ, zN, zS, zM, zX, zU, Nat.reduceEqDiff, reduceIte]; exact rfl) ?_
 refine aA ?_; refine bL ?_; refine aA ?_
 cases h1 : has d p with
 | false =>
  have hr : fE d p = 11 := by simp [fE, h0, h1]
  rw [hr]
  refine aC (fun K hK => ?_); simp (disch := omega) only [push_cast, ↓Int.cast_ofNat_Int, simprocAttr]; refine hK _ ?_; clear hK K
  refine aB ?_
  refine bY rfl ?_
  refine aA ?_; refine aC (fun K hK => ?_); simp (disch := omega) only [push_cast, ↓Int.cast_ofNat_Int, simprocAttr]; refine hK _ ?_; clear hK K
  refine aB ?_; refine aY ?_; refine cQ ?_; refine bK ?_
  simp only [aE, aL, yH, yE, yK, yJ, aG, zS, zM, Nat.reduceEqDiff, reduceIte, reduceCtorEq]
  refine bR [0] [] (by first | rfl | simp [bsL, MO.bs]) (by decide) (by decide) (by simp only [push_cast, simprocAttr]) (by simp only [push_cast, simprocAttr]) (by simp only [push_cast, simprocAttr]; rfl) (by simp only [push_cast, simprocAttr]; rfl) ?_
  exact ⟨rfl, rfl, rfl⟩
 | true =>
  refine aC (fun K hK => ?_); simp (disch := omega) only [push_cast, ↓Int.cast_ofNat_Int, simprocAttr]; refine hK _ ?_; clear hK K
  refine aB ?_
  refine bB rfl ?_
  refine aA ?_; refine aC (fun K hK => ?_); simp (disch := omega) only [push_cast, ↓Int.cast_ofNat_Int, simprocAttr]; refine hK _ ?_; clear hK K
  refine aB ?_
  cases h2 : (aQ d p).dir with
  | true =>
   have hr : fE d p = 12 := by simp [fE, h0, h1, h2]
   rw [hr]
   refine bY rfl ?_
   refine aA ?_; refine aC (fun K hK => ?_); simp (disch := omega) only [push_cast, ↓Int.cast_ofNat_Int, simprocAttr]; refine hK _ ?_; clear hK K
   refine aB ?_; refine aY ?_; refine cQ ?_; refine bK ?_
   simp only [aE, aL, yH, yE, yK, yJ, aG, zS, zM, Nat.reduceEqDiff, reduceIte, reduceCtorEq]
   refine bR [0] [] (by first | rfl | simp [bsL, MO.bs]) (by decide) (by decide) (by simp only [push_cast, simprocAttr]) (by simp only [push_cast, simprocAttr]) (by simp only [push_cast, simprocAttr]; rfl) (by simp only [push_cast, simprocAttr]; rfl) ?_
   exact ⟨rfl, rfl, rfl⟩
  | false =>
   have hr : fE d p = 0 := by simp [fE, h0, h1, h2]
   rw [hr]
   refine bB rfl ?_
   refine aU ?_; refine bP ?_; refine aA ?_
   refine aC (fun K hK => ?_); simp (disch := omega) only [push_cast, ↓Int.cast_ofNat_Int, simprocAttr]; refine hK _ ?_; clear hK K
   refine aB ?_; refine aY ?_
   simp only [aE, aL, yH, yE, yK, yJ, aG, zS, zM, Nat.reduceEqDiff, reduceIte, reduceCtorEq]
   refine bR [0] [] (by first | rfl | simp [bsL, MO.bs]) (by decide) (by decide) (by simp only [push_cast, simprocAttr]) (by simp only [push_cast, simprocAttr]) (by simp only [push_cast, simprocAttr]; rfl) (by simp only [push_cast, simprocAttr]; rfl) ?_
   exact ⟨rfl, rfl, rfl⟩
set_option maxHeartbeats 2000000 in
theorem zHt (d : Dk) (B : Int) (hd : d.Ok B) (hB : B ≤ 1099511627776) (p : ByteArray) (r1 r2 : Nat) (hs : p.size ≤ 1048576) : HFunM Tryz.prog 23 [.ptr 0 6 0 0, .v (.string p)] [(0, .bx false 47 (d.cells r1 r2))] (d.maps kS r1 r2) (fun h st g => h = .v (.int .i64 (nK d p).1) ∧ st = [(0, .bx false 47 ((nK d p).2.cells r1 r2))] ∧ g = (nK d p).2.maps kS r1 r2) := by
 refine iU (N := 36) Tryz.func23 rfl Tryz.ntmps23 Tryz.results23 (by simp) ?_
 have hf := qWn d p r1 r2 hs
 have ht := qC9 d r1 r2 ⟨hd.steps.1, by have := hd.steps.2; omega⟩ hd.armed
 have hn : d.n < maxLen := by have := hd.n; simp only [maxLen]; omega
 obtain ⟨a1, a2, a3, a4, a5⟩ := dH d
 simp only [bG] at hf ht ⊢
 rw [dB] at hf ⊢
 refine aA ?_; refine aC (fun K hK => ?_); simp (disch := omega) only [push_cast, ↓Int.cast_ofNat_Int, simprocAttr]; refine hK _ ?_; clear hK K
 refine aA ?_; refine aA ?_; refine bF ?_; refine aH 2 (fun K1 hK1 => ?_); simp (disch := omega) only [push_cast, ↓Int.cast_ofNat_Int, simprocAttr]; refine hK1 _ ?_; (try clear hK1 K1)
 refine bW 80 [0] zJl (hf) rfl rfl rfl rfl (by simp only [push_cast, simprocAttr]; exact rfl) (by decide) (by decide) (by decide) (by simp only [push_cast, simprocAttr]; try rfl) (by simp only [push_cast, simprocAttr]; try rfl) ?_
 rintro _ _ _ ⟨rfl, rfl, rfl⟩
 refine aH 1 (fun K1 hK1 => ?_); simp (disch := omega) only [push_cast, ↓Int.cast_ofNat_Int, simprocAttr, aF, aD]; refine hK1 _ ?_; (try clear hK1 K1)
 refine aW ?_
 refine aA ?_; refine aC (fun K hK => ?_); simp (disch := omega) only [push_cast, ↓Int.cast_ofNat_Int, simprocAttr]; refine hK _ ?_; clear hK K
 refine aT [0, 1, 5, 12] [0] (by simp only [zZ, zR, zP, zQ, zN, zS, zM, zX, zU, Nat.reduceEqDiff, reduceIte]; exact rfl) ?_
 rcases (Decidable.em (fE d p = 0)).symm with h0 | h0
 ·have hr : nK d p = (fE d p, d) := by simp [nK, h0]
  rw [hr]
  refine aZ rfl (fun _ => ?_) (fun h => by simp [h0] at h)
  refine aA ?_; refine aC (fun K hK => ?_); simp (disch := omega) only [push_cast, ↓Int.cast_ofNat_Int, simprocAttr]; refine hK _ ?_; clear hK K
  refine aB ?_; refine aY ?_; refine bK ?_
  simp only [aE, aL, yH, yE, yK, yJ, aG, zS, zM, Nat.reduceEqDiff, reduceIte, reduceCtorEq]
  refine bR [0] [] (by first | rfl | simp [bsL, MO.bs]) (by decide) (by decide) (by simp only [push_cast, simprocAttr]) (by simp only [push_cast, simprocAttr]) (by simp only [push_cast, simprocAttr]; rfl) (by simp only [push_cast, simprocAttr]; rfl) ?_
  exact ⟨rfl, rfl, rfl⟩
 refine aZ rfl (fun h => by simp [h0] at h) (fun _ => ?_)
 refine aU ?_; refine aA ?_; refine aA ?_; refine aC (fun K hK => ?_); simp (disch := omega) only [push_cast, ↓Int.cast_ofNat_Int, simprocAttr]
 refine eC 120 [0] qWq (ht) rfl (by decide) (by decide) (by simp only [push_cast, simprocAttr]; try rfl) (by simp only [push_cast, simprocAttr]; try rfl) ?_
 rintro _ _ ⟨rfl, rfl⟩
 refine aM ?_; simp (disch := omega) only [push_cast, ↓Int.cast_ofNat_Int, simprocAttr]
 refine hK _ ?_; clear hK K
 refine aA ?_; refine aC (fun K hK => ?_); simp (disch := omega) only [push_cast, ↓Int.cast_ofNat_Int, simprocAttr]; refine hK _ ?_; clear hK K
 refine aT [0, 1, 6, 17] [0] (by simp only [zZ, zR, zP, zQ, zN, zS, zM, zX, zU, Nat.reduceEqDiff, reduceIte]; exact rfl) ?_
 rcases (fB d).symm with ⟨h4, h5⟩ | ⟨h4, h5⟩
 ·have hr : nK d p = aS d := by simp [nK, h0, h4]
  rw [hr]
  refine aZ rfl (fun _ => ?_) (fun h => by simp [h4] at h)
  refine aA ?_; refine aC (fun K hK => ?_); simp (disch := omega) only [push_cast, ↓Int.cast_ofNat_Int, simprocAttr]; refine hK _ ?_; clear hK K
  refine aB ?_; refine aY ?_; refine bK ?_
  simp only [aE, aL, yH, yE, yK, yJ, aG, zS, zM, Nat.reduceEqDiff, reduceIte, reduceCtorEq]
  refine bR [0] [] (by first | rfl | simp [bsL, MO.bs]) (by decide) (by decide) (by simp only [push_cast, simprocAttr]) (by simp only [push_cast, simprocAttr]) (by simp only [push_cast, simprocAttr]; rfl) (by simp only [push_cast, simprocAttr]; rfl) ?_
  exact ⟨rfl, rfl, by rw [gZ]; rfl⟩
 have hr : nK d p = (0, { (aS d).2 with L := put p { aQ d p with kept := (aQ d p).data, loose := false, anew := false } d.L, n := d.n + 1 }) := by simp [nK, h0, h4]
 rw [hr]
 refine aZ rfl (fun h => by simp [h4] at h) (fun _ => ?_)
 refine aU ?_; refine aA ?_; refine bF ?_; refine aH 5 (fun K1 hK1 => ?_); simp (disch := omega) only [push_cast, ↓Int.cast_ofNat_Int, simprocAttr]; refine hK1 _ ?_; (try clear hK1 K1)
 refine eK (i := 0) mtI rfl rfl rfl rfl rfl rfl (mx hs) ?_
 refine aH 2 (fun K1 hK1 => ?_); simp (disch := omega) only [push_cast, ↓Int.cast_ofNat_Int, simprocAttr, aF, aD, eH, eQ]; refine hK1 _ ?_; (try clear hK1 K1)
 refine aW ?_
 have hxd : (bC d.L p).getD itm0 = aQ d p := rfl
 rw [hxd]
 refine aT [0, 1, 7] [0, 56] (by simp only [zZ, zR, zP, zQ, zN, zS, zM, zX, zU, Nat.reduceEqDiff, reduceIte]; exact rfl) ?_
 refine aA ?_; refine aC (fun K hK => ?_); simp (disch := omega) only [push_cast, ↓Int.cast_ofNat_Int, simprocAttr]; refine hK _ ?_; clear hK K
 refine aA ?_
 refine qFx 6 mixed (by kernel_rfl) (fun K1 hK1 => ?_)
 simp (disch := omega) only [push_cast, ↓Int.cast_ofNat_Int, simprocAttr]
 refine hK1 _ ?_; (try clear hK1 K1)
 refine qFy (i := 0) mtI rfl rfl rfl rfl (hn) rfl rfl (mx hs) rfl rfl ?_
 refine aW ?_
 refine aA ?_; refine aC (fun K hK => ?_); simp (disch := omega) only [push_cast, ↓Int.cast_ofNat_Int, simprocAttr]; refine hK _ ?_; clear hK K
 refine aB ?_; refine aY ?_
 simp only [aE, aL, yH, yE, yK, yJ, aG, zS, zM, Nat.reduceEqDiff, reduceIte, reduceCtorEq]
 refine bR [0] [] (by first | rfl | simp [bsL, MO.bs]) (by decide) (by decide) (by simp only [push_cast, simprocAttr]) (by simp only [push_cast, simprocAttr]) (by simp only [push_cast, simprocAttr]; rfl) (by simp only [push_cast, simprocAttr]; rfl) ?_
 refine ⟨rfl, rfl, ?_⟩
 simp only [Dk.maps, a2, a4]
 rw [← qXf]
 rfl
set_option maxHeartbeats 2000000 in
theorem zFk (d : Dk) (B : Int) (hd : d.Ok B) (hB : B ≤ 1099511627776) (p : ByteArray) (r1 r2 : Nat) (hs : p.size ≤ 1048576) (s : ByteArray) (hz : s.size ≤ 1048576) : HFunM Tryz.prog 21 [.ptr 0 6 0 0, .v (.string p), .v (.string s)] [(0, .bx false 47 (d.cells r1 r2))] (d.maps kS r1 r2) (fun h st g => h = .v (.int .i64 (append d p s).1) ∧ st = [(0, .bx false 47 ((append d p s).2.cells r1 r2))] ∧ g = (append d p s).2.maps kS r1 r2) := by
 refine iU (N := 43) Tryz.func21 rfl Tryz.ntmps21 Tryz.results21 (by simp) ?_
 have hf := qWn d p r1 r2 hs
 have hto := hd.size
 have hnn := qAu d.L
 have hit := jM d p
 have ht := qC9 d r1 r2 ⟨hd.steps.1, by have := hd.steps.2; omega⟩ hd.armed
 have hrm := qVq d B hd hB p s.size r1 r2 hs (by omega)
 have hn : d.n < maxLen := by have := hd.n; simp only [maxLen]; omega
 have hst := hd.stamps
 obtain ⟨a1, a2, a3, a4, a5⟩ := dH d
 have hse := qRz (aS d).2 p { aQ d p with data := (aQ d p).data ++ s, loose := true } r1 r2 hs (by rw [a3]; exact hn) (by rw [a5]; omega)
 simp only [bG, gZ] at hf ht hrm hse ⊢
 rw [dB] at hf hrm hse ⊢
 refine aA ?_; refine aC (fun K hK => ?_); simp (disch := omega) only [push_cast, ↓Int.cast_ofNat_Int, simprocAttr]; refine hK _ ?_; clear hK K
 refine aA ?_; refine aA ?_; refine bF ?_; refine aH 2 (fun K1 hK1 => ?_); simp (disch := omega) only [push_cast, ↓Int.cast_ofNat_Int, simprocAttr]; refine hK1 _ ?_; (try clear hK1 K1)
 refine bW 96 [0] zJl (hf) rfl rfl rfl rfl (by simp only [push_cast, simprocAttr]; exact rfl) (by decide) (by decide) (by decide) (by simp only [push_cast, simprocAttr]; try rfl) (by simp only [push_cast, simprocAttr]; try rfl) ?_
 rintro _ _ _ ⟨rfl, rfl, rfl⟩
 refine aH 1 (fun K1 hK1 => ?_); simp (disch := omega) only [push_cast, ↓Int.cast_ofNat_Int, simprocAttr, aF, aD]; refine hK1 _ ?_; (try clear hK1 K1)
 refine aW ?_
 refine aA ?_; refine aC (fun K hK => ?_); simp (disch := omega) only [push_cast, ↓Int.cast_ofNat_Int, simprocAttr]; refine hK _ ?_; clear hK K
 refine aT [0, 1, 2, 7, 14] [0] (by simp only [zZ, zR, zP, zQ, zN, zS, zM, zX, zU, Nat.reduceEqDiff, reduceIte]; exact rfl) ?_
 rcases (Decidable.em (fE d p = 0)).symm with h0 | h0
 ·have hr : append d p s = (fE d p, d) := by simp [append, h0]
  rw [hr]
  refine aZ rfl (fun _ => ?_) (fun h => by simp [h0] at h)
  refine aA ?_; refine aC (fun K hK => ?_); simp (disch := omega) only [push_cast, ↓Int.cast_ofNat_Int, simprocAttr]; refine hK _ ?_; clear hK K
  refine aB ?_; refine aY ?_; refine bK ?_
  simp only [aE, aL, yH, yE, yK, yJ, aG, zS, zM, Nat.reduceEqDiff, reduceIte, reduceCtorEq]
  refine bR [0] [] (by first | rfl | simp [bsL, MO.bs]) (by decide) (by decide) (by simp only [push_cast, simprocAttr]) (by simp only [push_cast, simprocAttr]) (by simp only [push_cast, simprocAttr]; rfl) (by simp only [push_cast, simprocAttr]; rfl) ?_
  exact ⟨rfl, rfl, rfl⟩
 refine aZ rfl (fun h => by simp [h0] at h) (fun _ => ?_)
 refine aU ?_; refine aA ?_; refine aA ?_; refine bF ?_; refine aH 4 (fun K1 hK1 => ?_); simp (disch := omega) only [push_cast, ↓Int.cast_ofNat_Int, simprocAttr]; refine hK1 _ ?_; (try clear hK1 K1)
 refine bW 160 [0] zGy (hrm) rfl rfl rfl rfl (by simp only [push_cast, simprocAttr]; exact rfl) (by decide) (by decide) (by decide) (by simp only [push_cast, simprocAttr]; try rfl) (by simp only [push_cast, simprocAttr]; try rfl) ?_
 rintro _ _ _ ⟨rfl, rfl, rfl⟩
 refine aH 1 (fun K1 hK1 => ?_); simp (disch := omega) only [push_cast, ↓Int.cast_ofNat_Int, simprocAttr, aF, aD]; refine hK1 _ ?_; (try clear hK1 K1)
 refine aW ?_
 refine aT [0, 1, 2, 21] [0] (by simp only [zZ, zR, zP, zQ, zN, zS, zM, zX, zU, Nat.reduceEqDiff, reduceIte]; exact rfl) ?_
 rcases (Decidable.em (iZ d p s.size = true)).symm with h3 | h3
 ·have hr : append d p s = (13, d) := by simp [append, h0, h3]
  rw [hr]
  refine aZ rfl (fun _ => ?_) (fun h => by simp [h3] at h)
  refine aA ?_; refine aC (fun K hK => ?_); simp (disch := omega) only [push_cast, ↓Int.cast_ofNat_Int, simprocAttr]; refine hK _ ?_; clear hK K
  refine aB ?_; refine aY ?_; refine bK ?_
  simp only [aE, aL, yH, yE, yK, yJ, aG, zS, zM, Nat.reduceEqDiff, reduceIte, reduceCtorEq]
  refine bR [0] [] (by first | rfl | simp [bsL, MO.bs]) (by decide) (by decide) (by simp only [push_cast, simprocAttr]) (by simp only [push_cast, simprocAttr]) (by simp only [push_cast, simprocAttr]; rfl) (by simp only [push_cast, simprocAttr]; rfl) ?_
  exact ⟨rfl, rfl, rfl⟩
 refine aZ rfl (fun h => by simp [h3] at h) (fun _ => ?_)
 refine aU ?_; refine aA ?_; refine aA ?_; refine aC (fun K hK => ?_); simp (disch := omega) only [push_cast, ↓Int.cast_ofNat_Int, simprocAttr]
 refine eC 184 [0] qWq (ht) rfl (by decide) (by decide) (by simp only [push_cast, simprocAttr]; try rfl) (by simp only [push_cast, simprocAttr]; try rfl) ?_
 rintro _ _ ⟨rfl, rfl⟩
 refine aM ?_; simp (disch := omega) only [push_cast, ↓Int.cast_ofNat_Int, simprocAttr]
 refine hK _ ?_; clear hK K
 refine aA ?_; refine aC (fun K hK => ?_); simp (disch := omega) only [push_cast, ↓Int.cast_ofNat_Int, simprocAttr]; refine hK _ ?_; clear hK K
 refine aT [0, 1, 2, 8, 25] [0] (by simp only [zZ, zR, zP, zQ, zN, zS, zM, zX, zU, Nat.reduceEqDiff, reduceIte]; exact rfl) ?_
 rcases (fB d).symm with ⟨h4, h5⟩ | ⟨h4, h5⟩
 ·have hr : append d p s = aS d := by simp [append, h0, h3, h4]
  rw [hr]
  refine aZ rfl (fun _ => ?_) (fun h => by simp [h4] at h)
  refine aA ?_; refine aC (fun K hK => ?_); simp (disch := omega) only [push_cast, ↓Int.cast_ofNat_Int, simprocAttr]; refine hK _ ?_; clear hK K
  refine aB ?_; refine aY ?_; refine bK ?_
  simp only [aE, aL, yH, yE, yK, yJ, aG, zS, zM, Nat.reduceEqDiff, reduceIte, reduceCtorEq]
  refine bR [0] [] (by first | rfl | simp [bsL, MO.bs]) (by decide) (by decide) (by simp only [push_cast, simprocAttr]) (by simp only [push_cast, simprocAttr]) (by simp only [push_cast, simprocAttr]; rfl) (by simp only [push_cast, simprocAttr]; rfl) ?_
  exact ⟨rfl, rfl, by rw [gZ]; rfl⟩
 have hr : append d p s = (0, iY (aS d).2 p { aQ d p with data := (aQ d p).data ++ s, loose := true }) := by simp [append, h0, h3, h4]
 rw [hr]
 refine aZ rfl (fun h => by simp [h4] at h) (fun _ => ?_)
 refine aU ?_; refine aA ?_; refine bF ?_; refine aH 5 (fun K1 hK1 => ?_); simp (disch := omega) only [push_cast, ↓Int.cast_ofNat_Int, simprocAttr]; refine hK1 _ ?_; (try clear hK1 K1)
 refine eK (i := 0) mtI rfl rfl rfl rfl rfl rfl (mx hs) ?_
 refine aH 2 (fun K1 hK1 => ?_); simp (disch := omega) only [push_cast, ↓Int.cast_ofNat_Int, simprocAttr, aF, aD, eH, eQ]; refine hK1 _ ?_; (try clear hK1 K1)
 refine aW ?_
 have hxd : (bC d.L p).getD itm0 = aQ d p := rfl
 rw [hxd]
 refine aT [0, 1, 2, 9] [0, 72] (by simp only [zZ, zR, zP, zQ, zN, zS, zM, zX, zU, Nat.reduceEqDiff, reduceIte]; exact rfl) ?_
 refine aA ?_; refine aC (fun K hK => ?_); simp (disch := omega) only [push_cast, ↓Int.cast_ofNat_Int, simprocAttr]
 refine ⟨by omega, hK _ ?_⟩
 clear hK K
 refine aA ?_; refine bF ?_; refine aH 3 (fun K1 hK1 => ?_); simp (disch := omega) only [push_cast, ↓Int.cast_ofNat_Int, simprocAttr]; refine hK1 _ ?_; (try clear hK1 K1)
 refine bW 336 [0] zBd (hse) rfl rfl rfl rfl (by simp only [push_cast, simprocAttr]; exact rfl) (by decide) (by decide) (by decide) (by simp only [push_cast, simprocAttr]; try rfl) (by simp only [push_cast, simprocAttr]; try rfl) ?_
 rintro _ _ _ ⟨rfl, rfl, rfl⟩
 refine aH 0 (fun K1 hK1 => ?_); simp (disch := omega) only [push_cast, ↓Int.cast_ofNat_Int, simprocAttr, aF, aD]; refine hK1 _ ?_; (try clear hK1 K1)
 refine aW ?_
 refine aA ?_; refine aC (fun K hK => ?_); simp (disch := omega) only [push_cast, ↓Int.cast_ofNat_Int, simprocAttr]; refine hK _ ?_; clear hK K
 refine aB ?_; refine aY ?_
 simp only [aE, aL, yH, yE, yK, yJ, aG, zS, zM, Nat.reduceEqDiff, reduceIte, reduceCtorEq]
 refine bR [0] [] (by first | rfl | simp [bsL, MO.bs]) (by decide) (by decide) (by simp only [push_cast, simprocAttr]) (by simp only [push_cast, simprocAttr]) (by simp only [push_cast, simprocAttr]; rfl) (by simp only [push_cast, simprocAttr]; rfl) ?_
 exact ⟨rfl, rfl, rfl⟩
end Go.Proofs.YtojolcpblacjjaaGreatDoor
