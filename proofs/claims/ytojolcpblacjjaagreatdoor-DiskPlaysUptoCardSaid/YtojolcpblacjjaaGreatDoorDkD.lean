/-
  The disk's calls: Mkdir, Write.
-/
import Derived.Test.YtojolcpblacjjaaGreatDoorDkC
set_option linter.unusedSimpArgs false
set_option linter.unusedVariables false
set_option maxRecDepth 20000
namespace Go.Proofs.YtojolcpblacjjaaGreatDoor
open Go Go.Eng Go.RowKit Go.Tr Go.Dk
theorem fB (d : Dk) : (aS d).1 = 0 ∧ d.armed ≠ 0 ∨ (aS d).1 = 14 ∧ d.armed = 0 := by
 unfold aS
 by_cases h : d.armed = 0
 ·rw [if_pos h]; exact .inr ⟨rfl, h⟩
 ·rw [if_neg h]; exact .inl ⟨rfl, h⟩
theorem dH (d : Dk) : (aS d).2.L = d.L ∧ (aS d).2.R = d.R ∧ (aS d).2.n = d.n ∧ (aS d).2.m = d.m ∧ (aS d).2.stamps = d.stamps := by
 unfold aS; split <;> exact ⟨rfl, rfl, rfl, rfl, rfl⟩
theorem qXf (L : List (ByteArray × Itm)) (p : ByteArray) (x : Itm) : (tab Itm.val L).put p.data.toList (.agg #[.bool x.dir, .string x.data, .string x.kept, .bool x.loose, .bool x.anew, .int .i64 x.stamp]) = tab Itm.val (put p x L) := qQb Itm.val L p x
theorem gZ (d : Dk) (k r1 r2 : Nat) : (aS d).2.maps k r1 r2 = d.maps k r1 r2 := by
 obtain ⟨a, b, c, e, -⟩ := dH d
 simp only [Dk.maps, a, b, c, e]
set_option maxHeartbeats 2000000 in
theorem qXz (d : Dk) (B : Int) (hd : d.Ok B) (hB : B ≤ 1099511627776) (p : ByteArray) (r1 r2 : Nat) (hs : p.size ≤ 1048576) : HFunM Tryz.prog 14 [.ptr 0 6 0 0, .v (.string p)] [(0, .bx false 47 (d.cells r1 r2))] (d.maps kS r1 r2) (fun h st g => h = .v (.int .i64 (dV d p).1) ∧ st = [(0, .bx false 47 ((dV d p).2.cells r1 r2))] ∧ g = (dV d p).2.maps kS r1 r2) := by
 refine iU (N := 47) Tryz.func14 rfl Tryz.ntmps14 Tryz.results14 (by simp) ?_
 have hm := qM3 d p 0 r1 r2 hs
 have hu := qK9 d p r1 r2 hs
 have ht := qC9 d r1 r2 ⟨hd.steps.1, by have := hd.steps.2; omega⟩ hd.armed
 have hn : d.n < maxLen := by have := hd.n; simp only [maxLen]; omega
 simp only [bG] at hm hu ht ⊢
 refine aA ?_; refine aC (fun K hK => ?_); simp (disch := omega) only [push_cast, ↓Int.cast_ofNat_Int, simprocAttr]; refine hK _ ?_; clear hK K
 refine aA ?_; refine aA ?_; refine aC (fun K hK => ?_); simp (disch := omega) only [push_cast, ↓Int.cast_ofNat_Int, simprocAttr]
 refine eC 88 [0] zBe (hm) rfl (by decide) (by decide) (by simp only [push_cast, simprocAttr]; try rfl) (by simp only [push_cast, simprocAttr]; try rfl) ?_
 rintro _ _ ⟨rfl, rfl⟩
 refine aM ?_; simp (disch := omega) only [push_cast, ↓Int.cast_ofNat_Int, simprocAttr]
 refine hK _ ?_; clear hK K
 refine aA ?_; refine aC (fun K hK => ?_); simp (disch := omega) only [push_cast, ↓Int.cast_ofNat_Int, simprocAttr]; refine hK _ ?_; clear hK K
 refine aT [0, 1, 5, 13] [0] (by simp only [zZ, zR, zP, zQ, zN, zS, zM, zX, zU, Nat.reduceEqDiff, reduceIte]; exact rfl) ?_
 by_cases h0 : may d p 0 = 0
 ·refine aZ rfl (fun h => by simp [h0] at h) (fun _ => ?_)
  rw [dB] at hu ⊢
  refine aU ?_; refine aA ?_; refine bF ?_; refine aH 5 (fun K1 hK1 => ?_); simp (disch := omega) only [push_cast, ↓Int.cast_ofNat_Int, simprocAttr]; refine hK1 _ ?_; (try clear hK1 K1)
  refine eK (i := 0) mtI rfl rfl rfl rfl rfl rfl (mx hs) ?_
  refine aH 6 (fun K1 hK1 => ?_); simp (disch := omega) only [push_cast, ↓Int.cast_ofNat_Int, simprocAttr, aF, aD, eH, lV, eQ]; refine hK1 _ ?_; (try clear hK1 K1)
  refine aW ?_
  refine aT [0, 1, 5, 6, 7] [0, 48] (by simp only [zZ, zR, zP, zQ, zN, zS, zM, zX, zU, Nat.reduceEqDiff, reduceIte]; exact rfl) ?_
  by_cases h1 : fA d p = true
  ·rw [h1] at hu
   refine aA ?_; refine bL ?_; refine aA ?_; refine bF ?_; refine aH 2 (fun K1 hK1 => ?_); simp (disch := omega) only [push_cast, ↓Int.cast_ofNat_Int, simprocAttr]; refine hK1 _ ?_; (try clear hK1 K1)
   refine bW 216 [0] zFd (hu) rfl rfl rfl rfl (by simp only [push_cast, simprocAttr]; exact rfl) (by decide) (by decide) (by decide) (by simp only [push_cast, simprocAttr]; try rfl) (by simp only [push_cast, simprocAttr]; try rfl) ?_
   rintro _ _ _ ⟨rfl, rfl, rfl⟩
   refine aH 2 (fun K1 hK1 => ?_); simp (disch := omega) only [push_cast, ↓Int.cast_ofNat_Int, simprocAttr, aF, aD]; refine hK1 _ ?_; (try clear hK1 K1)
   refine aW ?_
   refine aB ?_
   refine bB rfl ?_
   obtain ⟨b0, hb⟩ : ∃ b, (bC d.L p).isSome = b := ⟨_, rfl⟩
   obtain ⟨b1, hc⟩ : ∃ b, ((bC d.L p).getD itm0).dir = b := ⟨_, rfl⟩
   rw [hb, hc]
   by_cases h2 : b0 = true ∧ b1 = false
   ·obtain ⟨rfl, rfl⟩ := h2
    have hr : dV d p = (12, d) := by simp [dV, h0, h1, has, aQ, hb, hc]
    rw [hr]
    refine aA ?_; refine aC (fun K hK => ?_); simp (disch := omega) only [push_cast, ↓Int.cast_ofNat_Int, simprocAttr]; refine hK _ ?_; clear hK K
    refine aB ?_
    refine bY rfl ?_
    refine aA ?_; refine aC (fun K hK => ?_); simp (disch := omega) only [push_cast, ↓Int.cast_ofNat_Int, simprocAttr]; refine hK _ ?_; clear hK K
    refine aB ?_; refine aY ?_; refine cQ ?_; refine bK ?_
    simp only [aE, aL, yH, yE, yK, yJ, aG, zS, zM, Nat.reduceEqDiff, reduceIte, reduceCtorEq]
    refine bR [0] [] (by first | rfl | simp [bsL, MO.bs]) (by decide) (by decide) (by simp only [push_cast, simprocAttr]) (by simp only [push_cast, simprocAttr]) (by simp only [push_cast, simprocAttr]; rfl) (by simp only [push_cast, simprocAttr]; rfl) ?_
    exact ⟨rfl, rfl, rfl⟩
   ·have hr0 : dV d p = if (aS d).1 ≠ 0 then aS d else (0, { (aS d).2 with L := put p qQ2 d.L, n := d.n + 1 }) := by
     have : ¬ (has d p = true ∧ (aQ d p).dir = false) := by simpa only [has, aQ, hb, hc] using h2
     simp only [dV, h0, h1, if_neg this, ne_eq, not_true, if_false, Bool.true_eq_false]
    cases b0 <;> cases b1 <;> first | (exact absurd ⟨rfl, rfl⟩ h2) | skip
    all_goals
     (repeat first | refine aA ?_ | refine aB ?_ | refine aU ?_ | refine bP ?_ | refine bL ?_); refine aC (fun K hK => ?_); simp (disch := omega) only [push_cast, ↓Int.cast_ofNat_Int, simprocAttr]; refine hK _ ?_; clear hK K
     (repeat first | refine aA ?_ | refine aB ?_ | refine aU ?_ | refine bP ?_ | refine bL ?_)
     refine bB rfl ?_
     (repeat first | refine aA ?_ | refine aB ?_ | refine aU ?_ | refine bP ?_ | refine bL ?_)
     refine aT [0, 1] [0] (by simp only [zZ, zR, zP, zQ, zN, zS, zM, zX, zU, Nat.reduceEqDiff, reduceIte]; exact rfl) ?_
     (repeat first | refine aA ?_ | refine aB ?_ | refine aU ?_ | refine bP ?_ | refine bL ?_); refine aC (fun K hK => ?_); simp (disch := omega) only [push_cast, ↓Int.cast_ofNat_Int, simprocAttr]
     refine eC 296 [0] qWq (ht) rfl (by decide) (by decide) (by simp only [push_cast, simprocAttr]; try rfl) (by simp only [push_cast, simprocAttr]; try rfl) ?_
     rintro _ _ ⟨rfl, rfl⟩
     refine aM ?_; simp (disch := omega) only [push_cast, ↓Int.cast_ofNat_Int, simprocAttr]
     refine hK _ ?_; clear hK K
     (repeat first | refine aA ?_ | refine aB ?_ | refine aU ?_ | refine bP ?_ | refine bL ?_); refine aC (fun K hK => ?_); simp (disch := omega) only [push_cast, ↓Int.cast_ofNat_Int, simprocAttr]; refine hK _ ?_; clear hK K
     refine aT [0, 1, 8, 39] [0] (by simp only [zZ, zR, zP, zQ, zN, zS, zM, zX, zU, Nat.reduceEqDiff, reduceIte]; exact rfl) ?_
     (repeat first | refine aA ?_ | refine aB ?_ | refine aU ?_ | refine bP ?_ | refine bL ?_)
     rcases fB d with ⟨h3, h4⟩ | ⟨h3, h4⟩
     ·have hr : dV d p = (0, { (aS d).2 with L := put p qQ2 d.L, n := d.n + 1 }) := by rw [hr0, if_neg (by simp [h3])]
      rw [hr]
      refine aZ rfl (fun h => by simp [h3] at h) (fun _ => ?_)
      (repeat first | refine aA ?_ | refine aB ?_ | refine aU ?_ | refine bP ?_ | refine bL ?_); refine bF ?_; refine aH 6 (fun K1 hK1 => ?_); simp (disch := omega) only [push_cast, ↓Int.cast_ofNat_Int, simprocAttr]; refine hK1 _ ?_; (try clear hK1 K1)
      refine qFy (i := 0) mtI rfl rfl rfl rfl (hn) rfl rfl (mx hs) rfl rfl ?_
      refine aH 0 (fun K1 hK1 => ?_); simp (disch := omega) only [push_cast, ↓Int.cast_ofNat_Int, simprocAttr, aF, aD]; refine hK1 _ ?_; (try clear hK1 K1)
      refine aW ?_
      (repeat first | refine aA ?_ | refine aB ?_ | refine aU ?_ | refine bP ?_ | refine bL ?_); refine aC (fun K hK => ?_); simp (disch := omega) only [push_cast, ↓Int.cast_ofNat_Int, simprocAttr]; refine hK _ ?_; clear hK K
      (repeat first | refine bK ?_ | refine dZ ?_ | refine iR ?_ | refine qDk rfl ?_ | refine cQ ?_ | refine bP ?_ | refine aA ?_ | refine aB ?_ | refine aU ?_ | refine iX ?_ | refine aY ?_)
      simp only [aE, aL, yH, yE, yK, yJ, aG, zS, zM, Nat.reduceEqDiff, reduceIte, reduceCtorEq]
      refine bR [0] [] (by first | rfl | simp [bsL, MO.bs]) (by decide) (by decide) (by simp only [push_cast, simprocAttr]) (by simp only [push_cast, simprocAttr]) (by simp only [push_cast, simprocAttr]; rfl) (by simp only [push_cast, simprocAttr]; rfl) ?_
      refine ⟨rfl, rfl, ?_⟩
      obtain ⟨a1, a2, a3, a4, a5⟩ := dH d
      simp only [Dk.maps, a2, a4]
      rw [← qXf]
      rfl
     ·have hr : dV d p = aS d := by rw [hr0, if_pos (by simp [h3])]
      rw [hr]
      refine aZ rfl (fun _ => ?_) (fun h => by simp [h3] at h)
      (repeat first | refine aA ?_ | refine aB ?_ | refine aU ?_ | refine bP ?_ | refine bL ?_); refine aC (fun K hK => ?_); simp (disch := omega) only [push_cast, ↓Int.cast_ofNat_Int, simprocAttr]; refine hK _ ?_; clear hK K
      (repeat first | refine bK ?_ | refine dZ ?_ | refine iR ?_ | refine qDk rfl ?_ | refine cQ ?_ | refine bP ?_ | refine aA ?_ | refine aB ?_ | refine aU ?_ | refine iX ?_ | refine aY ?_)
      simp only [aE, aL, yH, yE, yK, yJ, aG, zS, zM, Nat.reduceEqDiff, reduceIte, reduceCtorEq]
      refine bR [0] [] (by first | rfl | simp [bsL, MO.bs]) (by decide) (by decide) (by simp only [push_cast, simprocAttr]) (by simp only [push_cast, simprocAttr]) (by simp only [push_cast, simprocAttr]; rfl) (by simp only [push_cast, simprocAttr]; rfl) ?_
      exact ⟨rfl, rfl, by rw [gZ]; rfl⟩
  ·have h1 : fA d p = false := by simpa using h1
   rw [h1] at hu
   have hr : dV d p = (11, d) := by simp [dV, h0, h1]
   rw [hr]
   refine aA ?_; refine bL ?_; refine aA ?_; refine bF ?_; refine aH 2 (fun K1 hK1 => ?_); simp (disch := omega) only [push_cast, ↓Int.cast_ofNat_Int, simprocAttr]; refine hK1 _ ?_; (try clear hK1 K1)
   refine bW 216 [0] zFd (hu) rfl rfl rfl rfl (by simp only [push_cast, simprocAttr]; exact rfl) (by decide) (by decide) (by decide) (by simp only [push_cast, simprocAttr]; try rfl) (by simp only [push_cast, simprocAttr]; try rfl) ?_
   rintro _ _ _ ⟨rfl, rfl, rfl⟩
   refine aH 2 (fun K1 hK1 => ?_); simp (disch := omega) only [push_cast, ↓Int.cast_ofNat_Int, simprocAttr, aF, aD]; refine hK1 _ ?_; (try clear hK1 K1)
   refine aW ?_
   refine aB ?_
   refine bY rfl ?_
   refine aA ?_; refine aC (fun K hK => ?_); simp (disch := omega) only [push_cast, ↓Int.cast_ofNat_Int, simprocAttr]; refine hK _ ?_; clear hK K
   refine aB ?_; refine aY ?_; refine cQ ?_; refine bK ?_
   simp only [aE, aL, yH, yE, yK, yJ, aG, zS, zM, Nat.reduceEqDiff, reduceIte, reduceCtorEq]
   refine bR [0] [] (by first | rfl | simp [bsL, MO.bs]) (by decide) (by decide) (by simp only [push_cast, simprocAttr]) (by simp only [push_cast, simprocAttr]) (by simp only [push_cast, simprocAttr]; rfl) (by simp only [push_cast, simprocAttr]; rfl) ?_
   exact ⟨rfl, rfl, rfl⟩
 ·have hr : dV d p = (may d p 0, d) := by simp [dV, h0]
  rw [hr]
  refine aZ rfl (fun _ => ?_) (fun h => by simp [h0] at h)
  refine aA ?_; refine aC (fun K hK => ?_); simp (disch := omega) only [push_cast, ↓Int.cast_ofNat_Int, simprocAttr]; refine hK _ ?_; clear hK K
  refine aB ?_; refine aY ?_; refine bK ?_
  simp only [aE, aL, yH, yE, yK, yJ, aG, zS, zM, Nat.reduceEqDiff, reduceIte, reduceCtorEq]
  refine bR [0] [] (by first | rfl | simp [bsL, MO.bs]) (by decide) (by decide) (by simp only [push_cast, simprocAttr]) (by simp only [push_cast, simprocAttr]) (by simp only [push_cast, simprocAttr]; rfl) (by simp only [push_cast, simprocAttr]; rfl) ?_
  exact ⟨rfl, rfl, rfl⟩
end Go.Proofs.YtojolcpblacjjaaGreatDoor
