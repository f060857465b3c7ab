/-
  The disk's calls: Mkdir, Write.
-/
import Derived.Test.YtojolcpblacjjaaGreatDoorDkC
set_option linter.unusedSimpArgs false
set_option linter.unusedVariables false
set_option maxRecDepth 20000
namespace Go.Proofs.YtojolcpblacjjaaGreatDoor
open Go Go.Eng Go.RowKit Go.Tr Go.Dk
theorem eP (d : Dk) : (aS d).1 = 0 ∧ d.armed ≠ 0 ∨ (aS d).1 = 14 ∧ d.armed = 0 := by
 unfold aS
 by_cases h : d.armed = 0
 ·rw [if_pos h]; exact .inr ⟨rfl, h⟩
 ·rw [if_neg h]; exact .inl ⟨rfl, h⟩
theorem dA (d : Dk) : (aS d).2.L = d.L ∧ (aS d).2.R = d.R ∧ (aS d).2.n = d.n ∧ (aS d).2.m = d.m ∧ (aS d).2.stamps = d.stamps := by
 unfold aS; split <;> exact ⟨rfl, rfl, rfl, rfl, rfl⟩
theorem qWb (L : List (ByteArray × Itm)) (p : ByteArray) (x : Itm) : (tab Itm.val L).put p.data.toList (.agg #[.bool x.dir, .string x.data, .string x.kept, .bool x.loose, .bool x.anew, .int .i64 x.stamp]) = tab Itm.val (put p x L) := qNq Itm.val L p x
theorem gN (d : Dk) (k r1 r2 : Nat) : (aS d).2.maps k r1 r2 = d.maps k r1 r2 := by
 obtain ⟨a, b, c, e, -⟩ := dA d
 simp only [Dk.maps, a, b, c, e]
set_option maxHeartbeats 2000000 in
theorem qWv (d : Dk) (B : Int) (hd : d.Ok B) (hB : B ≤ 1099511627776) (p : ByteArray) (r1 r2 : Nat) (hs : p.size ≤ 1048576) : HFunM Tryz.prog 14 [.ptr 0 6 0 0, .v (.string p)] [(0, .bx false 47 (d.cells r1 r2))] (d.maps kS r1 r2) (fun h st g => h = .v (.int .i64 (dJ d p).1) ∧ st = [(0, .bx false 47 ((dJ d p).2.cells r1 r2))] ∧ g = (dJ d p).2.maps kS r1 r2) := by
 refine jA (N := 47) Tryz.func14 rfl Tryz.ntmps14 Tryz.results14 (by simp) ?_
 have hm := qLh d p 0 r1 r2 hs
 have hu := qJr d p r1 r2 hs
 have ht := qAq d r1 r2 ⟨hd.steps.1, by have := hd.steps.2; omega⟩ hd.armed
 have hn : d.n < maxLen := by have := hd.n; simp only [maxLen]; omega
 simp only [bJ] at hm hu ht ⊢
 refine aA ?_; refine aC (fun K hK => ?_); simp (disch := omega) only [push_cast, ↓Int.cast_ofNat_Int, simprocAttr]; refine hK _ ?_; clear hK K
 refine aA ?_; refine aA ?_; refine aC (fun K hK => ?_); simp (disch := omega) only [push_cast, ↓Int.cast_ofNat_Int, simprocAttr]
 refine dU 88 [0] zAd (hm) rfl (by decide) (by decide) (by simp only [push_cast, simprocAttr]; try rfl) (by simp only [push_cast, simprocAttr]; try rfl) ?_
 rintro _ _ ⟨rfl, rfl⟩
 refine aN ?_; simp (disch := omega) only [push_cast, ↓Int.cast_ofNat_Int, simprocAttr]
 refine hK _ ?_; clear hK K
 refine aA ?_; refine aC (fun K hK => ?_); simp (disch := omega) only [push_cast, ↓Int.cast_ofNat_Int, simprocAttr]; refine hK _ ?_; clear hK K
 refine aU [0, 1, 5, 13] [0] (by simp only [zZ, zR, zP, zQ, zN, zS, zM, zX, zU, Nat.reduceEqDiff, reduceIte]; exact rfl) ?_
 by_cases h0 : may d p 0 = 0
 ·refine bA rfl (fun h => by simp [h0] at h) (fun _ => ?_)
  rw [cV] at hu ⊢
  refine aW ?_; refine aA ?_; refine bD ?_; refine aH 5 (fun K1 hK1 => ?_); simp (disch := omega) only [push_cast, ↓Int.cast_ofNat_Int, simprocAttr]; refine hK1 _ ?_; (try clear hK1 K1)
  refine dZ (i := 0) mtI rfl rfl rfl rfl rfl rfl (mx hs) ?_
  refine aH 6 (fun K1 hK1 => ?_); simp (disch := omega) only [push_cast, ↓Int.cast_ofNat_Int, simprocAttr, aG, aE, dY, kN, eD]; refine hK1 _ ?_; (try clear hK1 K1)
  refine aY ?_
  refine aU [0, 1, 5, 6, 7] [0, 48] (by simp only [zZ, zR, zP, zQ, zN, zS, zM, zX, zU, Nat.reduceEqDiff, reduceIte]; exact rfl) ?_
  by_cases h1 : eJ d p = true
  ·rw [h1] at hu
   refine aA ?_; refine bQ ?_; refine aA ?_; refine bD ?_; refine aH 2 (fun K1 hK1 => ?_); simp (disch := omega) only [push_cast, ↓Int.cast_ofNat_Int, simprocAttr]; refine hK1 _ ?_; (try clear hK1 K1)
   refine bL 216 [0] zEe (hu) rfl rfl rfl rfl (by simp only [push_cast, simprocAttr]; exact rfl) (by decide) (by decide) (by decide) (by simp only [push_cast, simprocAttr]; try rfl) (by simp only [push_cast, simprocAttr]; try rfl) ?_
   rintro _ _ _ ⟨rfl, rfl, rfl⟩
   refine aH 2 (fun K1 hK1 => ?_); simp (disch := omega) only [push_cast, ↓Int.cast_ofNat_Int, simprocAttr, aG, aE]; refine hK1 _ ?_; (try clear hK1 K1)
   refine aY ?_
   refine aB ?_
   refine bE rfl ?_
   obtain ⟨b0, hb⟩ : ∃ b, (aT d.L p).isSome = b := ⟨_, rfl⟩
   obtain ⟨b1, hc⟩ : ∃ b, ((aT d.L p).getD itm0).dir = b := ⟨_, rfl⟩
   rw [hb, hc]
   by_cases h2 : b0 = true ∧ b1 = false
   ·obtain ⟨rfl, rfl⟩ := h2
    have hr : dJ d p = (12, d) := by simp [dJ, h0, h1, has, aP, hb, hc]
    rw [hr]
    refine aA ?_; refine aC (fun K hK => ?_); simp (disch := omega) only [push_cast, ↓Int.cast_ofNat_Int, simprocAttr]; refine hK _ ?_; clear hK K
    refine aB ?_
    refine bT rfl ?_
    refine aA ?_; refine aC (fun K hK => ?_); simp (disch := omega) only [push_cast, ↓Int.cast_ofNat_Int, simprocAttr]; refine hK _ ?_; clear hK K
    refine aB ?_; refine aV ?_; refine cK ?_; refine bH ?_
    simp only [aD, aK, yH, yE, yK, yJ, aF, zS, zM, Nat.reduceEqDiff, reduceIte, reduceCtorEq]
    refine bP [0] [] (by first | rfl | simp [bsL, MO.bs]) (by decide) (by decide) (by simp only [push_cast, simprocAttr]) (by simp only [push_cast, simprocAttr]) (by simp only [push_cast, simprocAttr]; rfl) (by simp only [push_cast, simprocAttr]; rfl) ?_
    exact ⟨rfl, rfl, rfl⟩
   ·have hr0 : dJ d p = if (aS d).1 ≠ 0 then aS d else (0, { (aS d).2 with L := put p qPl d.L, n := d.n + 1 }) := by
     have : ¬ (has d p = true ∧ (aP d p).dir = false) := by simpa only [has, aP, hb, hc] using h2
     simp only [dJ, h0, h1, if_neg this, ne_eq, not_true, if_false, Bool.true_eq_false]
    cases b0 <;> cases b1 <;> first | (exact absurd ⟨rfl, rfl⟩ h2) | skip
    all_goals
     (repeat first | refine aA ?_ | refine aB ?_ | refine aW ?_ | refine bR ?_ | refine bQ ?_); refine aC (fun K hK => ?_); simp (disch := omega) only [push_cast, ↓Int.cast_ofNat_Int, simprocAttr]; refine hK _ ?_; clear hK K
     (repeat first | refine aA ?_ | refine aB ?_ | refine aW ?_ | refine bR ?_ | refine bQ ?_)
     refine bE rfl ?_
     (repeat first | refine aA ?_ | refine aB ?_ | refine aW ?_ | refine bR ?_ | refine bQ ?_)
     refine aU [0, 1] [0] (by simp only [zZ, zR, zP, zQ, zN, zS, zM, zX, zU, Nat.reduceEqDiff, reduceIte]; exact rfl) ?_
     (repeat first | refine aA ?_ | refine aB ?_ | refine aW ?_ | refine bR ?_ | refine bQ ?_); refine aC (fun K hK => ?_); simp (disch := omega) only [push_cast, ↓Int.cast_ofNat_Int, simprocAttr]
     refine dU 296 [0] qVm (ht) rfl (by decide) (by decide) (by simp only [push_cast, simprocAttr]; try rfl) (by simp only [push_cast, simprocAttr]; try rfl) ?_
     rintro _ _ ⟨rfl, rfl⟩
     refine aN ?_; simp (disch := omega) only [push_cast, ↓Int.cast_ofNat_Int, simprocAttr]
     refine hK _ ?_; clear hK K
     (repeat first | refine aA ?_ | refine aB ?_ | refine aW ?_ | refine bR ?_ | refine bQ ?_); refine aC (fun K hK => ?_); simp (disch := omega) only [push_cast, ↓Int.cast_ofNat_Int, simprocAttr]; refine hK _ ?_; clear hK K
     refine aU [0, 1, 8, 39] [0] (by simp only [zZ, zR, zP, zQ, zN, zS, zM, zX, zU, Nat.reduceEqDiff, reduceIte]; exact rfl) ?_
     (repeat first | refine aA ?_ | refine aB ?_ | refine aW ?_ | refine bR ?_ | refine bQ ?_)
     rcases eP d with ⟨h3, h4⟩ | ⟨h3, h4⟩
     ·have hr : dJ d p = (0, { (aS d).2 with L := put p qPl d.L, n := d.n + 1 }) := by rw [hr0, if_neg (by simp [h3])]
      rw [hr]
      refine bA rfl (fun h => by simp [h3] at h) (fun _ => ?_)
      (repeat first | refine aA ?_ | refine aB ?_ | refine aW ?_ | refine bR ?_ | refine bQ ?_); refine bD ?_; refine aH 6 (fun K1 hK1 => ?_); simp (disch := omega) only [push_cast, ↓Int.cast_ofNat_Int, simprocAttr]; refine hK1 _ ?_; (try clear hK1 K1)
      refine qDy (i := 0) mtI rfl rfl rfl rfl (hn) rfl rfl (mx hs) rfl rfl ?_
      refine aH 0 (fun K1 hK1 => ?_); simp (disch := omega) only [push_cast, ↓Int.cast_ofNat_Int, simprocAttr, aG, aE]; refine hK1 _ ?_; (try clear hK1 K1)
      refine aY ?_
      (repeat first | refine aA ?_ | refine aB ?_ | refine aW ?_ | refine bR ?_ | refine bQ ?_); refine aC (fun K hK => ?_); simp (disch := omega) only [push_cast, ↓Int.cast_ofNat_Int, simprocAttr]; refine hK _ ?_; clear hK K
      (repeat first | refine bH ?_ | refine fB ?_ | refine kK ?_ | refine qBb rfl ?_ | refine cK ?_ | refine bR ?_ | refine aA ?_ | refine aB ?_ | refine aW ?_ | refine kR ?_ | refine aV ?_)
      simp only [aD, aK, yH, yE, yK, yJ, aF, zS, zM, Nat.reduceEqDiff, reduceIte, reduceCtorEq]
      refine bP [0] [] (by first | rfl | simp [bsL, MO.bs]) (by decide) (by decide) (by simp only [push_cast, simprocAttr]) (by simp only [push_cast, simprocAttr]) (by simp only [push_cast, simprocAttr]; rfl) (by simp only [push_cast, simprocAttr]; rfl) ?_
      refine ⟨rfl, rfl, ?_⟩
      obtain ⟨a1, a2, a3, a4, a5⟩ := dA d
      simp only [Dk.maps, a2, a4]
      rw [← qWb]
      rfl
     ·have hr : dJ d p = aS d := by rw [hr0, if_pos (by simp [h3])]
      rw [hr]
      refine bA rfl (fun _ => ?_) (fun h => by simp [h3] at h)
      (repeat first | refine aA ?_ | refine aB ?_ | refine aW ?_ | refine bR ?_ | refine bQ ?_); refine aC (fun K hK => ?_); simp (disch := omega) only [push_cast, ↓Int.cast_ofNat_Int, simprocAttr]; refine hK _ ?_; clear hK K
      (repeat first | refine bH ?_ | refine fB ?_ | refine kK ?_ | refine qBb rfl ?_ | refine cK ?_ | refine bR ?_ | refine aA ?_ | refine aB ?_ | refine aW ?_ | refine kR ?_ | refine aV ?_)
      simp only [aD, aK, yH, yE, yK, yJ, aF, zS, zM, Nat.reduceEqDiff, reduceIte, reduceCtorEq]
      refine bP [0] [] (by first | rfl | simp [bsL, MO.bs]) (by decide) (by decide) (by simp only [push_cast, simprocAttr]) (by simp only [push_cast, simprocAttr]) (by simp only [push_cast, simprocAttr]; rfl) (by simp only [push_cast, simprocAttr]; rfl) ?_
      exact ⟨rfl, rfl, by rw [gN]; rfl⟩
  ·have h1 : eJ d p = false := by simpa using h1
   rw [h1] at hu
   have hr : dJ d p = (11, d) := by simp [dJ, h0, h1]
   rw [hr]
   refine aA ?_; refine bQ ?_; refine aA ?_; refine bD ?_; refine aH 2 (fun K1 hK1 => ?_); simp (disch := omega) only [push_cast, ↓Int.cast_ofNat_Int, simprocAttr]; refine hK1 _ ?_; (try clear hK1 K1)
   refine bL 216 [0] zEe (hu) rfl rfl rfl rfl (by simp only [push_cast, simprocAttr]; exact rfl) (by decide) (by decide) (by decide) (by simp only [push_cast, simprocAttr]; try rfl) (by simp only [push_cast, simprocAttr]; try rfl) ?_
   rintro _ _ _ ⟨rfl, rfl, rfl⟩
   refine aH 2 (fun K1 hK1 => ?_); simp (disch := omega) only [push_cast, ↓Int.cast_ofNat_Int, simprocAttr, aG, aE]; refine hK1 _ ?_; (try clear hK1 K1)
   refine aY ?_
   refine aB ?_
   refine bT rfl ?_
   refine aA ?_; refine aC (fun K hK => ?_); simp (disch := omega) only [push_cast, ↓Int.cast_ofNat_Int, simprocAttr]; refine hK _ ?_; clear hK K
   refine aB ?_; refine aV ?_; refine cK ?_; refine bH ?_
   simp only [aD, aK, yH, yE, yK, yJ, aF, zS, zM, Nat.reduceEqDiff, reduceIte, reduceCtorEq]
   refine bP [0] [] (by first | rfl | simp [bsL, MO.bs]) (by decide) (by decide) (by simp only [push_cast, simprocAttr]) (by simp only [push_cast, simprocAttr]) (by simp only [push_cast, simprocAttr]; rfl) (by simp only [push_cast, simprocAttr]; rfl) ?_
   exact ⟨rfl, rfl, rfl⟩
 ·have hr : dJ d p = (may d p 0, d) := by simp [dJ, h0]
  rw [hr]
  refine bA rfl (fun _ => ?_) (fun h => by simp [h0] at h)
  refine aA ?_; refine aC (fun K hK => ?_); simp (disch := omega) only [push_cast, ↓Int.cast_ofNat_Int, simprocAttr]; refine hK _ ?_; clear hK K
  refine aB ?_; refine aV ?_; refine bH ?_
  simp only [aD, aK, yH, yE, yK, yJ, aF, zS, zM, Nat.reduceEqDiff, reduceIte, reduceCtorEq]
  refine bP [0] [] (by first | rfl | simp [bsL, MO.bs]) (by decide) (by decide) (by simp only [push_cast, simprocAttr]) (by simp only [push_cast, simprocAttr]) (by simp only [push_cast, simprocAttr]; rfl) (by simp only [push_cast, simprocAttr]; rfl) ?_
  exact ⟨rfl, rfl, rfl⟩
end Go.Proofs.YtojolcpblacjjaaGreatDoor
