/-
  The disk's calls: Rename.
-/
import Derived.Test.YtojolcpblacjjaaGreatDoorDkG
set_option linter.unusedSimpArgs false
set_option linter.unusedVariables false
set_option maxRecDepth 20000
namespace Go.Proofs.YtojolcpblacjjaaGreatDoor
open Go Go.Eng Go.RowKit Go.Tr Go.Dk
theorem qXc {d : Dk} {a b : ByteArray} {e : Int} (he : (if may d a 1 = 0 then may d b 1 else may d a 1) = e) (h : e ≠ 0) : dJ d a b = (e, d) := by
 simp only [dJ, he]; rw [if_pos h]
def gP (d : Dk) (a b : ByteArray) : Int := if vol a = vol b then -((aQ d b).data.size : Int) else (aQ d a).data.size - (aQ d b).data.size
theorem zH3 {d : Dk} {a b : ByteArray} (h1 : may d a 1 = 0) (h2 : may d b 1 = 0) : dJ d a b = if has d a = false ∨ fA d b = false then (11, d) else if (aQ d a).dir = true ∨ (aQ d b).dir = true then (12, d) else if a ≠ b ∧ iZ d b (gP d a b) = false then (13, d) else
   if (aS d).1 ≠ 0 then aS d else (0, iY { (aS d).2 with L := del a d.L } b (aQ d a)) := by
 simp only [dJ, h1, h2, if_true, ne_eq, not_true, if_false, gP]
theorem qRk (L : List (ByteArray × Itm)) (p : ByteArray) : (tab Itm.val L).del p.data.toList = tab Itm.val (del p L) := qW3 Itm.val L p
set_option maxHeartbeats 4000000 in
theorem qR4 (d : Dk) (B : Int) (hd : d.Ok B) (hB : B ≤ 1099511627776) (p q : ByteArray) (r1 r2 : Nat) (hs : p.size ≤ 1048576) (hs2 : q.size ≤ 1048576) : HFunM Tryz.prog 16 [.ptr 0 6 0 0, .v (.string p), .v (.string q)] [(0, .bx false 47 (d.cells r1 r2))] (d.maps kS r1 r2) (fun h st g => h = .v (.int .i64 (dJ d p q).1) ∧ st = [(0, .bx false 47 ((dJ d p q).2.cells r1 r2))] ∧ g = (dJ d p q).2.maps kS r1 r2) := by
 refine iU (N := 96) Tryz.func16 rfl Tryz.ntmps16 Tryz.results16 (by simp) ?_
 have hm := qM3 d p 1 r1 r2 hs
 have hm2 := qM3 d q 1 r1 r2 hs2
 have hu := qK9 d q r1 r2 hs2
 have hto := hd.size
 have hnn := qAu d.L
 have hit := jM d p
 have hit2 := jM d q
 have ht := qC9 d r1 r2 ⟨hd.steps.1, by have := hd.steps.2; omega⟩ hd.armed
 have hmo : -1099511627776 ≤ gP d p q ∧ gP d p q ≤ 1099511627776 := by unfold gP; split <;> omega
 have hrm := qVq d B hd hB q (gP d p q) r1 r2 hs2 hmo
 have hn : d.n < maxLen := by have := hd.n; simp only [maxLen]; omega
 have hst := hd.stamps
 obtain ⟨a1, a2, a3, a4, a5⟩ := dH d
 have hse := qRz { (aS d).2 with L := del p d.L } q (aQ d p) r1 r2 hs2 (by show (aS d).2.n < _; rw [a3]; exact hn) (by show 0 ≤ (aS d).2.stamps ∧ (aS d).2.stamps < _; rw [a5]; omega)
 have hv := qWy p hs
 have hv2 := qWy q hs2
 simp only [bG] at hm hm2 hu ht hrm hse ⊢
 rw [dB] at hu hrm hse ⊢
 refine aA ?_; refine aC (fun K hK => ?_); simp (disch := omega) only [push_cast, ↓Int.cast_ofNat_Int, simprocAttr]; refine hK _ ?_; clear hK K
 refine aA ?_; refine aC (fun K hK => ?_); simp (disch := omega) only [push_cast, ↓Int.cast_ofNat_Int, simprocAttr]
 refine eC 120 [0] zBe (hm) rfl (by decide) (by decide) (by simp only [push_cast, simprocAttr]; try rfl) (by simp only [push_cast, simprocAttr]; try rfl) ?_
 rintro _ _ ⟨rfl, rfl⟩
 refine aM ?_; simp (disch := omega) only [push_cast, ↓Int.cast_ofNat_Int, simprocAttr]
 refine hK _ ?_; clear hK K
 refine aA ?_; refine aA ?_; refine aC (fun K hK => ?_); simp (disch := omega) only [push_cast, ↓Int.cast_ofNat_Int, simprocAttr]; refine hK _ ?_; clear hK K
 refine aT [0, 1, 2, 7, 17] [0] (by simp only [zZ, zR, zP, zQ, zN, zS, zM, zX, zU, Nat.reduceEqDiff, reduceIte]; exact rfl) ?_
 rcases (Decidable.em (may d p 1 = 0)).symm with h0 | h0
 ·have hr := qXc (d := d) (a := p) (b := q) (e := may d p 1) (by rw [if_neg h0]) h0
  rw [hr]
  skip
  refine aZ rfl (fun h => by simp [h0] at h) (fun _ => ?_)
  refine aU ?_; refine aA ?_; refine aA ?_; refine aC (fun K hK => ?_); simp (disch := omega) only [push_cast, ↓Int.cast_ofNat_Int, simprocAttr]; refine hK _ ?_; clear hK K
  refine aB ?_
  refine aZ rfl (fun _ => ?_) (fun h => by simp [h0] at h)
  refine aA ?_; refine aC (fun K hK => ?_); simp (disch := omega) only [push_cast, ↓Int.cast_ofNat_Int, simprocAttr]; refine hK _ ?_; clear hK K
  refine aB ?_; refine aY ?_; refine bK ?_
  simp only [aE, aL, yH, yE, yK, yJ, aG, zS, zM, Nat.reduceEqDiff, reduceIte, reduceCtorEq]
  refine bR [0] [] (by first | rfl | simp [bsL, MO.bs]) (by decide) (by decide) (by simp only [push_cast, simprocAttr]) (by simp only [push_cast, simprocAttr]) (by simp only [push_cast, simprocAttr]; rfl) (by simp only [push_cast, simprocAttr]; rfl) ?_
  exact ⟨rfl, rfl, rfl⟩
 skip
 refine aZ rfl (fun _ => ?_) (fun h => by simp [h0] at h)
 refine aC (fun K hK => ?_); simp (disch := omega) only [push_cast, ↓Int.cast_ofNat_Int, simprocAttr]
 refine eC 160 [0] zBe (hm2) rfl (by decide) (by decide) (by simp only [push_cast, simprocAttr]; try rfl) (by simp only [push_cast, simprocAttr]; try rfl) ?_
 rintro _ _ ⟨rfl, rfl⟩
 refine aM ?_; simp (disch := omega) only [push_cast, ↓Int.cast_ofNat_Int, simprocAttr]
 refine hK _ ?_; clear hK K
 refine aA ?_; refine aA ?_; refine aC (fun K hK => ?_); simp (disch := omega) only [push_cast, ↓Int.cast_ofNat_Int, simprocAttr]; refine hK _ ?_; clear hK K
 refine aT [0, 1, 2, 7, 22] [0] (by simp only [zZ, zR, zP, zQ, zN, zS, zM, zX, zU, Nat.reduceEqDiff, reduceIte]; exact rfl) ?_
 rcases (Decidable.em (may d q 1 = 0)).symm with h1 | h1
 ·have hr := qXc (d := d) (a := p) (b := q) (e := may d q 1) (by rw [if_pos h0]) h1
  rw [hr]
  skip
  refine aZ rfl (fun _ => ?_) (fun h => by simp [h1] at h)
  refine aA ?_; refine aC (fun K hK => ?_); simp (disch := omega) only [push_cast, ↓Int.cast_ofNat_Int, simprocAttr]; refine hK _ ?_; clear hK K
  refine aB ?_; refine aY ?_; refine bK ?_
  simp only [aE, aL, yH, yE, yK, yJ, aG, zS, zM, Nat.reduceEqDiff, reduceIte, reduceCtorEq]
  refine bR [0] [] (by first | rfl | simp [bsL, MO.bs]) (by decide) (by decide) (by simp only [push_cast, simprocAttr]) (by simp only [push_cast, simprocAttr]) (by simp only [push_cast, simprocAttr]; rfl) (by simp only [push_cast, simprocAttr]; rfl) ?_
  exact ⟨rfl, rfl, rfl⟩
 have hr0 := zH3 h0 h1
 skip
 refine aZ rfl (fun h => by simp [h1] at h) (fun _ => ?_)
 refine aU ?_; refine aA ?_; refine bF ?_; refine aH 5 (fun K1 hK1 => ?_); simp (disch := omega) only [push_cast, ↓Int.cast_ofNat_Int, simprocAttr]; refine hK1 _ ?_; (try clear hK1 K1)
 refine eK (i := 0) mtI rfl rfl rfl rfl rfl rfl (mx hs) ?_
 refine aH 6 (fun K1 hK1 => ?_); simp (disch := omega) only [push_cast, ↓Int.cast_ofNat_Int, simprocAttr, aF, aD, eH, lV, eQ]; refine hK1 _ ?_; (try clear hK1 K1)
 refine aW ?_
 have hxd : (bC d.L p).getD itm0 = aQ d p := rfl
 have hxs : (bC d.L p).isSome = has d p := rfl
 rw [hxd, hxs]
 refine aT [0, 1, 2, 8, 9] [0, 64] (by simp only [zZ, zR, zP, zQ, zN, zS, zM, zX, zU, Nat.reduceEqDiff, reduceIte]; exact rfl) ?_
 refine aA ?_; refine bF ?_; refine aH 5 (fun K1 hK1 => ?_); simp (disch := omega) only [push_cast, ↓Int.cast_ofNat_Int, simprocAttr]; refine hK1 _ ?_; (try clear hK1 K1)
 refine eK (i := 0) mtI rfl rfl rfl rfl rfl rfl (mx hs2) ?_
 refine aH 2 (fun K1 hK1 => ?_); simp (disch := omega) only [push_cast, ↓Int.cast_ofNat_Int, simprocAttr, aF, aD, eH, eQ]; refine hK1 _ ?_; (try clear hK1 K1)
 refine aW ?_
 have hxd2 : (bC d.L q).getD itm0 = aQ d q := rfl
 rw [hxd2]
 refine aT [0, 1, 2, 8, 9, 10] [0, 64, 80] (by simp only [zZ, zR, zP, zQ, zN, zS, zM, zX, zU, Nat.reduceEqDiff, reduceIte]; exact rfl) ?_
 refine aA ?_; refine aC (fun K hK => ?_); simp (disch := omega) only [push_cast, ↓Int.cast_ofNat_Int, simprocAttr]; refine hK _ ?_; clear hK K
 refine aA ?_; refine aA ?_; refine aC (fun K hK => ?_); simp (disch := omega) only [push_cast, ↓Int.cast_ofNat_Int, simprocAttr]
 refine cG zFc hv (.cons (.v _) .nil) ?_
 with_reducible refine aM ?_; simp (disch := omega) only [push_cast, ↓Int.cast_ofNat_Int, simprocAttr]
 refine cG zFc hv2 (.cons (.v _) .nil) ?_
 with_reducible refine aM ?_; simp (disch := omega) only [push_cast, ↓Int.cast_ofNat_Int, simprocAttr]
 refine hK _ ?_; clear hK K
 refine aT [0, 1, 2, 8, 9, 10, 11, 50] [0, 64, 80] (by simp only [zZ, zR, zP, zQ, zN, zS, zM, zX, zU, Nat.reduceEqDiff, reduceIte]; exact rfl) ?_
 refine qLl (ι := Unit) (fun _ => ⟨[(0, .ptr 0 6 0 0), (1, .v (.string p)), (2, .v (.string q)), (8, .ptr 64 6 0 0), (9, .v (.bool (has d p))), (10, .ptr 80 6 0 0), (11, .v (.int .i64 (gP d p q)))], [(0, .bx false 47 [.v (.map (some r1)), .v (.map (some r2)), .v (.int .i64 d.steps), .v (.int .i64 d.stamps), .v (.int .i64 d.armed), .v (.bool d.down)]),
   (64, .bx true 65 [.v (.bool (aQ d p).dir), .v (.string (aQ d p).data), .v (.string (aQ d p).kept), .v (.bool (aQ d p).loose), .v (.bool (aQ d p).anew), .v (.int .i64 (aQ d p).stamp)]),
   (80, .bx true 65 [.v (.bool (aQ d q).dir), .v (.string (aQ d q).data), .v (.string (aQ d q).kept), .v (.bool (aQ d q).loose), .v (.bool (aQ d q).anew), .v (.int .i64 (aQ d q).stamp)])]⟩) (fun _ => [.map r1 kS d.n (tab Itm.val d.L), .map r2 kS d.m (tab qSk d.R)]) (fun _ => True) [0, 1, 2, 8, 9, 10, 11] [0, 64, 80] ?_ ?_
 ·rcases (Decidable.em (vol p = vol q)) with h2 | h2
  ·have e : gP d p q = 0 - ((aQ d q).data.size : Int) := by rw [gP, if_pos h2]; omega
   rw [e]
   refine aZ rfl (fun _ => ?_) (fun h => by simp [h2] at h)
   refine aC (fun K hK => ?_); simp (disch := omega) only [push_cast, ↓Int.cast_ofNat_Int, simprocAttr]; refine hK _ ?_; clear hK K
   refine aB ?_
   exact ⟨(), rfl, rfl, trivial⟩
  ·have e : gP d p q = (aQ d p).data.size - (aQ d q).data.size := by rw [gP, if_neg h2]
   rw [e]
   refine aZ rfl (fun h => by simp [h2] at h) (fun _ => ?_)
   refine aU ?_; refine aB ?_
   exact ⟨(), rfl, rfl, trivial⟩
 rintro - -
 -- is it qRj, has it a home
 rcases (Decidable.em (has d p = true ∧ fA d q = true)).symm with h3 | h3
 ·have hr : dJ d p q = (11, d) := by
   rw [hr0, if_pos]
   cases e1 : has d p
   ·exact .inl rfl
   ·cases e2 : fA d q
    ·exact .inr rfl
    ·exact absurd ⟨e1, e2⟩ h3
  rw [hr]
  cases e1 : has d p with
  | false =>
   refine aA ?_; refine bL ?_; refine aA ?_; refine aC (fun K hK => ?_); simp (disch := omega) only [push_cast, ↓Int.cast_ofNat_Int, simprocAttr]; refine hK _ ?_; clear hK K
   refine aB ?_
   refine bY rfl ?_
   refine aA ?_; refine aC (fun K hK => ?_); simp (disch := omega) only [push_cast, ↓Int.cast_ofNat_Int, simprocAttr]; refine hK _ ?_; clear hK K
   refine aB ?_; refine aY ?_; refine cQ ?_; refine bK ?_
   simp only [aE, aL, yH, yE, yK, yJ, aG, zS, zM, Nat.reduceEqDiff, reduceIte, reduceCtorEq]
   refine bR [0] [] (by first | rfl | simp [bsL, MO.bs]) (by decide) (by decide) (by simp only [push_cast, simprocAttr]) (by simp only [push_cast, simprocAttr]) (by simp only [push_cast, simprocAttr]; rfl) (by simp only [push_cast, simprocAttr]; rfl) ?_
   exact ⟨rfl, rfl, rfl⟩
  | true =>
   have e2 : fA d q = false := by
    cases e2 : fA d q
    ·rfl
    ·exact absurd ⟨e1, e2⟩ h3
   rw [e2] at hu
   refine aA ?_; refine bL ?_; refine aA ?_; refine bF ?_; refine aH 5 (fun K1 hK1 => ?_); simp (disch := omega) only [push_cast, ↓Int.cast_ofNat_Int, simprocAttr]; refine hK1 _ ?_; (try clear hK1 K1)
   refine bW 488 [0] zFd (hu) rfl rfl rfl rfl (by simp only [push_cast, simprocAttr]; exact rfl) (by decide) (by decide) (by decide) (by simp only [push_cast, simprocAttr]; try rfl) (by simp only [push_cast, simprocAttr]; try rfl) ?_
   rintro _ _ _ ⟨rfl, rfl, rfl⟩
   refine aH 3 (fun K1 hK1 => ?_); simp (disch := omega) only [push_cast, ↓Int.cast_ofNat_Int, simprocAttr, aF, aD]; refine hK1 _ ?_; (try clear hK1 K1)
   refine aW ?_
   refine aB ?_
   refine bY rfl ?_
   refine aA ?_; refine aC (fun K hK => ?_); simp (disch := omega) only [push_cast, ↓Int.cast_ofNat_Int, simprocAttr]; refine hK _ ?_; clear hK K
   refine aB ?_; refine aY ?_; refine cQ ?_; refine bK ?_
   simp only [aE, aL, yH, yE, yK, yJ, aG, zS, zM, Nat.reduceEqDiff, reduceIte, reduceCtorEq]
   refine bR [0] [] (by first | rfl | simp [bsL, MO.bs]) (by decide) (by decide) (by simp only [push_cast, simprocAttr]) (by simp only [push_cast, simprocAttr]) (by simp only [push_cast, simprocAttr]; rfl) (by simp only [push_cast, simprocAttr]; rfl) ?_
   exact ⟨rfl, rfl, rfl⟩
 obtain ⟨e1, e2⟩ := h3
 rw [e2] at hu
 rw [e1]
 refine aA ?_; refine bL ?_; refine aA ?_; refine bF ?_; refine aH 5 (fun K1 hK1 => ?_); simp (disch := omega) only [push_cast, ↓Int.cast_ofNat_Int, simprocAttr]; refine hK1 _ ?_; (try clear hK1 K1)
 refine bW 488 [0] zFd (hu) rfl rfl rfl rfl (by simp only [push_cast, simprocAttr]; exact rfl) (by decide) (by decide) (by decide) (by simp only [push_cast, simprocAttr]; try rfl) (by simp only [push_cast, simprocAttr]; try rfl) ?_
 rintro _ _ _ ⟨rfl, rfl, rfl⟩
 refine aH 3 (fun K1 hK1 => ?_); simp (disch := omega) only [push_cast, ↓Int.cast_ofNat_Int, simprocAttr, aF, aD]; refine hK1 _ ?_; (try clear hK1 K1)
 refine aW ?_
 refine aT [0, 1, 2, 8, 10, 11, 55] [0, 64, 80] (by simp only [zZ, zR, zP, zQ, zN, zS, zM, zX, zU, Nat.reduceEqDiff, reduceIte]; exact rfl) ?_
 skip
 refine bB rfl ?_
 -- folders
 rcases (Decidable.em ((aQ d p).dir = true ∨ (aQ d q).dir = true)) with h4 | h4
 ·have hr : dJ d p q = (12, d) := by
   rw [hr0, if_neg (by simp [e1, e2]), if_pos h4]
  rw [hr]
  obtain ⟨b1, hb1⟩ : ∃ b, (aQ d p).dir = b := ⟨_, rfl⟩
  obtain ⟨b2, hb2⟩ : ∃ b, (aQ d q).dir = b := ⟨_, rfl⟩
  rw [hb1, hb2] at h4 ⊢
  cases b1 <;> cases b2 <;> first | (simp at h4; done) | skip
  all_goals
   (repeat first | refine aA ?_ | refine aB ?_ | refine aU ?_ | refine bP ?_ | refine bL ?_); refine aC (fun K hK => ?_); simp (disch := omega) only [push_cast, ↓Int.cast_ofNat_Int, simprocAttr]; refine hK _ ?_; clear hK K
   (repeat first | refine aA ?_ | refine aB ?_ | refine aU ?_ | refine bP ?_ | refine bL ?_)
   refine bY rfl ?_
   (repeat first | refine aA ?_ | refine aB ?_ | refine aU ?_ | refine bP ?_ | refine bL ?_); refine aC (fun K hK => ?_); simp (disch := omega) only [push_cast, ↓Int.cast_ofNat_Int, simprocAttr]; refine hK _ ?_; clear hK K
   (repeat first | refine bK ?_ | refine dZ ?_ | refine iR ?_ | refine qDk rfl ?_ | refine cQ ?_ | refine bP ?_ | refine aA ?_ | refine aB ?_ | refine aU ?_ | refine iX ?_ | refine aY ?_)
   simp only [aE, aL, yH, yE, yK, yJ, aG, zS, zM, Nat.reduceEqDiff, reduceIte, reduceCtorEq]
   refine bR [0] [] (by first | rfl | simp [bsL, MO.bs]) (by decide) (by decide) (by simp only [push_cast, simprocAttr]) (by simp only [push_cast, simprocAttr]) (by simp only [push_cast, simprocAttr]; rfl) (by simp only [push_cast, simprocAttr]; rfl) ?_
   exact ⟨rfl, rfl, rfl⟩
 have h5 : (aQ d p).dir = false ∧ (aQ d q).dir = false := by
  cases hb1 : (aQ d p).dir <;> cases hb2 : (aQ d q).dir <;> simp_all
 obtain ⟨f1, f2⟩ := h5
 rw [f1, f2]
 refine aA ?_; refine aC (fun K hK => ?_); simp (disch := omega) only [push_cast, ↓Int.cast_ofNat_Int, simprocAttr]; refine hK _ ?_; clear hK K
 refine aT [0, 1, 2, 8, 10, 11, 64] [0, 64, 80] (by simp only [zZ, zR, zP, zQ, zN, zS, zM, zX, zU, Nat.reduceEqDiff, reduceIte]; exact rfl) ?_
 skip
 refine bB rfl ?_
 -- iZ
 rcases (Decidable.em (p ≠ q ∧ iZ d q (gP d p q) = false)) with h6 | h6
 ·have hr : dJ d p q = (13, d) := by
   rw [hr0, if_neg (by simp [e1, e2]), if_neg h4, if_pos h6]
  rw [hr]
  have hne : decide (p = q) = false := decide_eq_false h6.1
  rw [h6.2] at hrm
  refine aA ?_; refine bF ?_; refine aH 7 (fun K1 hK1 => ?_); simp (disch := omega) only [push_cast, ↓Int.cast_ofNat_Int, simprocAttr, hne]; refine hK1 _ ?_; (try clear hK1 K1)
  refine bW 632 [0] zGy (hrm) rfl rfl rfl rfl (by simp only [push_cast, simprocAttr]; exact rfl) (by decide) (by decide) (by decide) (by simp only [push_cast, simprocAttr]; try rfl) (by simp only [push_cast, simprocAttr]; try rfl) ?_
  rintro _ _ _ ⟨rfl, rfl, rfl⟩
  refine aH 3 (fun K1 hK1 => ?_); simp (disch := omega) only [push_cast, ↓Int.cast_ofNat_Int, simprocAttr, aF, aD]; refine hK1 _ ?_; (try clear hK1 K1)
  refine aW ?_
  refine aB ?_
  refine bY rfl ?_
  refine aA ?_; refine aC (fun K hK => ?_); simp (disch := omega) only [push_cast, ↓Int.cast_ofNat_Int, simprocAttr]; refine hK _ ?_; clear hK K
  refine aB ?_; refine aY ?_; refine cQ ?_; refine bK ?_
  simp only [aE, aL, yH, yE, yK, yJ, aG, zS, zM, Nat.reduceEqDiff, reduceIte, reduceCtorEq]
  refine bR [0] [] (by first | rfl | simp [bsL, MO.bs]) (by decide) (by decide) (by simp only [push_cast, simprocAttr]) (by simp only [push_cast, simprocAttr]) (by simp only [push_cast, simprocAttr]; rfl) (by simp only [push_cast, simprocAttr]; rfl) ?_
  exact ⟨rfl, rfl, rfl⟩
 have hr1 : dJ d p q = if (aS d).1 ≠ 0 then aS d else (0, iY { (aS d).2 with L := del p d.L } q (aQ d p)) := by
  rw [hr0, if_neg (by simp [e1, e2]), if_neg h4, if_neg h6]
 rcases (Decidable.em (p = q)) with h7 | h7
 ·have he : decide (p = q) = true := decide_eq_true h7
  refine aA ?_; refine aC (fun K hK => ?_); simp (disch := omega) only [push_cast, ↓Int.cast_ofNat_Int, simprocAttr, he]; refine hK _ ?_; clear hK K
  refine aT [0, 1, 2, 8, 71] [0, 64] (by simp only [zZ, zR, zP, zQ, zN, zS, zM, zX, zU, Nat.reduceEqDiff, reduceIte]; exact rfl) ?_
  skip
  refine bB rfl ?_
  refine aU ?_; refine aA ?_; refine aA ?_
  refine aC (fun K hK => ?_); simp (disch := omega) only [push_cast, ↓Int.cast_ofNat_Int, simprocAttr]
  refine eC 664 [0] qWq (ht) rfl (by decide) (by decide) (by simp only [push_cast, simprocAttr]; try rfl) (by simp only [push_cast, simprocAttr]; try rfl) ?_
  rintro _ _ ⟨rfl, rfl⟩
  refine aM ?_; simp (disch := omega) only [push_cast, ↓Int.cast_ofNat_Int, simprocAttr]
  refine hK _ ?_; clear hK K
  refine aA ?_; refine aC (fun K hK => ?_); simp (disch := omega) only [push_cast, ↓Int.cast_ofNat_Int, simprocAttr]; refine hK _ ?_; clear hK K
  refine aT [0, 1, 2, 8, 12, 85] [0, 64] (by simp only [zZ, zR, zP, zQ, zN, zS, zM, zX, zU, Nat.reduceEqDiff, reduceIte]; exact rfl) ?_
  rcases (fB d).symm with ⟨h8, h9⟩ | ⟨h8, h9⟩
  ·have hr : dJ d p q = aS d := by rw [hr1, if_pos (by simp [h8])]
   rw [hr]
   refine aZ rfl (fun _ => ?_) (fun h => by simp [h8] at h)
   refine aA ?_; refine aC (fun K hK => ?_); simp (disch := omega) only [push_cast, ↓Int.cast_ofNat_Int, simprocAttr]; refine hK _ ?_; clear hK K
   refine aB ?_; refine aY ?_; refine bK ?_
   simp only [aE, aL, yH, yE, yK, yJ, aG, zS, zM, Nat.reduceEqDiff, reduceIte, reduceCtorEq]
   refine bR [0] [] (by first | rfl | simp [bsL, MO.bs]) (by decide) (by decide) (by simp only [push_cast, simprocAttr]) (by simp only [push_cast, simprocAttr]) (by simp only [push_cast, simprocAttr]; rfl) (by simp only [push_cast, simprocAttr]; rfl) ?_
   exact ⟨rfl, rfl, by rw [gZ]; rfl⟩
  have hr : dJ d p q = (0, iY { (aS d).2 with L := del p d.L } q (aQ d p)) := by rw [hr1, if_neg (by simp [h8])]
  rw [hr]
  refine aZ rfl (fun h => by simp [h8] at h) (fun _ => ?_)
  refine aU ?_; refine aA ?_; refine bF ?_; refine aH 5 (fun K1 hK1 => ?_); simp (disch := omega) only [push_cast, ↓Int.cast_ofNat_Int, simprocAttr]; refine hK1 _ ?_; (try clear hK1 K1)
  refine qRc (i := 0) mtI rfl rfl rfl rfl rfl rfl (mx hs) ?_
  refine aH 0 (fun K1 hK1 => ?_); simp (disch := omega) only [push_cast, ↓Int.cast_ofNat_Int, simprocAttr, aF, aD]; refine hK1 _ ?_; (try clear hK1 K1)
  refine aW ?_
  rw [dB] at hse
  simp only [a2, a3, a4, ← qRk, eQ, f1] at hse
  refine aA ?_; refine bF ?_; refine aH 3 (fun K1 hK1 => ?_); simp (disch := omega) only [push_cast, ↓Int.cast_ofNat_Int, simprocAttr]; refine hK1 _ ?_; (try clear hK1 K1)
  refine bW 760 [0] zBd (hse) rfl rfl rfl rfl (by simp only [push_cast, simprocAttr]; exact rfl) (by decide) (by decide) (by decide) (by simp only [push_cast, simprocAttr]; try rfl) (by simp only [push_cast, simprocAttr]; try rfl) ?_
  rintro _ _ _ ⟨rfl, rfl, rfl⟩
  refine aH 0 (fun K1 hK1 => ?_); simp (disch := omega) only [push_cast, ↓Int.cast_ofNat_Int, simprocAttr, aF, aD]; refine hK1 _ ?_; (try clear hK1 K1)
  refine aW ?_
  refine aA ?_; refine aC (fun K hK => ?_); simp (disch := omega) only [push_cast, ↓Int.cast_ofNat_Int, simprocAttr]; refine hK _ ?_; clear hK K
  refine aB ?_; refine aY ?_
  simp only [aE, aL, yH, yE, yK, yJ, aG, zS, zM, Nat.reduceEqDiff, reduceIte, reduceCtorEq]
  refine bR [0] [] (by first | rfl | simp [bsL, MO.bs]) (by decide) (by decide) (by simp only [push_cast, simprocAttr]) (by simp only [push_cast, simprocAttr]) (by simp only [push_cast, simprocAttr]; rfl) (by simp only [push_cast, simprocAttr]; rfl) ?_
  exact ⟨rfl, rfl, by simp only [Dk.maps, iY, a2, a3, a4]⟩
 ·have hne : decide (p = q) = false := decide_eq_false h7
  have hro : iZ d q (gP d p q) = true := by
   cases e : iZ d q (gP d p q)
   ·exact absurd ⟨h7, e⟩ h6
   ·rfl
  rw [hro] at hrm
  refine aA ?_; refine bF ?_; refine aH 7 (fun K1 hK1 => ?_); simp (disch := omega) only [push_cast, ↓Int.cast_ofNat_Int, simprocAttr, hne]; refine hK1 _ ?_; (try clear hK1 K1)
  refine bW 632 [0] zGy (hrm) rfl rfl rfl rfl (by simp only [push_cast, simprocAttr]; exact rfl) (by decide) (by decide) (by decide) (by simp only [push_cast, simprocAttr]; try rfl) (by simp only [push_cast, simprocAttr]; try rfl) ?_
  rintro _ _ _ ⟨rfl, rfl, rfl⟩
  refine aH 3 (fun K1 hK1 => ?_); simp (disch := omega) only [push_cast, ↓Int.cast_ofNat_Int, simprocAttr, aF, aD]; refine hK1 _ ?_; (try clear hK1 K1)
  refine aW ?_
  refine aT [0, 1, 2, 8, 71] [0, 64] (by simp only [zZ, zR, zP, zQ, zN, zS, zM, zX, zU, Nat.reduceEqDiff, reduceIte]; exact rfl) ?_
  skip
  refine bB rfl ?_
  refine aU ?_; refine aA ?_; refine aA ?_
  refine aC (fun K hK => ?_); simp (disch := omega) only [push_cast, ↓Int.cast_ofNat_Int, simprocAttr]
  refine eC 664 [0] qWq (ht) rfl (by decide) (by decide) (by simp only [push_cast, simprocAttr]; try rfl) (by simp only [push_cast, simprocAttr]; try rfl) ?_
  rintro _ _ ⟨rfl, rfl⟩
  refine aM ?_; simp (disch := omega) only [push_cast, ↓Int.cast_ofNat_Int, simprocAttr]
  refine hK _ ?_; clear hK K
  refine aA ?_; refine aC (fun K hK => ?_); simp (disch := omega) only [push_cast, ↓Int.cast_ofNat_Int, simprocAttr]; refine hK _ ?_; clear hK K
  refine aT [0, 1, 2, 8, 12, 85] [0, 64] (by simp only [zZ, zR, zP, zQ, zN, zS, zM, zX, zU, Nat.reduceEqDiff, reduceIte]; exact rfl) ?_
  rcases (fB d).symm with ⟨h8, h9⟩ | ⟨h8, h9⟩
  ·have hr : dJ d p q = aS d := by rw [hr1, if_pos (by simp [h8])]
   rw [hr]
   refine aZ rfl (fun _ => ?_) (fun h => by simp [h8] at h)
   refine aA ?_; refine aC (fun K hK => ?_); simp (disch := omega) only [push_cast, ↓Int.cast_ofNat_Int, simprocAttr]; refine hK _ ?_; clear hK K
   refine aB ?_; refine aY ?_; refine bK ?_
   simp only [aE, aL, yH, yE, yK, yJ, aG, zS, zM, Nat.reduceEqDiff, reduceIte, reduceCtorEq]
   refine bR [0] [] (by first | rfl | simp [bsL, MO.bs]) (by decide) (by decide) (by simp only [push_cast, simprocAttr]) (by simp only [push_cast, simprocAttr]) (by simp only [push_cast, simprocAttr]; rfl) (by simp only [push_cast, simprocAttr]; rfl) ?_
   exact ⟨rfl, rfl, by rw [gZ]; rfl⟩
  have hr : dJ d p q = (0, iY { (aS d).2 with L := del p d.L } q (aQ d p)) := by rw [hr1, if_neg (by simp [h8])]
  rw [hr]
  refine aZ rfl (fun h => by simp [h8] at h) (fun _ => ?_)
  refine aU ?_; refine aA ?_; refine bF ?_; refine aH 5 (fun K1 hK1 => ?_); simp (disch := omega) only [push_cast, ↓Int.cast_ofNat_Int, simprocAttr]; refine hK1 _ ?_; (try clear hK1 K1)
  refine qRc (i := 0) mtI rfl rfl rfl rfl rfl rfl (mx hs) ?_
  refine aH 0 (fun K1 hK1 => ?_); simp (disch := omega) only [push_cast, ↓Int.cast_ofNat_Int, simprocAttr, aF, aD]; refine hK1 _ ?_; (try clear hK1 K1)
  refine aW ?_
  rw [dB] at hse
  simp only [a2, a3, a4, ← qRk, eQ, f1] at hse
  refine aA ?_; refine bF ?_; refine aH 3 (fun K1 hK1 => ?_); simp (disch := omega) only [push_cast, ↓Int.cast_ofNat_Int, simprocAttr]; refine hK1 _ ?_; (try clear hK1 K1)
  refine bW 760 [0] zBd (hse) rfl rfl rfl rfl (by simp only [push_cast, simprocAttr]; exact rfl) (by decide) (by decide) (by decide) (by simp only [push_cast, simprocAttr]; try rfl) (by simp only [push_cast, simprocAttr]; try rfl) ?_
  rintro _ _ _ ⟨rfl, rfl, rfl⟩
  refine aH 0 (fun K1 hK1 => ?_); simp (disch := omega) only [push_cast, ↓Int.cast_ofNat_Int, simprocAttr, aF, aD]; refine hK1 _ ?_; (try clear hK1 K1)
  refine aW ?_
  refine aA ?_; refine aC (fun K hK => ?_); simp (disch := omega) only [push_cast, ↓Int.cast_ofNat_Int, simprocAttr]; refine hK _ ?_; clear hK K
  refine aB ?_; refine aY ?_
  simp only [aE, aL, yH, yE, yK, yJ, aG, zS, zM, Nat.reduceEqDiff, reduceIte, reduceCtorEq]
  refine bR [0] [] (by first | rfl | simp [bsL, MO.bs]) (by decide) (by decide) (by simp only [push_cast, simprocAttr]) (by simp only [push_cast, simprocAttr]) (by simp only [push_cast, simprocAttr]; rfl) (by simp only [push_cast, simprocAttr]; rfl) ?_
  exact ⟨rfl, rfl, by simp only [Dk.maps, iY, a2, a3, a4]⟩
end Go.Proofs.YtojolcpblacjjaaGreatDoor
