/-
  The disk's calls: Rename.
-/
import Derived.Test.YtojolcpblacjjaaGreatDoorDkG
set_option linter.unusedSimpArgs false
set_option linter.unusedVariables false
set_option maxRecDepth 20000
namespace Go.Proofs.YtojolcpblacjjaaGreatDoor
open Go Go.Eng Go.RowKit Go.Tr Go.Dk
theorem qV8 {d : Dk} {a b : ByteArray} {e : Int} (he : (if may d a 1 = 0 then may d b 1 else may d a 1) = e) (h : e ≠ 0) : cU d a b = (e, d) := by
 simp only [cU, he]; rw [if_pos h]
def gA (d : Dk) (a b : ByteArray) : Int := if vol a = vol b then -((aP d b).data.size : Int) else (aP d a).data.size - (aP d b).data.size
theorem zG6 {d : Dk} {a b : ByteArray} (h1 : may d a 1 = 0) (h2 : may d b 1 = 0) : cU d a b = if has d a = false ∨ eJ d b = false then (11, d) else if (aP d a).dir = true ∨ (aP d b).dir = true then (12, d) else if a ≠ b ∧ gX d b (gA d a b) = false then (13, d) else
   if (aS d).1 ≠ 0 then aS d else (0, gS { (aS d).2 with L := del a d.L } b (aP d a)) := by
 simp only [cU, h1, h2, if_true, ne_eq, not_true, if_false, gA]
theorem qP8 (L : List (ByteArray × Itm)) (p : ByteArray) : (tab Itm.val L).del p.data.toList = tab Itm.val (del p L) := qV1 Itm.val L p
set_option maxHeartbeats 4000000 in
theorem qQs (d : Dk) (B : Int) (hd : d.Ok B) (hB : B ≤ 1099511627776) (p q : ByteArray) (r1 r2 : Nat) (hs : p.size ≤ 1048576) (hs2 : q.size ≤ 1048576) : HFunM Tryz.prog 16 [.ptr 0 6 0 0, .v (.string p), .v (.string q)] [(0, .bx false 47 (d.cells r1 r2))] (d.maps kS r1 r2) (fun h st g => h = .v (.int .i64 (cU d p q).1) ∧ st = [(0, .bx false 47 ((cU d p q).2.cells r1 r2))] ∧ g = (cU d p q).2.maps kS r1 r2) := by
 refine jA (N := 96) Tryz.func16 rfl Tryz.ntmps16 Tryz.results16 (by simp) ?_
 have hm := qLh d p 1 r1 r2 hs
 have hm2 := qLh d q 1 r1 r2 hs2
 have hu := qJr d q r1 r2 hs2
 have hto := hd.size
 have hnn := uS d.L
 have hit := iW d p
 have hit2 := iW d q
 have ht := qAq d r1 r2 ⟨hd.steps.1, by have := hd.steps.2; omega⟩ hd.armed
 have hmo : -1099511627776 ≤ gA d p q ∧ gA d p q ≤ 1099511627776 := by unfold gA; split <;> omega
 have hrm := qUf d B hd hB q (gA d p q) r1 r2 hs2 hmo
 have hn : d.n < maxLen := by have := hd.n; simp only [maxLen]; omega
 have hst := hd.stamps
 obtain ⟨a1, a2, a3, a4, a5⟩ := dA d
 have hse := qQn { (aS d).2 with L := del p d.L } q (aP d p) r1 r2 hs2 (by show (aS d).2.n < _; rw [a3]; exact hn) (by show 0 ≤ (aS d).2.stamps ∧ (aS d).2.stamps < _; rw [a5]; omega)
 have hv := qVx p hs
 have hv2 := qVx q hs2
 simp only [bJ] at hm hm2 hu ht hrm hse ⊢
 rw [cV] at hu hrm hse ⊢
 refine aA ?_; refine aC (fun K hK => ?_); simp (disch := omega) only [push_cast, ↓Int.cast_ofNat_Int, simprocAttr]; refine hK _ ?_; clear hK K
 refine aA ?_; refine aC (fun K hK => ?_); simp (disch := omega) only [push_cast, ↓Int.cast_ofNat_Int, simprocAttr]
 refine dU 120 [0] zAd (hm) rfl (by decide) (by decide) (by simp only [push_cast, simprocAttr]; try rfl) (by simp only [push_cast, simprocAttr]; try rfl) ?_
 rintro _ _ ⟨rfl, rfl⟩
 refine aN ?_; simp (disch := omega) only [push_cast, ↓Int.cast_ofNat_Int, simprocAttr]
 refine hK _ ?_; clear hK K
 refine aA ?_; refine aA ?_; refine aC (fun K hK => ?_); simp (disch := omega) only [push_cast, ↓Int.cast_ofNat_Int, simprocAttr]; refine hK _ ?_; clear hK K
 refine aU [0, 1, 2, 7, 17] [0] (by simp only [zZ, zR, zP, zQ, zN, zS, zM, zX, zU, Nat.reduceEqDiff, reduceIte]; exact rfl) ?_
 rcases (Decidable.em (may d p 1 = 0)).symm with h0 | h0
 ·have hr := qV8 (d := d) (a := p) (b := q) (e := may d p 1) (by rw [if_neg h0]) h0
  rw [hr]
  skip
  refine bA rfl (fun h => by simp [h0] at h) (fun _ => ?_)
  refine aW ?_; refine aA ?_; refine aA ?_; refine aC (fun K hK => ?_); simp (disch := omega) only [push_cast, ↓Int.cast_ofNat_Int, simprocAttr]; refine hK _ ?_; clear hK K
  refine aB ?_
  refine bA rfl (fun _ => ?_) (fun h => by simp [h0] at h)
  refine aA ?_; refine aC (fun K hK => ?_); simp (disch := omega) only [push_cast, ↓Int.cast_ofNat_Int, simprocAttr]; refine hK _ ?_; clear hK K
  refine aB ?_; refine aV ?_; refine bH ?_
  simp only [aD, aK, yH, yE, yK, yJ, aF, zS, zM, Nat.reduceEqDiff, reduceIte, reduceCtorEq]
  refine bP [0] [] (by first | rfl | simp [bsL, MO.bs]) (by decide) (by decide) (by simp only [push_cast, simprocAttr]) (by simp only [push_cast, simprocAttr]) (by simp only [push_cast, simprocAttr]; rfl) (by simp only [push_cast, simprocAttr]; rfl) ?_
  exact ⟨rfl, rfl, rfl⟩
 skip
 refine bA rfl (fun _ => ?_) (fun h => by simp [h0] at h)
 refine aC (fun K hK => ?_); simp (disch := omega) only [push_cast, ↓Int.cast_ofNat_Int, simprocAttr]
 refine dU 160 [0] zAd (hm2) rfl (by decide) (by decide) (by simp only [push_cast, simprocAttr]; try rfl) (by simp only [push_cast, simprocAttr]; try rfl) ?_
 rintro _ _ ⟨rfl, rfl⟩
 refine aN ?_; simp (disch := omega) only [push_cast, ↓Int.cast_ofNat_Int, simprocAttr]
 refine hK _ ?_; clear hK K
 refine aA ?_; refine aA ?_; refine aC (fun K hK => ?_); simp (disch := omega) only [push_cast, ↓Int.cast_ofNat_Int, simprocAttr]; refine hK _ ?_; clear hK K
 refine aU [0, 1, 2, 7, 22] [0] (by simp only [zZ, zR, zP, zQ, zN, zS, zM, zX, zU, Nat.reduceEqDiff, reduceIte]; exact rfl) ?_
 rcases (Decidable.em (may d q 1 = 0)).symm with h1 | h1
 ·have hr := qV8 (d := d) (a := p) (b := q) (e := may d q 1) (by rw [if_pos h0]) h1
  rw [hr]
  skip
  refine bA rfl (fun _ => ?_) (fun h => by simp [h1] at h)
  refine aA ?_; refine aC (fun K hK => ?_); simp (disch := omega) only [push_cast, ↓Int.cast_ofNat_Int, simprocAttr]; refine hK _ ?_; clear hK K
  refine aB ?_; refine aV ?_; refine bH ?_
  simp only [aD, aK, yH, yE, yK, yJ, aF, zS, zM, Nat.reduceEqDiff, reduceIte, reduceCtorEq]
  refine bP [0] [] (by first | rfl | simp [bsL, MO.bs]) (by decide) (by decide) (by simp only [push_cast, simprocAttr]) (by simp only [push_cast, simprocAttr]) (by simp only [push_cast, simprocAttr]; rfl) (by simp only [push_cast, simprocAttr]; rfl) ?_
  exact ⟨rfl, rfl, rfl⟩
 have hr0 := zG6 h0 h1
 skip
 refine bA rfl (fun h => by simp [h1] at h) (fun _ => ?_)
 refine aW ?_; refine aA ?_; refine bD ?_; refine aH 5 (fun K1 hK1 => ?_); simp (disch := omega) only [push_cast, ↓Int.cast_ofNat_Int, simprocAttr]; refine hK1 _ ?_; (try clear hK1 K1)
 refine dZ (i := 0) mtI rfl rfl rfl rfl rfl rfl (mx hs) ?_
 refine aH 6 (fun K1 hK1 => ?_); simp (disch := omega) only [push_cast, ↓Int.cast_ofNat_Int, simprocAttr, aG, aE, dY, kN, eD]; refine hK1 _ ?_; (try clear hK1 K1)
 refine aY ?_
 have hxd : (aT d.L p).getD itm0 = aP d p := rfl
 have hxs : (aT d.L p).isSome = has d p := rfl
 rw [hxd, hxs]
 refine aU [0, 1, 2, 8, 9] [0, 64] (by simp only [zZ, zR, zP, zQ, zN, zS, zM, zX, zU, Nat.reduceEqDiff, reduceIte]; exact rfl) ?_
 refine aA ?_; refine bD ?_; refine aH 5 (fun K1 hK1 => ?_); simp (disch := omega) only [push_cast, ↓Int.cast_ofNat_Int, simprocAttr]; refine hK1 _ ?_; (try clear hK1 K1)
 refine dZ (i := 0) mtI rfl rfl rfl rfl rfl rfl (mx hs2) ?_
 refine aH 2 (fun K1 hK1 => ?_); simp (disch := omega) only [push_cast, ↓Int.cast_ofNat_Int, simprocAttr, aG, aE, dY, eD]; refine hK1 _ ?_; (try clear hK1 K1)
 refine aY ?_
 have hxd2 : (aT d.L q).getD itm0 = aP d q := rfl
 rw [hxd2]
 refine aU [0, 1, 2, 8, 9, 10] [0, 64, 80] (by simp only [zZ, zR, zP, zQ, zN, zS, zM, zX, zU, Nat.reduceEqDiff, reduceIte]; exact rfl) ?_
 refine aA ?_; refine aC (fun K hK => ?_); simp (disch := omega) only [push_cast, ↓Int.cast_ofNat_Int, simprocAttr]; refine hK _ ?_; clear hK K
 refine aA ?_; refine aA ?_; refine aC (fun K hK => ?_); simp (disch := omega) only [push_cast, ↓Int.cast_ofNat_Int, simprocAttr]
 refine cG zEd hv (.cons (.v _) .nil) ?_
 with_reducible refine aN ?_; simp (disch := omega) only [push_cast, ↓Int.cast_ofNat_Int, simprocAttr]
 refine cG zEd hv2 (.cons (.v _) .nil) ?_
 with_reducible refine aN ?_; simp (disch := omega) only [push_cast, ↓Int.cast_ofNat_Int, simprocAttr]
 refine hK _ ?_; clear hK K
 refine aU [0, 1, 2, 8, 9, 10, 11, 50] [0, 64, 80] (by simp only [zZ, zR, zP, zQ, zN, zS, zM, zX, zU, Nat.reduceEqDiff, reduceIte]; exact rfl) ?_
 refine qAj (ι := Unit) (fun _ => ⟨[(0, .ptr 0 6 0 0), (1, .v (.string p)), (2, .v (.string q)), (8, .ptr 64 6 0 0), (9, .v (.bool (has d p))), (10, .ptr 80 6 0 0), (11, .v (.int .i64 (gA d p q)))], [(0, .bx false 47 [.v (.map (some r1)), .v (.map (some r2)), .v (.int .i64 d.steps), .v (.int .i64 d.stamps), .v (.int .i64 d.armed), .v (.bool d.down)]),
   (64, .bx true 65 [.v (.bool (aP d p).dir), .v (.string (aP d p).data), .v (.string (aP d p).kept), .v (.bool (aP d p).loose), .v (.bool (aP d p).anew), .v (.int .i64 (aP d p).stamp)]),
   (80, .bx true 65 [.v (.bool (aP d q).dir), .v (.string (aP d q).data), .v (.string (aP d q).kept), .v (.bool (aP d q).loose), .v (.bool (aP d q).anew), .v (.int .i64 (aP d q).stamp)])]⟩) (fun _ => [.map r1 kS d.n (tab Itm.val d.L), .map r2 kS d.m (tab qQ7 d.R)]) (fun _ => True) [0, 1, 2, 8, 9, 10, 11] [0, 64, 80] ?_ ?_
 ·rcases (Decidable.em (vol p = vol q)) with h2 | h2
  ·have e : gA d p q = 0 - ((aP d q).data.size : Int) := by rw [gA, if_pos h2]; omega
   rw [e]
   refine bA rfl (fun _ => ?_) (fun h => by simp [h2] at h)
   refine aC (fun K hK => ?_); simp (disch := omega) only [push_cast, ↓Int.cast_ofNat_Int, simprocAttr]; refine hK _ ?_; clear hK K
   refine aB ?_
   exact ⟨(), rfl, rfl, trivial⟩
  ·have e : gA d p q = (aP d p).data.size - (aP d q).data.size := by rw [gA, if_neg h2]
   rw [e]
   refine bA rfl (fun h => by simp [h2] at h) (fun _ => ?_)
   refine aW ?_; refine aB ?_
   exact ⟨(), rfl, rfl, trivial⟩
 rintro - -
 -- is it qP7, has it a home
 rcases (Decidable.em (has d p = true ∧ eJ d q = true)).symm with h3 | h3
 ·have hr : cU d p q = (11, d) := by
   rw [hr0, if_pos]
   cases e1 : has d p
   ·exact .inl rfl
   ·cases e2 : eJ d q
    ·exact .inr rfl
    ·exact absurd ⟨e1, e2⟩ h3
  rw [hr]
  cases e1 : has d p with
  | false =>
   refine aA ?_; refine bQ ?_; refine aA ?_; refine aC (fun K hK => ?_); simp (disch := omega) only [push_cast, ↓Int.cast_ofNat_Int, simprocAttr]; refine hK _ ?_; clear hK K
   refine aB ?_
   refine bT rfl ?_
   refine aA ?_; refine aC (fun K hK => ?_); simp (disch := omega) only [push_cast, ↓Int.cast_ofNat_Int, simprocAttr]; refine hK _ ?_; clear hK K
   refine aB ?_; refine aV ?_; refine cK ?_; refine bH ?_
   simp only [aD, aK, yH, yE, yK, yJ, aF, zS, zM, Nat.reduceEqDiff, reduceIte, reduceCtorEq]
   refine bP [0] [] (by first | rfl | simp [bsL, MO.bs]) (by decide) (by decide) (by simp only [push_cast, simprocAttr]) (by simp only [push_cast, simprocAttr]) (by simp only [push_cast, simprocAttr]; rfl) (by simp only [push_cast, simprocAttr]; rfl) ?_
   exact ⟨rfl, rfl, rfl⟩
  | true =>
   have e2 : eJ d q = false := by
    cases e2 : eJ d q
    ·rfl
    ·exact absurd ⟨e1, e2⟩ h3
   rw [e2] at hu
   refine aA ?_; refine bQ ?_; refine aA ?_; refine bD ?_; refine aH 5 (fun K1 hK1 => ?_); simp (disch := omega) only [push_cast, ↓Int.cast_ofNat_Int, simprocAttr]; refine hK1 _ ?_; (try clear hK1 K1)
   refine bL 488 [0] zEe (hu) rfl rfl rfl rfl (by simp only [push_cast, simprocAttr]; exact rfl) (by decide) (by decide) (by decide) (by simp only [push_cast, simprocAttr]; try rfl) (by simp only [push_cast, simprocAttr]; try rfl) ?_
   rintro _ _ _ ⟨rfl, rfl, rfl⟩
   refine aH 3 (fun K1 hK1 => ?_); simp (disch := omega) only [push_cast, ↓Int.cast_ofNat_Int, simprocAttr, aG, aE]; refine hK1 _ ?_; (try clear hK1 K1)
   refine aY ?_
   refine aB ?_
   refine bT rfl ?_
   refine aA ?_; refine aC (fun K hK => ?_); simp (disch := omega) only [push_cast, ↓Int.cast_ofNat_Int, simprocAttr]; refine hK _ ?_; clear hK K
   refine aB ?_; refine aV ?_; refine cK ?_; refine bH ?_
   simp only [aD, aK, yH, yE, yK, yJ, aF, zS, zM, Nat.reduceEqDiff, reduceIte, reduceCtorEq]
   refine bP [0] [] (by first | rfl | simp [bsL, MO.bs]) (by decide) (by decide) (by simp only [push_cast, simprocAttr]) (by simp only [push_cast, simprocAttr]) (by simp only [push_cast, simprocAttr]; rfl) (by simp only [push_cast, simprocAttr]; rfl) ?_
   exact ⟨rfl, rfl, rfl⟩
 obtain ⟨e1, e2⟩ := h3
 rw [e2] at hu
 rw [e1]
 refine aA ?_; refine bQ ?_; refine aA ?_; refine bD ?_; refine aH 5 (fun K1 hK1 => ?_); simp (disch := omega) only [push_cast, ↓Int.cast_ofNat_Int, simprocAttr]; refine hK1 _ ?_; (try clear hK1 K1)
 refine bL 488 [0] zEe (hu) rfl rfl rfl rfl (by simp only [push_cast, simprocAttr]; exact rfl) (by decide) (by decide) (by decide) (by simp only [push_cast, simprocAttr]; try rfl) (by simp only [push_cast, simprocAttr]; try rfl) ?_
 rintro _ _ _ ⟨rfl, rfl, rfl⟩
 refine aH 3 (fun K1 hK1 => ?_); simp (disch := omega) only [push_cast, ↓Int.cast_ofNat_Int, simprocAttr, aG, aE]; refine hK1 _ ?_; (try clear hK1 K1)
 refine aY ?_
 refine aU [0, 1, 2, 8, 10, 11, 55] [0, 64, 80] (by simp only [zZ, zR, zP, zQ, zN, zS, zM, zX, zU, Nat.reduceEqDiff, reduceIte]; exact rfl) ?_
 skip
 refine bE rfl ?_
 -- folders
 rcases (Decidable.em ((aP d p).dir = true ∨ (aP d q).dir = true)) with h4 | h4
 ·have hr : cU d p q = (12, d) := by
   rw [hr0, if_neg (by simp [e1, e2]), if_pos h4]
  rw [hr]
  obtain ⟨b1, hb1⟩ : ∃ b, (aP d p).dir = b := ⟨_, rfl⟩
  obtain ⟨b2, hb2⟩ : ∃ b, (aP d q).dir = b := ⟨_, rfl⟩
  rw [hb1, hb2] at h4 ⊢
  cases b1 <;> cases b2 <;> first | (simp at h4; done) | skip
  all_goals
   (repeat first | refine aA ?_ | refine aB ?_ | refine aW ?_ | refine bR ?_ | refine bQ ?_); refine aC (fun K hK => ?_); simp (disch := omega) only [push_cast, ↓Int.cast_ofNat_Int, simprocAttr]; refine hK _ ?_; clear hK K
   (repeat first | refine aA ?_ | refine aB ?_ | refine aW ?_ | refine bR ?_ | refine bQ ?_)
   refine bT rfl ?_
   (repeat first | refine aA ?_ | refine aB ?_ | refine aW ?_ | refine bR ?_ | refine bQ ?_); refine aC (fun K hK => ?_); simp (disch := omega) only [push_cast, ↓Int.cast_ofNat_Int, simprocAttr]; refine hK _ ?_; clear hK K
   (repeat first | refine bH ?_ | refine fB ?_ | refine kK ?_ | refine qBb rfl ?_ | refine cK ?_ | refine bR ?_ | refine aA ?_ | refine aB ?_ | refine aW ?_ | refine kR ?_ | refine aV ?_)
   simp only [aD, aK, yH, yE, yK, yJ, aF, zS, zM, Nat.reduceEqDiff, reduceIte, reduceCtorEq]
   refine bP [0] [] (by first | rfl | simp [bsL, MO.bs]) (by decide) (by decide) (by simp only [push_cast, simprocAttr]) (by simp only [push_cast, simprocAttr]) (by simp only [push_cast, simprocAttr]; rfl) (by simp only [push_cast, simprocAttr]; rfl) ?_
   exact ⟨rfl, rfl, rfl⟩
 have h5 : (aP d p).dir = false ∧ (aP d q).dir = false := by
  cases hb1 : (aP d p).dir <;> cases hb2 : (aP d q).dir <;> simp_all
 obtain ⟨f1, f2⟩ := h5
 rw [f1, f2]
 refine aA ?_; refine aC (fun K hK => ?_); simp (disch := omega) only [push_cast, ↓Int.cast_ofNat_Int, simprocAttr]; refine hK _ ?_; clear hK K
 refine aU [0, 1, 2, 8, 10, 11, 64] [0, 64, 80] (by simp only [zZ, zR, zP, zQ, zN, zS, zM, zX, zU, Nat.reduceEqDiff, reduceIte]; exact rfl) ?_
 skip
 refine bE rfl ?_
 -- gX
 rcases (Decidable.em (p ≠ q ∧ gX d q (gA d p q) = false)) with h6 | h6
 ·have hr : cU d p q = (13, d) := by
   rw [hr0, if_neg (by simp [e1, e2]), if_neg h4, if_pos h6]
  rw [hr]
  have hne : decide (p = q) = false := decide_eq_false h6.1
  rw [h6.2] at hrm
  refine aA ?_; refine bD ?_; refine aH 7 (fun K1 hK1 => ?_); simp (disch := omega) only [push_cast, ↓Int.cast_ofNat_Int, simprocAttr, hne]; refine hK1 _ ?_; (try clear hK1 K1)
  refine bL 632 [0] zF4 (hrm) rfl rfl rfl rfl (by simp only [push_cast, simprocAttr]; exact rfl) (by decide) (by decide) (by decide) (by simp only [push_cast, simprocAttr]; try rfl) (by simp only [push_cast, simprocAttr]; try rfl) ?_
  rintro _ _ _ ⟨rfl, rfl, rfl⟩
  refine aH 3 (fun K1 hK1 => ?_); simp (disch := omega) only [push_cast, ↓Int.cast_ofNat_Int, simprocAttr, aG, aE]; refine hK1 _ ?_; (try clear hK1 K1)
  refine aY ?_
  refine aB ?_
  refine bT rfl ?_
  refine aA ?_; refine aC (fun K hK => ?_); simp (disch := omega) only [push_cast, ↓Int.cast_ofNat_Int, simprocAttr]; refine hK _ ?_; clear hK K
  refine aB ?_; refine aV ?_; refine cK ?_; refine bH ?_
  simp only [aD, aK, yH, yE, yK, yJ, aF, zS, zM, Nat.reduceEqDiff, reduceIte, reduceCtorEq]
  refine bP [0] [] (by first | rfl | simp [bsL, MO.bs]) (by decide) (by decide) (by simp only [push_cast, simprocAttr]) (by simp only [push_cast, simprocAttr]) (by simp only [push_cast, simprocAttr]; rfl) (by simp only [push_cast, simprocAttr]; rfl) ?_
  exact ⟨rfl, rfl, rfl⟩
 have hr1 : cU d p q = if (aS d).1 ≠ 0 then aS d else (0, gS { (aS d).2 with L := del p d.L } q (aP d p)) := by
  rw [hr0, if_neg (by simp [e1, e2]), if_neg h4, if_neg h6]
 rcases (Decidable.em (p = q)) with h7 | h7
 ·have he : decide (p = q) = true := decide_eq_true h7
  refine aA ?_; refine aC (fun K hK => ?_); simp (disch := omega) only [push_cast, ↓Int.cast_ofNat_Int, simprocAttr, he]; refine hK _ ?_; clear hK K
  refine aU [0, 1, 2, 8, 71] [0, 64] (by simp only [zZ, zR, zP, zQ, zN, zS, zM, zX, zU, Nat.reduceEqDiff, reduceIte]; exact rfl) ?_
  skip
  refine bE rfl ?_
  refine aW ?_; refine aA ?_; refine aA ?_
  refine aC (fun K hK => ?_); simp (disch := omega) only [push_cast, ↓Int.cast_ofNat_Int, simprocAttr]
  refine dU 664 [0] qVm (ht) rfl (by decide) (by decide) (by simp only [push_cast, simprocAttr]; try rfl) (by simp only [push_cast, simprocAttr]; try rfl) ?_
  rintro _ _ ⟨rfl, rfl⟩
  refine aN ?_; simp (disch := omega) only [push_cast, ↓Int.cast_ofNat_Int, simprocAttr]
  refine hK _ ?_; clear hK K
  refine aA ?_; refine aC (fun K hK => ?_); simp (disch := omega) only [push_cast, ↓Int.cast_ofNat_Int, simprocAttr]; refine hK _ ?_; clear hK K
  refine aU [0, 1, 2, 8, 12, 85] [0, 64] (by simp only [zZ, zR, zP, zQ, zN, zS, zM, zX, zU, Nat.reduceEqDiff, reduceIte]; exact rfl) ?_
  rcases (eP d).symm with ⟨h8, h9⟩ | ⟨h8, h9⟩
  ·have hr : cU d p q = aS d := by rw [hr1, if_pos (by simp [h8])]
   rw [hr]
   refine bA rfl (fun _ => ?_) (fun h => by simp [h8] at h)
   refine aA ?_; refine aC (fun K hK => ?_); simp (disch := omega) only [push_cast, ↓Int.cast_ofNat_Int, simprocAttr]; refine hK _ ?_; clear hK K
   refine aB ?_; refine aV ?_; refine bH ?_
   simp only [aD, aK, yH, yE, yK, yJ, aF, zS, zM, Nat.reduceEqDiff, reduceIte, reduceCtorEq]
   refine bP [0] [] (by first | rfl | simp [bsL, MO.bs]) (by decide) (by decide) (by simp only [push_cast, simprocAttr]) (by simp only [push_cast, simprocAttr]) (by simp only [push_cast, simprocAttr]; rfl) (by simp only [push_cast, simprocAttr]; rfl) ?_
   exact ⟨rfl, rfl, by rw [gN]; rfl⟩
  have hr : cU d p q = (0, gS { (aS d).2 with L := del p d.L } q (aP d p)) := by rw [hr1, if_neg (by simp [h8])]
  rw [hr]
  refine bA rfl (fun h => by simp [h8] at h) (fun _ => ?_)
  refine aW ?_; refine aA ?_; refine bD ?_; refine aH 5 (fun K1 hK1 => ?_); simp (disch := omega) only [push_cast, ↓Int.cast_ofNat_Int, simprocAttr]; refine hK1 _ ?_; (try clear hK1 K1)
  refine qP1 (i := 0) mtI rfl rfl rfl rfl rfl rfl (mx hs) ?_
  refine aH 0 (fun K1 hK1 => ?_); simp (disch := omega) only [push_cast, ↓Int.cast_ofNat_Int, simprocAttr, aG, aE]; refine hK1 _ ?_; (try clear hK1 K1)
  refine aY ?_
  rw [cV] at hse
  simp only [a2, a3, a4, ← qP8, eD, f1] at hse
  refine aA ?_; refine bD ?_; refine aH 3 (fun K1 hK1 => ?_); simp (disch := omega) only [push_cast, ↓Int.cast_ofNat_Int, simprocAttr]; refine hK1 _ ?_; (try clear hK1 K1)
  refine bL 760 [0] zAc (hse) rfl rfl rfl rfl (by simp only [push_cast, simprocAttr]; exact rfl) (by decide) (by decide) (by decide) (by simp only [push_cast, simprocAttr]; try rfl) (by simp only [push_cast, simprocAttr]; try rfl) ?_
  rintro _ _ _ ⟨rfl, rfl, rfl⟩
  refine aH 0 (fun K1 hK1 => ?_); simp (disch := omega) only [push_cast, ↓Int.cast_ofNat_Int, simprocAttr, aG, aE]; refine hK1 _ ?_; (try clear hK1 K1)
  refine aY ?_
  refine aA ?_; refine aC (fun K hK => ?_); simp (disch := omega) only [push_cast, ↓Int.cast_ofNat_Int, simprocAttr]; refine hK _ ?_; clear hK K
  refine aB ?_; refine aV ?_
  simp only [aD, aK, yH, yE, yK, yJ, aF, zS, zM, Nat.reduceEqDiff, reduceIte, reduceCtorEq]
  refine bP [0] [] (by first | rfl | simp [bsL, MO.bs]) (by decide) (by decide) (by simp only [push_cast, simprocAttr]) (by simp only [push_cast, simprocAttr]) (by simp only [push_cast, simprocAttr]; rfl) (by simp only [push_cast, simprocAttr]; rfl) ?_
  exact ⟨rfl, rfl, by simp only [Dk.maps, gS, a2, a3, a4]⟩
 ·have hne : decide (p = q) = false := decide_eq_false h7
  have hro : gX d q (gA d p q) = true := by
   cases e : gX d q (gA d p q)
   ·exact absurd ⟨h7, e⟩ h6
   ·rfl
  rw [hro] at hrm
  refine aA ?_; refine bD ?_; refine aH 7 (fun K1 hK1 => ?_); simp (disch := omega) only [push_cast, ↓Int.cast_ofNat_Int, simprocAttr, hne]; refine hK1 _ ?_; (try clear hK1 K1)
  refine bL 632 [0] zF4 (hrm) rfl rfl rfl rfl (by simp only [push_cast, simprocAttr]; exact rfl) (by decide) (by decide) (by decide) (by simp only [push_cast, simprocAttr]; try rfl) (by simp only [push_cast, simprocAttr]; try rfl) ?_
  rintro _ _ _ ⟨rfl, rfl, rfl⟩
  refine aH 3 (fun K1 hK1 => ?_); simp (disch := omega) only [push_cast, ↓Int.cast_ofNat_Int, simprocAttr, aG, aE]; refine hK1 _ ?_; (try clear hK1 K1)
  refine aY ?_
  refine aU [0, 1, 2, 8, 71] [0, 64] (by simp only [zZ, zR, zP, zQ, zN, zS, zM, zX, zU, Nat.reduceEqDiff, reduceIte]; exact rfl) ?_
  skip
  refine bE rfl ?_
  refine aW ?_; refine aA ?_; refine aA ?_
  refine aC (fun K hK => ?_); simp (disch := omega) only [push_cast, ↓Int.cast_ofNat_Int, simprocAttr]
  refine dU 664 [0] qVm (ht) rfl (by decide) (by decide) (by simp only [push_cast, simprocAttr]; try rfl) (by simp only [push_cast, simprocAttr]; try rfl) ?_
  rintro _ _ ⟨rfl, rfl⟩
  refine aN ?_; simp (disch := omega) only [push_cast, ↓Int.cast_ofNat_Int, simprocAttr]
  refine hK _ ?_; clear hK K
  refine aA ?_; refine aC (fun K hK => ?_); simp (disch := omega) only [push_cast, ↓Int.cast_ofNat_Int, simprocAttr]; refine hK _ ?_; clear hK K
  refine aU [0, 1, 2, 8, 12, 85] [0, 64] (by simp only [zZ, zR, zP, zQ, zN, zS, zM, zX, zU, Nat.reduceEqDiff, reduceIte]; exact rfl) ?_
  rcases (eP d).symm with ⟨h8, h9⟩ | ⟨h8, h9⟩
  ·have hr : cU d p q = aS d := by rw [hr1, if_pos (by simp [h8])]
   rw [hr]
   refine bA rfl (fun _ => ?_) (fun h => by simp [h8] at h)
   refine aA ?_; refine aC (fun K hK => ?_); simp (disch := omega) only [push_cast, ↓Int.cast_ofNat_Int, simprocAttr]; refine hK _ ?_; clear hK K
   refine aB ?_; refine aV ?_; refine bH ?_
   simp only [aD, aK, yH, yE, yK, yJ, aF, zS, zM, Nat.reduceEqDiff, reduceIte, reduceCtorEq]
   refine bP [0] [] (by first | rfl | simp [bsL, MO.bs]) (by decide) (by decide) (by simp only [push_cast, simprocAttr]) (by simp only [push_cast, simprocAttr]) (by simp only [push_cast, simprocAttr]; rfl) (by simp only [push_cast, simprocAttr]; rfl) ?_
   exact ⟨rfl, rfl, by rw [gN]; rfl⟩
  have hr : cU d p q = (0, gS { (aS d).2 with L := del p d.L } q (aP d p)) := by rw [hr1, if_neg (by simp [h8])]
  rw [hr]
  refine bA rfl (fun h => by simp [h8] at h) (fun _ => ?_)
  refine aW ?_; refine aA ?_; refine bD ?_; refine aH 5 (fun K1 hK1 => ?_); simp (disch := omega) only [push_cast, ↓Int.cast_ofNat_Int, simprocAttr]; refine hK1 _ ?_; (try clear hK1 K1)
  refine qP1 (i := 0) mtI rfl rfl rfl rfl rfl rfl (mx hs) ?_
  refine aH 0 (fun K1 hK1 => ?_); simp (disch := omega) only [push_cast, ↓Int.cast_ofNat_Int, simprocAttr, aG, aE]; refine hK1 _ ?_; (try clear hK1 K1)
  refine aY ?_
  rw [cV] at hse
  simp only [a2, a3, a4, ← qP8, eD, f1] at hse
  refine aA ?_; refine bD ?_; refine aH 3 (fun K1 hK1 => ?_); simp (disch := omega) only [push_cast, ↓Int.cast_ofNat_Int, simprocAttr]; refine hK1 _ ?_; (try clear hK1 K1)
  refine bL 760 [0] zAc (hse) rfl rfl rfl rfl (by simp only [push_cast, simprocAttr]; exact rfl) (by decide) (by decide) (by decide) (by simp only [push_cast, simprocAttr]; try rfl) (by simp only [push_cast, simprocAttr]; try rfl) ?_
  rintro _ _ _ ⟨rfl, rfl, rfl⟩
  refine aH 0 (fun K1 hK1 => ?_); simp (disch := omega) only [push_cast, ↓Int.cast_ofNat_Int, simprocAttr, aG, aE]; refine hK1 _ ?_; (try clear hK1 K1)
  refine aY ?_
  refine aA ?_; refine aC (fun K hK => ?_); simp (disch := omega) only [push_cast, ↓Int.cast_ofNat_Int, simprocAttr]; refine hK _ ?_; clear hK K
  refine aB ?_; refine aV ?_
  simp only [aD, aK, yH, yE, yK, yJ, aF, zS, zM, Nat.reduceEqDiff, reduceIte, reduceCtorEq]
  refine bP [0] [] (by first | rfl | simp [bsL, MO.bs]) (by decide) (by decide) (by simp only [push_cast, simprocAttr]) (by simp only [push_cast, simprocAttr]) (by simp only [push_cast, simprocAttr]; rfl) (by simp only [push_cast, simprocAttr]; rfl) ?_
  exact ⟨rfl, rfl, by simp only [Dk.maps, gS, a2, a3, a4]⟩
end Go.Proofs.YtojolcpblacjjaaGreatDoor
