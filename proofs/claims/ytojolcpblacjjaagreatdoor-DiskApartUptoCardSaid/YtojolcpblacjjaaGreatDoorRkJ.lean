/-
  Rot, of the program's disk and of the reference's; the program's Remove: walked.
-/
import Derived.Test.YtojolcpblacjjaaGreatDoorRkI
import Derived.Test.YtojolcpblacjjaaGreatDoorTnA
import Derived.Test.YtojolcpblacjjaaGreatDoorDkH
import Derived.Test.YtojolcpblacjjaaGreatDoorDlE
set_option linter.unusedSimpArgs false
set_option linter.unusedVariables false
set_option maxRecDepth 20000
namespace Go.Proofs.YtojolcpblacjjaaGreatDoor
open Go Go.Eng Go.RowKit Go.Tr Go.Dk
theorem pV (s : ByteArray) (bit : Int) : (cT s bit).size = s.size := by
 unfold cT
 split
 ·rename_i h; rw [h]; rfl
 ·rw [strOfNums_size, List.length_map, qKc]
set_option maxHeartbeats 4000000 in
theorem zGz (d : Dk) (R : LN) (fr nw : Bool) (ok : ROk d R) (p : ByteArray) (bit : Int) (hs : p.size ≤ 1048576) (hb1 : -9223372036854775808 ≤ bit) (hb2 : bit ≤ 9223372036854775807) (hlo : Lo d) : HFunS Tryz.prog 34 [.ptr 0 6 0 0, .v (.string p), .v (.int .i64 bit)] (rst d R fr nw) (fun h st => h = .v (.int .i64 (oC (fun s => cT s bit) d p).1) ∧ ∃ fr', st = rst (oC (fun s => cT s bit) d p).2 R fr' nw) := by
 refine jE (N := 39) Tryz.func34 rfl Tryz.ntmps34 Tryz.results34 (by simp) ?_
 have c1 := qEx d R p hs ok.l4
 simp only [rst, eK]
 refine zE ?_; refine zJ (fun K hK => ?_); simp (disch := omega) only [push_cast, ↓Int.cast_ofNat_Int, simprocAttr]; refine hK _ ?_; clear hK K
 refine zE ?_; refine zJ (fun K hK => ?_); simp (disch := omega) only [push_cast, ↓Int.cast_ofNat_Int, simprocAttr]
 refine cG zHq c1 (.cons (dR rfl rfl) (.cons (.v _) .nil)) ?_
 with_reducible refine aN ?_; simp (disch := omega) only [push_cast, ↓Int.cast_ofNat_Int, simprocAttr]
 refine hK _ ?_; clear hK K
 refine zE ?_; refine zE ?_; refine zJ (fun K hK => ?_); simp (disch := omega) only [push_cast, ↓Int.cast_ofNat_Int, simprocAttr]; refine hK _ ?_; clear hK K
 refine zA ?_
 rcases (Decidable.em (eU d p = 0)).symm with h0 | h0
 ·have hr : oC (fun s => cT s bit) d p = (eU d p, d) := by simp [oC, h0]
  rw [hr]
  refine bC rfl (fun _ => ?_) (fun h => by simp [h0] at h)
  refine zE ?_; refine zJ (fun K hK => ?_); simp (disch := omega) only [push_cast, ↓Int.cast_ofNat_Int, simprocAttr]; refine hK _ ?_; clear hK K
  refine zA ?_; refine zW ?_; refine zK ?_
  simp only [aJ, aR, yH, yE, yK, yJ, aF, zS, zM, Nat.reduceEqDiff, reduceIte, reduceCtorEq]
  refine cE [0, 1] (by decide) (by decide) (by simp only [push_cast, simprocAttr]) (by simp only [push_cast, simprocAttr]) (by simp only [push_cast, simprocAttr]; rfl) (by simp only [push_cast, simprocAttr]; rfl) ?_
  exact ⟨rfl, fr, rfl⟩
 refine bC rfl (fun h => by simp [h0] at h) (fun _ => ?_)
 obtain ⟨f1, f2, f3⟩ := qPs h0
 have hr : oC (fun s => cT s bit) d p = (0, gS d p { aP d p with data := cT (aP d p).data bit, kept := cT (aP d p).kept bit }) := by simp [oC, h0]
 rw [hr]
 obtain ⟨l1, l2, -⟩ := hlo p
 have t1 := qKt (aP d p).data bit (by omega) hb1 hb2
 have t2 := qKt (aP d p).kept bit (by omega) hb1 hb2
 have c6 := mD d R fr nw p { aP d p with data := cT (aP d p).data bit, kept := cT (aP d p).kept bit } ok.stamps
 have c5 := vC { d with stamps := d.stamps + 1 } R fr nw p { aP d p with data := cT (aP d p).data bit, kept := cT (aP d p).kept bit, stamp := d.stamps + 1 } ok.rise ok.l4
 have cp := mE d R p ok.l4
 obtain ⟨i, hp⟩ := qG f2
 obtain ⟨hi, e1, e3, -, -⟩ := qL hp
 rw [iU hp] at cp
 simp only [rst, eK] at c5 c6 ⊢
 refine yB [0, 1, 2] [0, 1] (by simp only [zZ, zR, zP, zQ, zN, zS, zM, zX, zU, Nat.reduceEqDiff, reduceIte]; exact rfl) ?_
 refine zC ?_; refine zE ?_; refine qDw 9 8 37 23 64 mixed (by kernel_rfl) rfl rfl rfl rfl (by decide) qYm rfl (by kernel_rfl) (by decide) (fun K hK => ?_); simp (disch := omega) only [push_cast, ↓Int.cast_ofNat_Int, simprocAttr, bG, bX, cA hi]
 refine jN qTk cp (.cons (dR rfl rfl) (.cons (.v _) .nil)) ?_
 with_reducible refine aN ?_; simp (disch := omega) only [push_cast, ↓Int.cast_ofNat_Int, simprocAttr, bG, bX, cA hi]
 refine ⟨[.string d.L[i].1, .bool d.L[i].2.dir, .string d.L[i].2.data, .string d.L[i].2.kept, .bool d.L[i].2.loose, .bool d.L[i].2.anew, .int .i64 d.L[i].2.stamp], rfl, ?_⟩
 refine aN ?_; simp (disch := omega) only [push_cast, ↓Int.cast_ofNat_Int, simprocAttr, fM, eG, fD, eC, gZ, hZ, hU, kD, fJ, gP, fH, fG, iA, fF, fL, eF, kB]
 refine hK _ ?_; clear hK K
 rw [e1, ← e3]
 refine yB [0, 2, 8] [0, 1, 64] (by simp only [zZ, zR, zP, zQ, zN, zS, zM, zX, zU, Nat.reduceEqDiff, reduceIte]; exact rfl) ?_
 refine zE ?_; refine kG 9 mixed (by kernel_rfl) (fun K hK => ?_); simp (disch := omega) only [push_cast, ↓Int.cast_ofNat_Int, simprocAttr]
 refine jN zKo t1 (.cons (.v _) (.cons (.v _) .nil)) ?_
 with_reducible refine aN ?_; simp (disch := omega) only [push_cast, ↓Int.cast_ofNat_Int, simprocAttr]
 refine jN zKo t2 (.cons (.v _) (.cons (.v _) .nil)) ?_
 with_reducible refine aN ?_; simp (disch := omega) only [push_cast, ↓Int.cast_ofNat_Int, simprocAttr]
 with_reducible refine aN ?_; simp (disch := omega) only [push_cast, ↓Int.cast_ofNat_Int, simprocAttr]
 refine hK _ ?_; clear hK K
 refine yB [0, 8] [0, 1, 64] (by simp only [zZ, zR, zP, zQ, zN, zS, zM, zX, zU, Nat.reduceEqDiff, reduceIte]; exact rfl) ?_
 refine zE ?_; refine zJ (fun K hK => ?_); simp (disch := omega) only [push_cast, ↓Int.cast_ofNat_Int, simprocAttr]
 refine dU 296 [0, 1] zEc (c6) rfl (by decide) (by decide) (by simp only [push_cast, simprocAttr]; try rfl) (by simp only [push_cast, simprocAttr]; try rfl) ?_
 rintro _ _ ⟨rfl, rfl⟩
 refine aN ?_; simp (disch := omega) only [push_cast, ↓Int.cast_ofNat_Int, simprocAttr]
 refine dU 304 [0, 1] qVl (c5) rfl (by decide) (by decide) (by simp only [push_cast, simprocAttr]; try rfl) (by simp only [push_cast, simprocAttr]; try rfl) ?_
 rintro _ _ ⟨rfl, rfl⟩
 refine aN ?_; simp (disch := omega) only [push_cast, ↓Int.cast_ofNat_Int, simprocAttr]
 refine hK _ ?_; clear hK K
 refine zE ?_; refine zJ (fun K hK => ?_); simp (disch := omega) only [push_cast, ↓Int.cast_ofNat_Int, simprocAttr]; refine hK _ ?_; clear hK K
 refine zA ?_; refine zW ?_
 simp only [aJ, aR, yH, yE, yK, yJ, aF, zS, zM, Nat.reduceEqDiff, reduceIte, reduceCtorEq]
 refine cE [0, 1] (by decide) (by decide) (by simp only [push_cast, simprocAttr]) (by simp only [push_cast, simprocAttr]) (by simp only [push_cast, simprocAttr]; rfl) (by simp only [push_cast, simprocAttr]; rfl) ?_
 exact ⟨rfl, true, rfl⟩
set_option maxHeartbeats 4000000 in
theorem zJt (d : Dk) (B : Int) (hd : d.Ok B) (hB : B ≤ 1099511627776) (p : ByteArray) (bit : Int) (r1 r2 : Nat) (hs : p.size ≤ 1048576) (hb1 : -9223372036854775808 ≤ bit) (hb2 : bit ≤ 9223372036854775807) (hlo : Lo d) :
  HFunM Tryz.prog 33 [.ptr 0 6 0 0, .v (.string p), .v (.int .i64 bit)] [(0, .bx false 47 (d.cells r1 r2))] (d.maps kS r1 r2) (fun h st g => h = .v (.int .i64 (oC (fun s => cT s bit) d p).1) ∧ st = [(0, .bx false 47 ((oC (fun s => cT s bit) d p).2.cells r1 r2))] ∧ g = (oC (fun s => cT s bit) d p).2.maps kS r1 r2) := by
 refine jA (N := 35) Tryz.func33 rfl Tryz.ntmps33 Tryz.results33 (by simp) ?_
 have hm := qVg d p r1 r2 hs
 have hn : d.n < maxLen := by have := hd.n; simp only [maxLen]; omega
 have hst : 0 ≤ d.stamps ∧ d.stamps < 4611686018427387904 := ⟨hd.stamps.1, by have := hd.stamps.2; omega⟩
 obtain ⟨l1, l2, -⟩ := hlo p
 have t1 := (zAr (aP d p).data bit (by omega) hb1 hb2).mono fun h st q => q.1
 have t2 := (zAr (aP d p).kept bit (by omega) hb1 hb2).mono fun h st q => q.1
 have hse := qQn d p { aP d p with data := cT (aP d p).data bit, kept := cT (aP d p).kept bit } r1 r2 hs hn hst
 simp only [bJ] at hm hse ⊢
 rw [cV] at hm hse ⊢
 refine aA ?_; refine aC (fun K hK => ?_); simp (disch := omega) only [push_cast, ↓Int.cast_ofNat_Int, simprocAttr]; refine hK _ ?_; clear hK K
 refine aA ?_; refine aA ?_; refine bD ?_; refine aH 2 (fun K1 hK1 => ?_); simp (disch := omega) only [push_cast, ↓Int.cast_ofNat_Int, simprocAttr]; refine hK1 _ ?_; (try clear hK1 K1)
 refine bL 88 [0] zHr (hm) rfl rfl rfl rfl (by simp only [push_cast, simprocAttr]; exact rfl) (by decide) (by decide) (by decide) (by simp only [push_cast, simprocAttr]; try rfl) (by simp only [push_cast, simprocAttr]; try rfl) ?_
 rintro _ _ _ ⟨rfl, rfl, rfl⟩
 refine aH 1 (fun K1 hK1 => ?_); simp (disch := omega) only [push_cast, ↓Int.cast_ofNat_Int, simprocAttr, aG, aE]; refine hK1 _ ?_; (try clear hK1 K1)
 refine aY ?_
 refine aA ?_; refine aC (fun K hK => ?_); simp (disch := omega) only [push_cast, ↓Int.cast_ofNat_Int, simprocAttr]; refine hK _ ?_; clear hK K
 refine aU [0, 1, 2, 7, 13] [0] (by simp only [zZ, zR, zP, zQ, zN, zS, zM, zX, zU, Nat.reduceEqDiff, reduceIte]; exact rfl) ?_
 rcases (Decidable.em (eU d p = 0)).symm with h0 | h0
 ·have hr : oC (fun s => cT s bit) d p = (eU d p, d) := by simp [oC, h0]
  rw [hr]
  refine bA rfl (fun _ => ?_) (fun h => by simp [h0] at h)
  refine aA ?_; refine aC (fun K hK => ?_); simp (disch := omega) only [push_cast, ↓Int.cast_ofNat_Int, simprocAttr]; refine hK _ ?_; clear hK K
  refine aB ?_; refine aV ?_; refine bH ?_
  simp only [aD, aK, yH, yE, yK, yJ, aF, zS, zM, Nat.reduceEqDiff, reduceIte, reduceCtorEq]
  refine bP [0] [] (by first | rfl | simp [bsL, MO.bs]) (by decide) (by decide) (by simp only [push_cast, simprocAttr]) (by simp only [push_cast, simprocAttr]) (by simp only [push_cast, simprocAttr]; rfl) (by simp only [push_cast, simprocAttr]; rfl) ?_
  exact ⟨rfl, rfl, rfl⟩
 refine bA rfl (fun h => by simp [h0] at h) (fun _ => ?_)
 have hr : oC (fun s => cT s bit) d p = (0, gS d p { aP d p with data := cT (aP d p).data bit, kept := cT (aP d p).kept bit }) := by simp [oC, h0]
 rw [hr]
 refine aW ?_; refine aA ?_; refine bD ?_; refine aH 5 (fun K1 hK1 => ?_); simp (disch := omega) only [push_cast, ↓Int.cast_ofNat_Int, simprocAttr]; refine hK1 _ ?_; (try clear hK1 K1)
 refine dZ (i := 0) mtI rfl rfl rfl rfl rfl rfl (mx hs) ?_
 refine aH 2 (fun K1 hK1 => ?_); simp (disch := omega) only [push_cast, ↓Int.cast_ofNat_Int, simprocAttr, aG, aE, dY, eD]; refine hK1 _ ?_; (try clear hK1 K1)
 refine aY ?_
 have hxd : (aT d.L p).getD itm0 = aP d p := rfl
 rw [hxd]
 refine aU [0, 1, 2, 8] [0, 64] (by simp only [zZ, zR, zP, zQ, zN, zS, zM, zX, zU, Nat.reduceEqDiff, reduceIte]; exact rfl) ?_
 refine aA ?_
 refine qJ3 ?_
 refine kG 9 mixed (by kernel_rfl) (fun K hK => ?_); simp (disch := omega) only [push_cast, ↓Int.cast_ofNat_Int, simprocAttr]
 refine jN zKp t1 (.cons (.v _) (.cons (.v _) .nil)) ?_
 with_reducible refine aN ?_; simp (disch := omega) only [push_cast, ↓Int.cast_ofNat_Int, simprocAttr]
 refine jN zKp t2 (.cons (.v _) (.cons (.v _) .nil)) ?_
 with_reducible refine aN ?_; simp (disch := omega) only [push_cast, ↓Int.cast_ofNat_Int, simprocAttr]
 with_reducible refine aN ?_; simp (disch := omega) only [push_cast, ↓Int.cast_ofNat_Int, simprocAttr]
 refine hK _ ?_; clear hK K
 refine aU [0, 1, 8] [0, 64] (by simp only [zZ, zR, zP, zQ, zN, zS, zM, zX, zU, Nat.reduceEqDiff, reduceIte]; exact rfl) ?_
 refine aA ?_; refine bD ?_; refine aH 3 (fun K1 hK1 => ?_); simp (disch := omega) only [push_cast, ↓Int.cast_ofNat_Int, simprocAttr]; refine hK1 _ ?_; (try clear hK1 K1)
 refine bL 272 [0] zAc (hse) rfl rfl rfl rfl (by simp only [push_cast, simprocAttr]; exact rfl) (by decide) (by decide) (by decide) (by simp only [push_cast, simprocAttr]; try rfl) (by simp only [push_cast, simprocAttr]; try rfl) ?_
 rintro _ _ _ ⟨rfl, rfl, rfl⟩
 refine aH 0 (fun K1 hK1 => ?_); simp (disch := omega) only [push_cast, ↓Int.cast_ofNat_Int, simprocAttr, aG, aE]; refine hK1 _ ?_; (try clear hK1 K1)
 refine aY ?_
 refine aA ?_; refine aC (fun K hK => ?_); simp (disch := omega) only [push_cast, ↓Int.cast_ofNat_Int, simprocAttr]; refine hK _ ?_; clear hK K
 refine aB ?_; refine aV ?_
 simp only [aD, aK, yH, yE, yK, yJ, aF, zS, zM, Nat.reduceEqDiff, reduceIte, reduceCtorEq]
 refine bP [0] [] (by first | rfl | simp [bsL, MO.bs]) (by decide) (by decide) (by simp only [push_cast, simprocAttr]) (by simp only [push_cast, simprocAttr]) (by simp only [push_cast, simprocAttr]; rfl) (by simp only [push_cast, simprocAttr]; rfl) ?_
 exact ⟨rfl, rfl, rfl⟩
set_option maxHeartbeats 4000000 in
theorem zBe (d : Dk) (B : Int) (hd : d.Ok B) (hB : B ≤ 1099511627776) (p : ByteArray) (r1 r2 : Nat) (hs : p.size ≤ 1048576) (hl : d.L.length ≤ 4194304) :
  HFunM Tryz.prog 26 [.ptr 0 6 0 0, .v (.string p)] [(0, .bx false 47 (d.cells r1 r2))] (d.maps kS r1 r2) (fun h st g => h = .v (.int .i64 (cL d p).1) ∧ st = [(0, .bx false 47 ((cL d p).2.cells r1 r2))] ∧ g = (cL d p).2.maps kS r1 r2) := by
 refine jA (N := 41) Tryz.func26 rfl Tryz.ntmps26 Tryz.results26 (by simp) ?_
 have hm := qLh d p 0 r1 r2 hs
 have hli := zHe d B hd hB p hs hl r1 r2
 have ht := qAq d r1 r2 ⟨hd.steps.1, by have := hd.steps.2; omega⟩ hd.armed
 have hn : d.n < maxLen := by have := hd.n; simp only [maxLen]; omega
 simp only [bJ] at hm hli ht ⊢
 refine aA ?_; refine aC (fun K hK => ?_); simp (disch := omega) only [push_cast, ↓Int.cast_ofNat_Int, simprocAttr]; refine hK _ ?_; clear hK K
 refine aA ?_; refine aA ?_; refine aC (fun K hK => ?_); simp (disch := omega) only [push_cast, ↓Int.cast_ofNat_Int, simprocAttr]
 refine dU 88 [0] zAd (hm) rfl (by decide) (by decide) (by simp only [push_cast, simprocAttr]; try rfl) (by simp only [push_cast, simprocAttr]; try rfl) ?_
 rintro _ _ ⟨rfl, rfl⟩
 refine aN ?_; simp (disch := omega) only [push_cast, ↓Int.cast_ofNat_Int, simprocAttr]
 refine hK _ ?_; clear hK K
 refine aA ?_; refine aC (fun K hK => ?_); simp (disch := omega) only [push_cast, ↓Int.cast_ofNat_Int, simprocAttr]; refine hK _ ?_; clear hK K
 refine aU [0, 1, 5, 13] [0] (by simp only [zZ, zR, zP, zQ, zN, zS, zM, zX, zU, Nat.reduceEqDiff, reduceIte]; exact rfl) ?_
 rcases (Decidable.em (may d p 0 = 0)).symm with h0 | h0
 ·have hr : cL d p = (may d p 0, d) := by simp [cL, h0]
  rw [hr]
  refine bA rfl (fun _ => ?_) (fun h => by simp [h0] at h)
  refine aA ?_; refine aC (fun K hK => ?_); simp (disch := omega) only [push_cast, ↓Int.cast_ofNat_Int, simprocAttr]; refine hK _ ?_; clear hK K
  refine aB ?_; refine aV ?_; refine bH ?_
  simp only [aD, aK, yH, yE, yK, yJ, aF, zS, zM, Nat.reduceEqDiff, reduceIte, reduceCtorEq]
  refine bP [0] [] (by first | rfl | simp [bsL, MO.bs]) (by decide) (by decide) (by simp only [push_cast, simprocAttr]) (by simp only [push_cast, simprocAttr]) (by simp only [push_cast, simprocAttr]; rfl) (by simp only [push_cast, simprocAttr]; rfl) ?_
  exact ⟨rfl, rfl, rfl⟩
 refine bA rfl (fun h => by simp [h0] at h) (fun _ => ?_)
 rw [cV] at hli ⊢
 refine aW ?_; refine aA ?_; refine aA ?_; refine bD ?_; refine aH 5 (fun K1 hK1 => ?_); simp (disch := omega) only [push_cast, ↓Int.cast_ofNat_Int, simprocAttr]; refine hK1 _ ?_; (try clear hK1 K1)
 refine dZ (i := 0) mtI rfl rfl rfl rfl rfl rfl (mx hs) ?_
 refine aH 6 (fun K1 hK1 => ?_); simp (disch := omega) only [push_cast, ↓Int.cast_ofNat_Int, simprocAttr, aG, aE, dY, kN, eD]; refine hK1 _ ?_; (try clear hK1 K1)
 refine aY ?_
 have hxd : (aT d.L p).getD itm0 = aP d p := rfl
 have hxs : (aT d.L p).isSome = has d p := rfl
 rw [hxd, hxs]
 refine aU [0, 1, 7] [0] (by simp only [zZ, zR, zP, zQ, zN, zS, zM, zX, zU, Nat.reduceEqDiff, reduceIte]; exact rfl) ?_
 refine aA ?_
 cases h1 : has d p with
 | false =>
  have hr : cL d p = (11, d) := by simp [cL, h0, h1]
  rw [hr]
  refine aC (fun K hK => ?_); simp (disch := omega) only [push_cast, ↓Int.cast_ofNat_Int, simprocAttr]; refine hK _ ?_; clear hK K
  refine aB ?_
  refine bT rfl ?_
  refine aA ?_; refine aC (fun K hK => ?_); simp (disch := omega) only [push_cast, ↓Int.cast_ofNat_Int, simprocAttr]; refine hK _ ?_; clear hK K
  refine aB ?_; refine aV ?_; refine bH ?_
  simp only [aD, aK, yH, yE, yK, yJ, aF, zS, zM, Nat.reduceEqDiff, reduceIte, reduceCtorEq]
  refine bP [0] [] (by first | rfl | simp [bsL, MO.bs]) (by decide) (by decide) (by simp only [push_cast, simprocAttr]) (by simp only [push_cast, simprocAttr]) (by simp only [push_cast, simprocAttr]; rfl) (by simp only [push_cast, simprocAttr]; rfl) ?_
  exact ⟨rfl, rfl, rfl⟩
 | true =>
  refine aC (fun K hK => ?_); simp (disch := omega) only [push_cast, ↓Int.cast_ofNat_Int, simprocAttr]; refine hK _ ?_; clear hK K
  refine aB ?_
  refine bE rfl ?_
  refine aU [0, 1] [0] (by simp only [zZ, zR, zP, zQ, zN, zS, zM, zX, zU, Nat.reduceEqDiff, reduceIte]; exact rfl) ?_
  have hll : (rA d p).length ≤ 4194304 := by
   unfold rA
   rw [List.length_map]
   exact Nat.le_trans (List.length_filter_le _ _) hl
  refine aW ?_; refine aA ?_; refine aA ?_; refine bD ?_; refine aH 2 (fun K1 hK1 => ?_); simp (disch := omega) only [push_cast, ↓Int.cast_ofNat_Int, simprocAttr]; refine hK1 _ ?_; (try clear hK1 K1)
  refine bL 224 [0] zLu (hli) rfl rfl rfl rfl (by simp only [push_cast, simprocAttr]; exact rfl) (by decide) (by decide) (by decide) (by simp only [push_cast, simprocAttr]; try rfl) (by simp only [push_cast, simprocAttr]; try rfl) ?_
  rintro _ _ _ ⟨rfl, rfl, rfl⟩
  refine aH 2 (fun K1 hK1 => ?_); simp (disch := omega) only [push_cast, ↓Int.cast_ofNat_Int, simprocAttr, aG, aE, cQ]; refine hK1 _ ?_; (try clear hK1 K1)
  refine aY ?_
  refine aU [0, 1, 30] [0] (by simp only [zZ, zR, zP, zQ, zN, zS, zM, zX, zU, Nat.reduceEqDiff, reduceIte]; exact rfl) ?_
  skip
  by_cases h2 : rA d p = []
  ·rw [h2]
   have hrem : (aS d).1 ≠ 0 → cL d p = aS d := fun h => by simp [cL, h0, h1, h2, h]
   have hrem0 : (aS d).1 = 0 → cL d p = (0, { (aS d).2 with L := del p d.L }) := fun h => by simp [cL, h0, h1, h2, h]
   refine bE rfl ?_
   refine aW ?_; refine aA ?_; refine aA ?_; refine aC (fun K hK => ?_); simp (disch := omega) only [push_cast, ↓Int.cast_ofNat_Int, simprocAttr]
   refine dU 256 [0] qVm (ht) rfl (by decide) (by decide) (by simp only [push_cast, simprocAttr]; try rfl) (by simp only [push_cast, simprocAttr]; try rfl) ?_
   rintro _ _ ⟨rfl, rfl⟩
   refine aN ?_; simp (disch := omega) only [push_cast, ↓Int.cast_ofNat_Int, simprocAttr]
   refine hK _ ?_; clear hK K
   refine aA ?_; refine aC (fun K hK => ?_); simp (disch := omega) only [push_cast, ↓Int.cast_ofNat_Int, simprocAttr]; refine hK _ ?_; clear hK K
   refine aU [0, 1, 8, 34] [0] (by simp only [zZ, zR, zP, zQ, zN, zS, zM, zX, zU, Nat.reduceEqDiff, reduceIte]; exact rfl) ?_
   rcases (eP d).symm with ⟨h4, h5⟩ | ⟨h4, h5⟩
   ·rw [hrem (by omega)]
    refine bA rfl (fun _ => ?_) (fun h => by simp [h4] at h)
    refine aA ?_; refine aC (fun K hK => ?_); simp (disch := omega) only [push_cast, ↓Int.cast_ofNat_Int, simprocAttr]; refine hK _ ?_; clear hK K
    refine aB ?_; refine aV ?_; refine bH ?_
    simp only [aD, aK, yH, yE, yK, yJ, aF, zS, zM, Nat.reduceEqDiff, reduceIte, reduceCtorEq]
    refine bP [0] [] (by first | rfl | simp [bsL, MO.bs]) (by decide) (by decide) (by simp only [push_cast, simprocAttr]) (by simp only [push_cast, simprocAttr]) (by simp only [push_cast, simprocAttr]; rfl) (by simp only [push_cast, simprocAttr]; rfl) ?_
    refine ⟨rfl, rfl, ?_⟩
    rw [gN]; rfl
   rw [hrem0 h4]
   obtain ⟨a1, a2, a3, a4, a5⟩ := dA d
   refine bA rfl (fun h => by simp [h4] at h) (fun _ => ?_)
   refine aW ?_; refine aA ?_; refine bD ?_; refine aH 5 (fun K1 hK1 => ?_); simp (disch := omega) only [push_cast, ↓Int.cast_ofNat_Int, simprocAttr]; refine hK1 _ ?_; (try clear hK1 K1)
   refine qP1 (i := 0) mtI rfl rfl rfl rfl rfl rfl (mx hs) ?_
   refine aY ?_
   refine aA ?_; refine aC (fun K hK => ?_); simp (disch := omega) only [push_cast, ↓Int.cast_ofNat_Int, simprocAttr]; refine hK _ ?_; clear hK K
   refine aB ?_; refine aV ?_
   simp only [aD, aK, yH, yE, yK, yJ, aF, zS, zM, Nat.reduceEqDiff, reduceIte, reduceCtorEq]
   refine bP [0] [] (by first | rfl | simp [bsL, MO.bs]) (by decide) (by decide) (by simp only [push_cast, simprocAttr]) (by simp only [push_cast, simprocAttr]) (by simp only [push_cast, simprocAttr]; rfl) (by simp only [push_cast, simprocAttr]; rfl) ?_
   refine ⟨rfl, rfl, ?_⟩
   simp only [cV, a2, a3, a4, qV1]
   rfl
  ·have hl0 : 0 < (rA d p).length := List.length_pos_iff.2 h2
   have hr : cL d p = (12, d) := by simp [cL, h0, h1, h2]
   rw [hr]
   refine bA rfl (fun _ => ?_) (fun h => by simp at h; first | exact absurd h h2 | omega)
   refine aA ?_; refine aC (fun K hK => ?_); simp (disch := omega) only [push_cast, ↓Int.cast_ofNat_Int, simprocAttr]; refine hK _ ?_; clear hK K
   refine aB ?_; refine aV ?_; refine bH ?_
   simp only [aD, aK, yH, yE, yK, yJ, aF, zS, zM, Nat.reduceEqDiff, reduceIte, reduceCtorEq]
   refine bP [0] [] (by first | rfl | simp [bsL, MO.bs]) (by decide) (by decide) (by simp only [push_cast, simprocAttr]) (by simp only [push_cast, simprocAttr]) (by simp only [push_cast, simprocAttr]; rfl) (by simp only [push_cast, simprocAttr]; rfl) ?_
   exact ⟨rfl, rfl, rfl⟩
end Go.Proofs.YtojolcpblacjjaaGreatDoor
