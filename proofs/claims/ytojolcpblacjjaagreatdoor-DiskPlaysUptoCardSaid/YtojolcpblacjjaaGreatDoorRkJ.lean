/-
  Rot, of the program's disk and of the reference's; the program's Remove: walked.
-/
import Derived.Test.YtojolcpblacjjaaGreatDoorRkI
import Derived.Test.YtojolcpblacjjaaGreatDoorTnA
import Derived.Test.YtojolcpblacjjaaGreatDoorDkH
import Derived.Test.YtojolcpblacjjaaGreatDoorDlE
set_option linter.unusedSimpArgs false
set_option linter.unusedVariables false
set_option maxRecDepth 20000
namespace Go.Proofs.YtojolcpblacjjaaGreatDoor
open Go Go.Eng Go.RowKit Go.Tr Go.Dk
theorem tS (s : ByteArray) (bit : Int) : (cZ s bit).size = s.size := by
 unfold cZ
 split
 ·rename_i h; rw [h]; rfl
 ·rw [strOfNums_size, List.length_map, qLy]
set_option maxHeartbeats 4000000 in
theorem zHx (d : Dk) (R : LN) (fr nw : Bool) (ok : ROk d R) (p : ByteArray) (bit : Int) (hs : p.size ≤ 1048576) (hb1 : -9223372036854775808 ≤ bit) (hb2 : bit ≤ 9223372036854775807) (hlo : Lo d) : HFunS Tryz.prog 34 [.ptr 0 6 0 0, .v (.string p), .v (.int .i64 bit)] (rst d R fr nw) (fun h st => h = .v (.int .i64 (uB (fun s => cZ s bit) d p).1) ∧ ∃ fr', st = rst (uB (fun s => cZ s bit) d p).2 R fr' nw) := by
 refine kJ (N := 39) Tryz.func34 rfl Tryz.ntmps34 Tryz.results34 (by simp) ?_
 have c1 := qGu d R p hs ok.l4
 simp only [rst, eF]
 refine zE ?_; refine zJ (fun K hK => ?_); simp (disch := omega) only [push_cast, ↓Int.cast_ofNat_Int, simprocAttr]; refine hK _ ?_; clear hK K
 refine zE ?_; refine zJ (fun K hK => ?_); simp (disch := omega) only [push_cast, ↓Int.cast_ofNat_Int, simprocAttr]
 refine cG zJk c1 (.cons (dL rfl rfl) (.cons (.v _) .nil)) ?_
 with_reducible refine aM ?_; simp (disch := omega) only [push_cast, ↓Int.cast_ofNat_Int, simprocAttr]
 refine hK _ ?_; clear hK K
 refine zE ?_; refine zE ?_; refine zJ (fun K hK => ?_); simp (disch := omega) only [push_cast, ↓Int.cast_ofNat_Int, simprocAttr]; refine hK _ ?_; clear hK K
 refine zA ?_
 rcases (Decidable.em (fE d p = 0)).symm with h0 | h0
 ·have hr : uB (fun s => cZ s bit) d p = (fE d p, d) := by simp [uB, h0]
  rw [hr]
  refine bE rfl (fun _ => ?_) (fun h => by simp [h0] at h)
  refine zE ?_; refine zJ (fun K hK => ?_); simp (disch := omega) only [push_cast, ↓Int.cast_ofNat_Int, simprocAttr]; refine hK _ ?_; clear hK K
  refine zA ?_; refine zW ?_; refine zK ?_
  simp only [aK, aR, yH, yE, yK, yJ, aG, zS, zM, Nat.reduceEqDiff, reduceIte, reduceCtorEq]
  refine cJ [0, 1] (by decide) (by decide) (by simp only [push_cast, simprocAttr]) (by simp only [push_cast, simprocAttr]) (by simp only [push_cast, simprocAttr]; rfl) (by simp only [push_cast, simprocAttr]; rfl) ?_
  exact ⟨rfl, fr, rfl⟩
 refine bE rfl (fun h => by simp [h0] at h) (fun _ => ?_)
 obtain ⟨f1, f2, f3⟩ := qQ8 h0
 have hr : uB (fun s => cZ s bit) d p = (0, iY d p { aQ d p with data := cZ (aQ d p).data bit, kept := cZ (aQ d p).kept bit }) := by simp [uB, h0]
 rw [hr]
 obtain ⟨l1, l2, -⟩ := hlo p
 have t1 := qMg (aQ d p).data bit (by omega) hb1 hb2
 have t2 := qMg (aQ d p).kept bit (by omega) hb1 hb2
 have c6 := nW d R fr nw p { aQ d p with data := cZ (aQ d p).data bit, kept := cZ (aQ d p).kept bit } ok.stamps
 have c5 := qAx { d with stamps := d.stamps + 1 } R fr nw p { aQ d p with data := cZ (aQ d p).data bit, kept := cZ (aQ d p).kept bit, stamp := d.stamps + 1 } ok.rise ok.l4
 have cp := jW d R p ok.l4
 obtain ⟨i, hp⟩ := uC f2
 obtain ⟨hi, e1, e3, -, -⟩ := mN hp
 rw [fR hp] at cp
 simp only [rst, eF] at c5 c6 ⊢
 refine yB [0, 1, 2] [0, 1] (by simp only [zZ, zR, zP, zQ, zN, zS, zM, zX, zU, Nat.reduceEqDiff, reduceIte]; exact rfl) ?_
 refine zC ?_; refine zE ?_; refine qFw 9 8 37 23 64 mixed (by kernel_rfl) rfl rfl rfl rfl (by decide) qZq rfl (by kernel_rfl) (by decide) (fun K hK => ?_); simp (disch := omega) only [push_cast, ↓Int.cast_ofNat_Int, simprocAttr, bD, bQ, bV hi]
 refine gK qLv cp (.cons (dL rfl rfl) (.cons (.v _) .nil)) ?_
 with_reducible refine aM ?_; simp (disch := omega) only [push_cast, ↓Int.cast_ofNat_Int, simprocAttr, bD, bQ, bV hi]
 refine ⟨[.string d.L[i].1, .bool d.L[i].2.dir, .string d.L[i].2.data, .string d.L[i].2.kept, .bool d.L[i].2.loose, .bool d.L[i].2.anew, .int .i64 d.L[i].2.stamp], rfl, ?_⟩
 refine aM ?_; simp (disch := omega) only [push_cast, ↓Int.cast_ofNat_Int, simprocAttr, fY, eV, fP, eN, iM, iP, iN, lC, fW, iA, fV, fU, iT, fT, fX, eU, lA]
 refine hK _ ?_; clear hK K
 rw [e1, ← e3]
 refine yB [0, 2, 8] [0, 1, 64] (by simp only [zZ, zR, zP, zQ, zN, zS, zM, zX, zU, Nat.reduceEqDiff, reduceIte]; exact rfl) ?_
 refine zE ?_; refine iD 9 mixed (by kernel_rfl) (fun K hK => ?_); simp (disch := omega) only [push_cast, ↓Int.cast_ofNat_Int, simprocAttr]
 refine gK zLe t1 (.cons (.v _) (.cons (.v _) .nil)) ?_
 with_reducible refine aM ?_; simp (disch := omega) only [push_cast, ↓Int.cast_ofNat_Int, simprocAttr]
 refine gK zLe t2 (.cons (.v _) (.cons (.v _) .nil)) ?_
 with_reducible refine aM ?_; simp (disch := omega) only [push_cast, ↓Int.cast_ofNat_Int, simprocAttr]
 with_reducible refine aM ?_; simp (disch := omega) only [push_cast, ↓Int.cast_ofNat_Int, simprocAttr]
 refine hK _ ?_; clear hK K
 refine yB [0, 8] [0, 1, 64] (by simp only [zZ, zR, zP, zQ, zN, zS, zM, zX, zU, Nat.reduceEqDiff, reduceIte]; exact rfl) ?_
 refine zE ?_; refine zJ (fun K hK => ?_); simp (disch := omega) only [push_cast, ↓Int.cast_ofNat_Int, simprocAttr]
 refine eC 296 [0, 1] zFb (c6) rfl (by decide) (by decide) (by simp only [push_cast, simprocAttr]; try rfl) (by simp only [push_cast, simprocAttr]; try rfl) ?_
 rintro _ _ ⟨rfl, rfl⟩
 refine aM ?_; simp (disch := omega) only [push_cast, ↓Int.cast_ofNat_Int, simprocAttr]
 refine eC 304 [0, 1] qWp (c5) rfl (by decide) (by decide) (by simp only [push_cast, simprocAttr]; try rfl) (by simp only [push_cast, simprocAttr]; try rfl) ?_
 rintro _ _ ⟨rfl, rfl⟩
 refine aM ?_; simp (disch := omega) only [push_cast, ↓Int.cast_ofNat_Int, simprocAttr]
 refine hK _ ?_; clear hK K
 refine zE ?_; refine zJ (fun K hK => ?_); simp (disch := omega) only [push_cast, ↓Int.cast_ofNat_Int, simprocAttr]; refine hK _ ?_; clear hK K
 refine zA ?_; refine zW ?_
 simp only [aK, aR, yH, yE, yK, yJ, aG, zS, zM, Nat.reduceEqDiff, reduceIte, reduceCtorEq]
 refine cJ [0, 1] (by decide) (by decide) (by simp only [push_cast, simprocAttr]) (by simp only [push_cast, simprocAttr]) (by simp only [push_cast, simprocAttr]; rfl) (by simp only [push_cast, simprocAttr]; rfl) ?_
 exact ⟨rfl, true, rfl⟩
set_option maxHeartbeats 4000000 in
theorem zKj (d : Dk) (B : Int) (hd : d.Ok B) (hB : B ≤ 1099511627776) (p : ByteArray) (bit : Int) (r1 r2 : Nat) (hs : p.size ≤ 1048576) (hb1 : -9223372036854775808 ≤ bit) (hb2 : bit ≤ 9223372036854775807) (hlo : Lo d) :
  HFunM Tryz.prog 33 [.ptr 0 6 0 0, .v (.string p), .v (.int .i64 bit)] [(0, .bx false 47 (d.cells r1 r2))] (d.maps kS r1 r2) (fun h st g => h = .v (.int .i64 (uB (fun s => cZ s bit) d p).1) ∧ st = [(0, .bx false 47 ((uB (fun s => cZ s bit) d p).2.cells r1 r2))] ∧ g = (uB (fun s => cZ s bit) d p).2.maps kS r1 r2) := by
 refine iU (N := 35) Tryz.func33 rfl Tryz.ntmps33 Tryz.results33 (by simp) ?_
 have hm := qWn d p r1 r2 hs
 have hn : d.n < maxLen := by have := hd.n; simp only [maxLen]; omega
 have hst : 0 ≤ d.stamps ∧ d.stamps < 4611686018427387904 := ⟨hd.stamps.1, by have := hd.stamps.2; omega⟩
 obtain ⟨l1, l2, -⟩ := hlo p
 have t1 := (zBr (aQ d p).data bit (by omega) hb1 hb2).mono fun h st q => q.1
 have t2 := (zBr (aQ d p).kept bit (by omega) hb1 hb2).mono fun h st q => q.1
 have hse := qRz d p { aQ d p with data := cZ (aQ d p).data bit, kept := cZ (aQ d p).kept bit } r1 r2 hs hn hst
 simp only [bG] at hm hse ⊢
 rw [dB] at hm hse ⊢
 refine aA ?_; refine aC (fun K hK => ?_); simp (disch := omega) only [push_cast, ↓Int.cast_ofNat_Int, simprocAttr]; refine hK _ ?_; clear hK K
 refine aA ?_; refine aA ?_; refine bF ?_; refine aH 2 (fun K1 hK1 => ?_); simp (disch := omega) only [push_cast, ↓Int.cast_ofNat_Int, simprocAttr]; refine hK1 _ ?_; (try clear hK1 K1)
 refine bW 88 [0] zJl (hm) rfl rfl rfl rfl (by simp only [push_cast, simprocAttr]; exact rfl) (by decide) (by decide) (by decide) (by simp only [push_cast, simprocAttr]; try rfl) (by simp only [push_cast, simprocAttr]; try rfl) ?_
 rintro _ _ _ ⟨rfl, rfl, rfl⟩
 refine aH 1 (fun K1 hK1 => ?_); simp (disch := omega) only [push_cast, ↓Int.cast_ofNat_Int, simprocAttr, aF, aD]; refine hK1 _ ?_; (try clear hK1 K1)
 refine aW ?_
 refine aA ?_; refine aC (fun K hK => ?_); simp (disch := omega) only [push_cast, ↓Int.cast_ofNat_Int, simprocAttr]; refine hK _ ?_; clear hK K
 refine aT [0, 1, 2, 7, 13] [0] (by simp only [zZ, zR, zP, zQ, zN, zS, zM, zX, zU, Nat.reduceEqDiff, reduceIte]; exact rfl) ?_
 rcases (Decidable.em (fE d p = 0)).symm with h0 | h0
 ·have hr : uB (fun s => cZ s bit) d p = (fE d p, d) := by simp [uB, h0]
  rw [hr]
  refine aZ rfl (fun _ => ?_) (fun h => by simp [h0] at h)
  refine aA ?_; refine aC (fun K hK => ?_); simp (disch := omega) only [push_cast, ↓Int.cast_ofNat_Int, simprocAttr]; refine hK _ ?_; clear hK K
  refine aB ?_; refine aY ?_; refine bK ?_
  simp only [aE, aL, yH, yE, yK, yJ, aG, zS, zM, Nat.reduceEqDiff, reduceIte, reduceCtorEq]
  refine bR [0] [] (by first | rfl | simp [bsL, MO.bs]) (by decide) (by decide) (by simp only [push_cast, simprocAttr]) (by simp only [push_cast, simprocAttr]) (by simp only [push_cast, simprocAttr]; rfl) (by simp only [push_cast, simprocAttr]; rfl) ?_
  exact ⟨rfl, rfl, rfl⟩
 refine aZ rfl (fun h => by simp [h0] at h) (fun _ => ?_)
 have hr : uB (fun s => cZ s bit) d p = (0, iY d p { aQ d p with data := cZ (aQ d p).data bit, kept := cZ (aQ d p).kept bit }) := by simp [uB, h0]
 rw [hr]
 refine aU ?_; refine aA ?_; refine bF ?_; refine aH 5 (fun K1 hK1 => ?_); simp (disch := omega) only [push_cast, ↓Int.cast_ofNat_Int, simprocAttr]; refine hK1 _ ?_; (try clear hK1 K1)
 refine eK (i := 0) mtI rfl rfl rfl rfl rfl rfl (mx hs) ?_
 refine aH 2 (fun K1 hK1 => ?_); simp (disch := omega) only [push_cast, ↓Int.cast_ofNat_Int, simprocAttr, aF, aD, eH, eQ]; refine hK1 _ ?_; (try clear hK1 K1)
 refine aW ?_
 have hxd : (bC d.L p).getD itm0 = aQ d p := rfl
 rw [hxd]
 refine aT [0, 1, 2, 8] [0, 64] (by simp only [zZ, zR, zP, zQ, zN, zS, zM, zX, zU, Nat.reduceEqDiff, reduceIte]; exact rfl) ?_
 refine aA ?_
 refine qC3 ?_
 refine iD 9 mixed (by kernel_rfl) (fun K hK => ?_); simp (disch := omega) only [push_cast, ↓Int.cast_ofNat_Int, simprocAttr]
 refine gK zLf t1 (.cons (.v _) (.cons (.v _) .nil)) ?_
 with_reducible refine aM ?_; simp (disch := omega) only [push_cast, ↓Int.cast_ofNat_Int, simprocAttr]
 refine gK zLf t2 (.cons (.v _) (.cons (.v _) .nil)) ?_
 with_reducible refine aM ?_; simp (disch := omega) only [push_cast, ↓Int.cast_ofNat_Int, simprocAttr]
 with_reducible refine aM ?_; simp (disch := omega) only [push_cast, ↓Int.cast_ofNat_Int, simprocAttr]
 refine hK _ ?_; clear hK K
 refine aT [0, 1, 8] [0, 64] (by simp only [zZ, zR, zP, zQ, zN, zS, zM, zX, zU, Nat.reduceEqDiff, reduceIte]; exact rfl) ?_
 refine aA ?_; refine bF ?_; refine aH 3 (fun K1 hK1 => ?_); simp (disch := omega) only [push_cast, ↓Int.cast_ofNat_Int, simprocAttr]; refine hK1 _ ?_; (try clear hK1 K1)
 refine bW 272 [0] zBd (hse) rfl rfl rfl rfl (by simp only [push_cast, simprocAttr]; exact rfl) (by decide) (by decide) (by decide) (by simp only [push_cast, simprocAttr]; try rfl) (by simp only [push_cast, simprocAttr]; try rfl) ?_
 rintro _ _ _ ⟨rfl, rfl, rfl⟩
 refine aH 0 (fun K1 hK1 => ?_); simp (disch := omega) only [push_cast, ↓Int.cast_ofNat_Int, simprocAttr, aF, aD]; refine hK1 _ ?_; (try clear hK1 K1)
 refine aW ?_
 refine aA ?_; refine aC (fun K hK => ?_); simp (disch := omega) only [push_cast, ↓Int.cast_ofNat_Int, simprocAttr]; refine hK _ ?_; clear hK K
 refine aB ?_; refine aY ?_
 simp only [aE, aL, yH, yE, yK, yJ, aG, zS, zM, Nat.reduceEqDiff, reduceIte, reduceCtorEq]
 refine bR [0] [] (by first | rfl | simp [bsL, MO.bs]) (by decide) (by decide) (by simp only [push_cast, simprocAttr]) (by simp only [push_cast, simprocAttr]) (by simp only [push_cast, simprocAttr]; rfl) (by simp only [push_cast, simprocAttr]; rfl) ?_
 exact ⟨rfl, rfl, rfl⟩
set_option maxHeartbeats 4000000 in
theorem zCf (d : Dk) (B : Int) (hd : d.Ok B) (hB : B ≤ 1099511627776) (p : ByteArray) (r1 r2 : Nat) (hs : p.size ≤ 1048576) (hl : d.L.length ≤ 4194304) :
  HFunM Tryz.prog 26 [.ptr 0 6 0 0, .v (.string p)] [(0, .bx false 47 (d.cells r1 r2))] (d.maps kS r1 r2) (fun h st g => h = .v (.int .i64 (cW d p).1) ∧ st = [(0, .bx false 47 ((cW d p).2.cells r1 r2))] ∧ g = (cW d p).2.maps kS r1 r2) := by
 refine iU (N := 41) Tryz.func26 rfl Tryz.ntmps26 Tryz.results26 (by simp) ?_
 have hm := qM3 d p 0 r1 r2 hs
 have hli := qV5 d B hd hB p hs hl r1 r2
 have ht := qC9 d r1 r2 ⟨hd.steps.1, by have := hd.steps.2; omega⟩ hd.armed
 have hn : d.n < maxLen := by have := hd.n; simp only [maxLen]; omega
 simp only [bG] at hm hli ht ⊢
 refine aA ?_; refine aC (fun K hK => ?_); simp (disch := omega) only [push_cast, ↓Int.cast_ofNat_Int, simprocAttr]; refine hK _ ?_; clear hK K
 refine aA ?_; refine aA ?_; refine aC (fun K hK => ?_); simp (disch := omega) only [push_cast, ↓Int.cast_ofNat_Int, simprocAttr]
 refine eC 88 [0] zBe (hm) rfl (by decide) (by decide) (by simp only [push_cast, simprocAttr]; try rfl) (by simp only [push_cast, simprocAttr]; try rfl) ?_
 rintro _ _ ⟨rfl, rfl⟩
 refine aM ?_; simp (disch := omega) only [push_cast, ↓Int.cast_ofNat_Int, simprocAttr]
 refine hK _ ?_; clear hK K
 refine aA ?_; refine aC (fun K hK => ?_); simp (disch := omega) only [push_cast, ↓Int.cast_ofNat_Int, simprocAttr]; refine hK _ ?_; clear hK K
 refine aT [0, 1, 5, 13] [0] (by simp only [zZ, zR, zP, zQ, zN, zS, zM, zX, zU, Nat.reduceEqDiff, reduceIte]; exact rfl) ?_
 rcases (Decidable.em (may d p 0 = 0)).symm with h0 | h0
 ·have hr : cW d p = (may d p 0, d) := by simp [cW, h0]
  rw [hr]
  refine aZ rfl (fun _ => ?_) (fun h => by simp [h0] at h)
  refine aA ?_; refine aC (fun K hK => ?_); simp (disch := omega) only [push_cast, ↓Int.cast_ofNat_Int, simprocAttr]; refine hK _ ?_; clear hK K
  refine aB ?_; refine aY ?_; refine bK ?_
  simp only [aE, aL, yH, yE, yK, yJ, aG, zS, zM, Nat.reduceEqDiff, reduceIte, reduceCtorEq]
  refine bR [0] [] (by first | rfl | simp [bsL, MO.bs]) (by decide) (by decide) (by simp only [push_cast, simprocAttr]) (by simp only [push_cast, simprocAttr]) (by simp only [push_cast, simprocAttr]; rfl) (by simp only [push_cast, simprocAttr]; rfl) ?_
  exact ⟨rfl, rfl, rfl⟩
 refine aZ rfl (fun h => by simp [h0] at h) (fun _ => ?_)
 rw [dB] at hli ⊢
 refine aU ?_; refine aA ?_; refine aA ?_; refine bF ?_; refine aH 5 (fun K1 hK1 => ?_); simp (disch := omega) only [push_cast, ↓Int.cast_ofNat_Int, simprocAttr]; refine hK1 _ ?_; (try clear hK1 K1)
 refine eK (i := 0) mtI rfl rfl rfl rfl rfl rfl (mx hs) ?_
 refine aH 6 (fun K1 hK1 => ?_); simp (disch := omega) only [push_cast, ↓Int.cast_ofNat_Int, simprocAttr, aF, aD, eH, lV, eQ]; refine hK1 _ ?_; (try clear hK1 K1)
 refine aW ?_
 have hxd : (bC d.L p).getD itm0 = aQ d p := rfl
 have hxs : (bC d.L p).isSome = has d p := rfl
 rw [hxd, hxs]
 refine aT [0, 1, 7] [0] (by simp only [zZ, zR, zP, zQ, zN, zS, zM, zX, zU, Nat.reduceEqDiff, reduceIte]; exact rfl) ?_
 refine aA ?_
 cases h1 : has d p with
 | false =>
  have hr : cW d p = (11, d) := by simp [cW, h0, h1]
  rw [hr]
  refine aC (fun K hK => ?_); simp (disch := omega) only [push_cast, ↓Int.cast_ofNat_Int, simprocAttr]; refine hK _ ?_; clear hK K
  refine aB ?_
  refine bY rfl ?_
  refine aA ?_; refine aC (fun K hK => ?_); simp (disch := omega) only [push_cast, ↓Int.cast_ofNat_Int, simprocAttr]; refine hK _ ?_; clear hK K
  refine aB ?_; refine aY ?_; refine bK ?_
  simp only [aE, aL, yH, yE, yK, yJ, aG, zS, zM, Nat.reduceEqDiff, reduceIte, reduceCtorEq]
  refine bR [0] [] (by first | rfl | simp [bsL, MO.bs]) (by decide) (by decide) (by simp only [push_cast, simprocAttr]) (by simp only [push_cast, simprocAttr]) (by simp only [push_cast, simprocAttr]; rfl) (by simp only [push_cast, simprocAttr]; rfl) ?_
  exact ⟨rfl, rfl, rfl⟩
 | true =>
  refine aC (fun K hK => ?_); simp (disch := omega) only [push_cast, ↓Int.cast_ofNat_Int, simprocAttr]; refine hK _ ?_; clear hK K
  refine aB ?_
  refine bB rfl ?_
  refine aT [0, 1] [0] (by simp only [zZ, zR, zP, zQ, zN, zS, zM, zX, zU, Nat.reduceEqDiff, reduceIte]; exact rfl) ?_
  have hll : (mF d p).length ≤ 4194304 := by
   unfold mF
   rw [List.length_map]
   exact Nat.le_trans (List.length_filter_le _ _) hl
  refine aU ?_; refine aA ?_; refine aA ?_; refine bF ?_; refine aH 2 (fun K1 hK1 => ?_); simp (disch := omega) only [push_cast, ↓Int.cast_ofNat_Int, simprocAttr]; refine hK1 _ ?_; (try clear hK1 K1)
  refine bW 224 [0] zGz (hli) rfl rfl rfl rfl (by simp only [push_cast, simprocAttr]; exact rfl) (by decide) (by decide) (by decide) (by simp only [push_cast, simprocAttr]; try rfl) (by simp only [push_cast, simprocAttr]; try rfl) ?_
  rintro _ _ _ ⟨rfl, rfl, rfl⟩
  refine aH 2 (fun K1 hK1 => ?_); simp (disch := omega) only [push_cast, ↓Int.cast_ofNat_Int, simprocAttr, aF, aD, cH]; refine hK1 _ ?_; (try clear hK1 K1)
  refine aW ?_
  refine aT [0, 1, 30] [0] (by simp only [zZ, zR, zP, zQ, zN, zS, zM, zX, zU, Nat.reduceEqDiff, reduceIte]; exact rfl) ?_
  skip
  by_cases h2 : mF d p = []
  ·rw [h2]
   have hrem : (aS d).1 ≠ 0 → cW d p = aS d := fun h => by simp [cW, h0, h1, h2, h]
   have hrem0 : (aS d).1 = 0 → cW d p = (0, { (aS d).2 with L := del p d.L }) := fun h => by simp [cW, h0, h1, h2, h]
   refine bB rfl ?_
   refine aU ?_; refine aA ?_; refine aA ?_; refine aC (fun K hK => ?_); simp (disch := omega) only [push_cast, ↓Int.cast_ofNat_Int, simprocAttr]
   refine eC 256 [0] qWq (ht) rfl (by decide) (by decide) (by simp only [push_cast, simprocAttr]; try rfl) (by simp only [push_cast, simprocAttr]; try rfl) ?_
   rintro _ _ ⟨rfl, rfl⟩
   refine aM ?_; simp (disch := omega) only [push_cast, ↓Int.cast_ofNat_Int, simprocAttr]
   refine hK _ ?_; clear hK K
   refine aA ?_; refine aC (fun K hK => ?_); simp (disch := omega) only [push_cast, ↓Int.cast_ofNat_Int, simprocAttr]; refine hK _ ?_; clear hK K
   refine aT [0, 1, 8, 34] [0] (by simp only [zZ, zR, zP, zQ, zN, zS, zM, zX, zU, Nat.reduceEqDiff, reduceIte]; exact rfl) ?_
   rcases (fB d).symm with ⟨h4, h5⟩ | ⟨h4, h5⟩
   ·rw [hrem (by omega)]
    refine aZ rfl (fun _ => ?_) (fun h => by simp [h4] at h)
    refine aA ?_; refine aC (fun K hK => ?_); simp (disch := omega) only [push_cast, ↓Int.cast_ofNat_Int, simprocAttr]; refine hK _ ?_; clear hK K
    refine aB ?_; refine aY ?_; refine bK ?_
    simp only [aE, aL, yH, yE, yK, yJ, aG, zS, zM, Nat.reduceEqDiff, reduceIte, reduceCtorEq]
    refine bR [0] [] (by first | rfl | simp [bsL, MO.bs]) (by decide) (by decide) (by simp only [push_cast, simprocAttr]) (by simp only [push_cast, simprocAttr]) (by simp only [push_cast, simprocAttr]; rfl) (by simp only [push_cast, simprocAttr]; rfl) ?_
    refine ⟨rfl, rfl, ?_⟩
    rw [gZ]; rfl
   rw [hrem0 h4]
   obtain ⟨a1, a2, a3, a4, a5⟩ := dH d
   refine aZ rfl (fun h => by simp [h4] at h) (fun _ => ?_)
   refine aU ?_; refine aA ?_; refine bF ?_; refine aH 5 (fun K1 hK1 => ?_); simp (disch := omega) only [push_cast, ↓Int.cast_ofNat_Int, simprocAttr]; refine hK1 _ ?_; (try clear hK1 K1)
   refine qRc (i := 0) mtI rfl rfl rfl rfl rfl rfl (mx hs) ?_
   refine aW ?_
   refine aA ?_; refine aC (fun K hK => ?_); simp (disch := omega) only [push_cast, ↓Int.cast_ofNat_Int, simprocAttr]; refine hK _ ?_; clear hK K
   refine aB ?_; refine aY ?_
   simp only [aE, aL, yH, yE, yK, yJ, aG, zS, zM, Nat.reduceEqDiff, reduceIte, reduceCtorEq]
   refine bR [0] [] (by first | rfl | simp [bsL, MO.bs]) (by decide) (by decide) (by simp only [push_cast, simprocAttr]) (by simp only [push_cast, simprocAttr]) (by simp only [push_cast, simprocAttr]; rfl) (by simp only [push_cast, simprocAttr]; rfl) ?_
   refine ⟨rfl, rfl, ?_⟩
   simp only [dB, a2, a3, a4, qW3]
   rfl
  ·have hl0 : 0 < (mF d p).length := List.length_pos_iff.2 h2
   have hr : cW d p = (12, d) := by simp [cW, h0, h1, h2]
   rw [hr]
   refine aZ rfl (fun _ => ?_) (fun h => by simp at h; first | exact absurd h h2 | omega)
   refine aA ?_; refine aC (fun K hK => ?_); simp (disch := omega) only [push_cast, ↓Int.cast_ofNat_Int, simprocAttr]; refine hK _ ?_; clear hK K
   refine aB ?_; refine aY ?_; refine bK ?_
   simp only [aE, aL, yH, yE, yK, yJ, aG, zS, zM, Nat.reduceEqDiff, reduceIte, reduceCtorEq]
   refine bR [0] [] (by first | rfl | simp [bsL, MO.bs]) (by decide) (by decide) (by simp only [push_cast, simprocAttr]) (by simp only [push_cast, simprocAttr]) (by simp only [push_cast, simprocAttr]; rfl) (by simp only [push_cast, simprocAttr]; rfl) ?_
   exact ⟨rfl, rfl, rfl⟩
end Go.Proofs.YtojolcpblacjjaaGreatDoor
