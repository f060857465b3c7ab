/-
  The reference's disk: New, Append, Sync, Remove, walked.
-/
import Derived.Test.YtojolcpblacjjaaGreatDoorRkF
import Derived.Test.YtojolcpblacjjaaGreatDoorDva
set_option linter.unusedSimpArgs false
set_option linter.unusedVariables false
set_option maxRecDepth 20000
namespace Go.Dk
open Go Go.Eng Go.Tr
theorem qQ8 {d : Dk} {p : ByteArray} (h : fE d p = 0) : may d p 1 = 0 ∧ has d p = true ∧ (aQ d p).dir = false := by
 unfold fE at h
 split at h
 ·rename_i h0; exact absurd h h0
 ·rename_i h0
  split at h
  ·cases h
  ·rename_i h1
   split at h
   ·cases h
   ·rename_i h2
    exact ⟨by simpa using h0, by simpa using h1, by simpa using h2⟩
theorem uC {d : Dk} {p : ByteArray} (h : has d p = true) : ∃ i, plc p d.L = some i := by
 have := qXo p d.L
 unfold has at h
 rw [h] at this
 exact Option.isSome_iff_exists.1 this.symm
end Go.Dk
namespace Go.Proofs.YtojolcpblacjjaaGreatDoor
open Go Go.Eng Go.RowKit Go.Tr Go.Dk
set_option maxHeartbeats 1000000 in
theorem zB8 : HFunS Tryz.prog 7 [] [] (fun h st => h = .ptr 0 6 0 0 ∧ st = [(0, .bx true 35 (rc Dk.new true)), (1, .sl true 76 2 (rms []))]) := by
 refine kJ (N := 3) Tryz.func7 rfl Tryz.ntmps7 Tryz.results7 (by simp) ?_
 refine zE ?_; refine zJ (fun K hK => ?_); simp (disch := omega) only [push_cast, ↓Int.cast_ofNat_Int, simprocAttr]; refine hK _ ?_; clear hK K
 refine zE ?_; refine zJ (fun K hK => ?_); simp (disch := omega) only [push_cast, ↓Int.cast_ofNat_Int, simprocAttr]; refine hK _ ?_; clear hK K
 refine zA ?_
 refine qZl 16 0 9000 37 7 (by decide) rfl rfl (by simp only [push_cast, List.set_cons_succ, List.set_cons_zero, Nat.reduceEqDiff, reduceIte, Nat.reduceBEq, cond_false, cond_true]; exact rfl) ?_
 refine qC2 9000 rfl (by simp only [xS, tF, nF, rL, mZ, qDp, sX, sY, nD, sW, sU, yR, sZ, sT, xN, xP, xQ, Nat.reduceEqDiff, reduceIte, List.map_cons, List.map_nil, List.map_append]; exact rfl) ?_
 refine qZl 16 1 9001 76 2 (by decide) rfl rfl (by simp only [push_cast, List.set_cons_succ, List.set_cons_zero, Nat.reduceEqDiff, reduceIte, Nat.reduceBEq, cond_false, cond_true]; exact rfl) ?_
 refine zW ?_
 simp only [aK, aR, yH, yE, yK, yJ, aG, zS, zM, Nat.reduceEqDiff, reduceIte, reduceCtorEq]
 refine cJ [16, 9001] (by decide) (by decide) (by simp only [push_cast, simprocAttr]) (by simp only [push_cast, simprocAttr]) (by simp only [push_cast, simprocAttr]; rfl) (by simp only [push_cast, simprocAttr]; rfl) ?_
 exact ⟨rfl, rfl⟩
set_option maxHeartbeats 4000000 in
theorem zF3 (d : Dk) (R : LN) (fr nw : Bool) (ok : ROk d R) (p : ByteArray) (hs : p.size ≤ 1048576) : HFunS Tryz.prog 24 [.ptr 0 6 0 0, .v (.string p)] (rst d R fr nw) (fun h st => h = .v (.int .i64 (nK d p).1) ∧ ∃ fr', st = rst (nK d p).2 R fr' nw) := by
 refine kJ (N := 35) Tryz.func24 rfl Tryz.ntmps24 Tryz.results24 (by simp) ?_
 have c1 := qGu d R p hs ok.l4
 have c4 := xT d R fr nw ok.armed ok.steps
 simp only [rst, eF] at c4 ⊢
 refine zE ?_; refine zJ (fun K hK => ?_); simp (disch := omega) only [push_cast, ↓Int.cast_ofNat_Int, simprocAttr]; refine hK _ ?_; clear hK K
 refine zE ?_; refine zJ (fun K hK => ?_); simp (disch := omega) only [push_cast, ↓Int.cast_ofNat_Int, simprocAttr]
 refine cG zJk c1 (.cons (dL rfl rfl) (.cons (.v _) .nil)) ?_
 with_reducible refine aM ?_; simp (disch := omega) only [push_cast, ↓Int.cast_ofNat_Int, simprocAttr]
 refine hK _ ?_; clear hK K
 refine zE ?_; refine zE ?_; refine zJ (fun K hK => ?_); simp (disch := omega) only [push_cast, ↓Int.cast_ofNat_Int, simprocAttr]; refine hK _ ?_; clear hK K
 refine zA ?_
 rcases (Decidable.em (fE d p = 0)).symm with h0 | h0
 ·have hr : nK d p = (fE d p, d) := by simp [nK, h0]
  rw [hr]
  refine bE rfl (fun _ => ?_) (fun h => by simp [h0] at h)
  refine zE ?_; refine zJ (fun K hK => ?_); simp (disch := omega) only [push_cast, ↓Int.cast_ofNat_Int, simprocAttr]; refine hK _ ?_; clear hK K
  refine zA ?_; refine zW ?_; refine zK ?_
  simp only [aK, aR, yH, yE, yK, yJ, aG, zS, zM, Nat.reduceEqDiff, reduceIte, reduceCtorEq]
  refine cJ [0, 1] (by decide) (by decide) (by simp only [push_cast, simprocAttr]) (by simp only [push_cast, simprocAttr]) (by simp only [push_cast, simprocAttr]; rfl) (by simp only [push_cast, simprocAttr]; rfl) ?_
  exact ⟨rfl, fr, rfl⟩
 refine bE rfl (fun h => by simp [h0] at h) (fun _ => ?_)
 obtain ⟨f1, f2, f3⟩ := qQ8 h0
 refine yB [0, 1] [0, 1] (by simp only [zZ, zR, zP, zQ, zN, zS, zM, zX, zU, Nat.reduceEqDiff, reduceIte]; exact rfl) ?_
 refine zC ?_; refine zE ?_; refine zJ (fun K hK => ?_); simp (disch := omega) only [push_cast, ↓Int.cast_ofNat_Int, simprocAttr]
 refine eC 112 [0, 1] zBb (c4) rfl (by decide) (by decide) (by simp only [push_cast, simprocAttr]; try rfl) (by simp only [push_cast, simprocAttr]; try rfl) ?_
 rintro _ _ ⟨rfl, rfl⟩
 refine aM ?_; simp (disch := omega) only [push_cast, ↓Int.cast_ofNat_Int, simprocAttr]
 refine hK _ ?_; clear hK K
 refine zE ?_; refine zE ?_; refine zJ (fun K hK => ?_); simp (disch := omega) only [push_cast, ↓Int.cast_ofNat_Int, simprocAttr]; refine hK _ ?_; clear hK K
 refine zA ?_
 rcases (fB d).symm with ⟨h4, h5⟩ | ⟨h4, h5⟩
 ·have hr : nK d p = aS d := by simp [nK, h0, h4]
  rw [hr, h4]
  refine yC rfl ?_
  refine zC ?_; refine zE ?_
  refine zJ (fun K hK => ?_); simp (disch := omega) only [push_cast, ↓Int.cast_ofNat_Int, simprocAttr]; refine hK _ ?_; clear hK K
  refine zA ?_; refine zW ?_
  simp only [aK, aR, yH, yE, yK, yJ, aG, zS, zM, Nat.reduceEqDiff, reduceIte, reduceCtorEq]
  refine cJ [0, 1] (by decide) (by decide) (by simp only [push_cast, simprocAttr]) (by simp only [push_cast, simprocAttr]) (by simp only [push_cast, simprocAttr]; rfl) (by simp only [push_cast, simprocAttr]; rfl) ?_
  exact ⟨rfl, fr, rfl⟩
 have hr : nK d p = (0, { (aS d).2 with L := put p { aQ d p with kept := (aQ d p).data, loose := false, anew := false } d.L, n := d.n + 1 }) := by simp [nK, h0, h4]
 have hL := (dH d).1
 have c5 := qAx (aS d).2 R fr nw p { aQ d p with kept := (aQ d p).data, loose := false, anew := false } (by rw [hL]; exact ok.rise) (by rw [hL]; exact ok.l4)
 have cp := jW (aS d).2 R p (by rw [hL]; exact ok.l4)
 obtain ⟨i, hp⟩ := uC f2
 obtain ⟨hi, e1, e3, -, -⟩ := mN hp
 rw [← hL] at hp
 rw [fR hp] at cp
 rw [hr, h4]
 clear c1 c4
 simp only [rst, eF] at c5 ⊢
 rw [hL] at c5 ⊢
 simp only [dE, mB] at cp
 rw [hL] at cp
 have hlb : ∀ {st : aN}, rlk st 0 = some (.bx false 35 [.lst fr (dS d.L), .own 1, .v (.int .i64 (aS d).2.steps), .v (.int .i64 (aS d).2.stamps), .v (.int .i64 (aS d).2.armed), .v (.bool (aS d).2.down)]) → rlk st 1 = some (.sl nw 76 2 (rms R)) → Lend st (.ptr 0 6 0 0) (.elt false [[.lst false (dS d.L), .lst false (rms R), .v (.int .i64 (aS d).2.steps), .v (.int .i64 (aS d).2.stamps), .v (.int .i64 (aS d).2.armed), .v (.bool (aS d).2.down)]] 6 0 0) := fun h1 h2 => by
  have := dL (d := (aS d).2) (by rw [hL]; exact h1) h2
  simp only [dE, mB] at this
  rw [hL] at this
  exact this
 refine yD rfl ?_
 refine yB [0, 1, 5] [0, 1] (by simp only [zZ, zR, zP, zQ, zN, zS, zM, zX, zU, Nat.reduceEqDiff, reduceIte]; exact rfl) ?_
 refine zE ?_; refine qFw 9 6 37 25 48 mixed (by kernel_rfl) rfl rfl rfl rfl (by decide) qZq rfl (by kernel_rfl) (by decide) (fun K hK => ?_); simp (disch := omega) only [push_cast, ↓Int.cast_ofNat_Int, simprocAttr, bD, bQ, bV hi]
 refine gK qLv cp (.cons (hlb rfl rfl) (.cons (.v _) .nil)) ?_
 with_reducible refine aM ?_; simp (disch := omega) only [push_cast, ↓Int.cast_ofNat_Int, simprocAttr, bD, bQ, bV hi]
 refine ⟨[.string d.L[i].1, .bool d.L[i].2.dir, .string d.L[i].2.data, .string d.L[i].2.kept, .bool d.L[i].2.loose, .bool d.L[i].2.anew, .int .i64 d.L[i].2.stamp], rfl, ?_⟩
 refine aM ?_; simp (disch := omega) only [push_cast, ↓Int.cast_ofNat_Int, simprocAttr, fY, eV, fP, eN, iM, iP, iN, lC, fW, iA, fV, fU, iT, fT, fX, eU, lA]
 refine hK _ ?_; clear hK K
 rw [e1, ← e3]
 refine yB [0, 5, 6] [0, 1, 48] (by simp only [zZ, zR, zP, zQ, zN, zS, zM, zX, zU, Nat.reduceEqDiff, reduceIte]; exact rfl) ?_
 refine zE ?_; refine zJ (fun K hK => ?_); simp (disch := omega) only [push_cast, ↓Int.cast_ofNat_Int, simprocAttr]; refine hK _ ?_; clear hK K
 refine yB [0, 5, 6] [0, 1, 48] (by simp only [zZ, zR, zP, zQ, zN, zS, zM, zX, zU, Nat.reduceEqDiff, reduceIte]; exact rfl) ?_
 refine zJ (fun K hK => ?_); simp (disch := omega) only [push_cast, ↓Int.cast_ofNat_Int, simprocAttr]
 refine eC 264 [0, 1] qWp (c5) rfl (by decide) (by decide) (by simp only [push_cast, simprocAttr]; try rfl) (by simp only [push_cast, simprocAttr]; try rfl) ?_
 rintro _ _ ⟨rfl, rfl⟩
 refine aM ?_; simp (disch := omega) only [push_cast, ↓Int.cast_ofNat_Int, simprocAttr]
 refine hK _ ?_; clear hK K
 refine zE ?_; refine zJ (fun K hK => ?_); simp (disch := omega) only [push_cast, ↓Int.cast_ofNat_Int, simprocAttr]; refine hK _ ?_; clear hK K
 refine zA ?_; refine zW ?_
 simp only [aK, aR, yH, yE, yK, yJ, aG, zS, zM, Nat.reduceEqDiff, reduceIte, reduceCtorEq]
 refine cJ [0, 1] (by decide) (by decide) (by simp only [push_cast, simprocAttr]) (by simp only [push_cast, simprocAttr]) (by simp only [push_cast, simprocAttr]; rfl) (by simp only [push_cast, simprocAttr]; rfl) ?_
 exact ⟨rfl, true, rfl⟩
set_option maxHeartbeats 4000000 in
theorem zAk (d : Dk) (R : LN) (fr nw : Bool) (ok : ROk d R) (p s : ByteArray) (hs : p.size ≤ 1048576) (hz : s.size ≤ 1048576) : HFunS Tryz.prog 22 [.ptr 0 6 0 0, .v (.string p), .v (.string s)] (rst d R fr nw) (fun h st => h = .v (.int .i64 (append d p s).1) ∧ ∃ fr', st = rst (append d p s).2 R fr' nw) := by
 refine kJ (N := 46) Tryz.func22 rfl Tryz.ntmps22 Tryz.results22 (by simp) ?_
 have c1 := qGu d R p hs ok.l4
 have cf := qQp d R p s.size hs ok.l4 ok.keys ok.t2 ok.look ok.nod (by have := ok.rl; omega) (by omega)
 have c4 := xT d R fr nw ok.armed ok.steps
 simp only [rst, eF] at c4 ⊢
 refine zE ?_; refine zJ (fun K hK => ?_); simp (disch := omega) only [push_cast, ↓Int.cast_ofNat_Int, simprocAttr]; refine hK _ ?_; clear hK K
 refine zE ?_; refine zJ (fun K hK => ?_); simp (disch := omega) only [push_cast, ↓Int.cast_ofNat_Int, simprocAttr]
 refine cG zJk c1 (.cons (dL rfl rfl) (.cons (.v _) .nil)) ?_
 with_reducible refine aM ?_; simp (disch := omega) only [push_cast, ↓Int.cast_ofNat_Int, simprocAttr]
 refine hK _ ?_; clear hK K
 refine zE ?_; refine zE ?_; refine zJ (fun K hK => ?_); simp (disch := omega) only [push_cast, ↓Int.cast_ofNat_Int, simprocAttr]; refine hK _ ?_; clear hK K
 refine zA ?_
 rcases (Decidable.em (fE d p = 0)).symm with h0 | h0
 ·have hr : append d p s = (fE d p, d) := by simp [append, h0]
  rw [hr]
  refine bE rfl (fun _ => ?_) (fun h => by simp [h0] at h)
  refine zE ?_; refine zJ (fun K hK => ?_); simp (disch := omega) only [push_cast, ↓Int.cast_ofNat_Int, simprocAttr]; refine hK _ ?_; clear hK K
  refine zA ?_; refine zW ?_; refine zK ?_
  simp only [aK, aR, yH, yE, yK, yJ, aG, zS, zM, Nat.reduceEqDiff, reduceIte, reduceCtorEq]
  refine cJ [0, 1] (by decide) (by decide) (by simp only [push_cast, simprocAttr]) (by simp only [push_cast, simprocAttr]) (by simp only [push_cast, simprocAttr]; rfl) (by simp only [push_cast, simprocAttr]; rfl) ?_
  exact ⟨rfl, fr, rfl⟩
 refine bE rfl (fun h => by simp [h0] at h) (fun _ => ?_)
 obtain ⟨f1, f2, f3⟩ := qQ8 h0
 refine yB [0, 1, 2] [0, 1] (by simp only [zZ, zR, zP, zQ, zN, zS, zM, zX, zU, Nat.reduceEqDiff, reduceIte]; exact rfl) ?_
 refine zC ?_; refine zE ?_; refine zE ?_; refine zJ (fun K hK => ?_); simp (disch := omega) only [push_cast, ↓Int.cast_ofNat_Int, simprocAttr]
 refine cG zJm cf (.cons (dL rfl rfl) (.cons (.v _) (.cons (.v _) .nil))) ?_
 with_reducible refine aM ?_; simp (disch := omega) only [push_cast, ↓Int.cast_ofNat_Int, simprocAttr]
 refine hK _ ?_; clear hK K
 refine zA ?_
 rcases (Decidable.em (iZ d p s.size = true)).symm with h3 | h3
 ·have hr : append d p s = (13, d) := by simp [append, h0, h3]
  rw [hr]
  refine bE rfl (fun _ => ?_) (fun h => by simp [h3] at h)
  refine zE ?_; refine zJ (fun K hK => ?_); simp (disch := omega) only [push_cast, ↓Int.cast_ofNat_Int, simprocAttr]; refine hK _ ?_; clear hK K
  refine zA ?_; refine zW ?_; refine zK ?_
  simp only [aK, aR, yH, yE, yK, yJ, aG, zS, zM, Nat.reduceEqDiff, reduceIte, reduceCtorEq]
  refine cJ [0, 1] (by decide) (by decide) (by simp only [push_cast, simprocAttr]) (by simp only [push_cast, simprocAttr]) (by simp only [push_cast, simprocAttr]; rfl) (by simp only [push_cast, simprocAttr]; rfl) ?_
  exact ⟨rfl, fr, rfl⟩
 refine bE rfl (fun h => by simp [h3] at h) (fun _ => ?_)
 refine yB [0, 1, 2] [0, 1] (by simp only [zZ, zR, zP, zQ, zN, zS, zM, zX, zU, Nat.reduceEqDiff, reduceIte]; exact rfl) ?_
 refine zC ?_; refine zE ?_; refine zJ (fun K hK => ?_); simp (disch := omega) only [push_cast, ↓Int.cast_ofNat_Int, simprocAttr]
 refine eC 176 [0, 1] zBb (c4) rfl (by decide) (by decide) (by simp only [push_cast, simprocAttr]; try rfl) (by simp only [push_cast, simprocAttr]; try rfl) ?_
 rintro _ _ ⟨rfl, rfl⟩
 refine aM ?_; simp (disch := omega) only [push_cast, ↓Int.cast_ofNat_Int, simprocAttr]
 refine hK _ ?_; clear hK K
 refine zE ?_; refine zE ?_; refine zJ (fun K hK => ?_); simp (disch := omega) only [push_cast, ↓Int.cast_ofNat_Int, simprocAttr]; refine hK _ ?_; clear hK K
 refine zA ?_
 rcases (fB d).symm with ⟨h4, h5⟩ | ⟨h4, h5⟩
 ·have hr : append d p s = aS d := by simp [append, h0, h3, h4]
  rw [hr, h4]
  refine yC rfl ?_
  refine zC ?_; refine zE ?_
  refine zJ (fun K hK => ?_); simp (disch := omega) only [push_cast, ↓Int.cast_ofNat_Int, simprocAttr]; refine hK _ ?_; clear hK K
  refine zA ?_; refine zW ?_
  simp only [aK, aR, yH, yE, yK, yJ, aG, zS, zM, Nat.reduceEqDiff, reduceIte, reduceCtorEq]
  refine cJ [0, 1] (by decide) (by decide) (by simp only [push_cast, simprocAttr]) (by simp only [push_cast, simprocAttr]) (by simp only [push_cast, simprocAttr]; rfl) (by simp only [push_cast, simprocAttr]; rfl) ?_
  exact ⟨rfl, fr, rfl⟩
 have hr : append d p s = (0, iY (aS d).2 p { aQ d p with data := (aQ d p).data ++ s, loose := true }) := by simp [append, h0, h3, h4]
 have hL := (dH d).1
 have hib := jM d p
 have htb := ok.tot
 have c6 := nW (aS d).2 R fr nw p { aQ d p with data := (aQ d p).data ++ s, loose := true } (by rw [(dH d).2.2.2.2]; exact ok.stamps)
 have c5 := qAx { (aS d).2 with stamps := (aS d).2.stamps + 1 } R fr nw p { aQ d p with data := (aQ d p).data ++ s, loose := true, stamp := (aS d).2.stamps + 1 } (by show gW (aS d).2.L; rw [hL]; exact ok.rise) (by show (aS d).2.L.length ≤ _; rw [hL]; exact ok.l4)
 have cp := jW (aS d).2 R p (by rw [hL]; exact ok.l4)
 obtain ⟨i, hp⟩ := uC f2
 obtain ⟨hi, e1, e3, -, -⟩ := mN hp
 rw [← hL] at hp
 rw [fR hp] at cp
 rw [hr, h4]
 clear c1 c4 cf
 simp only [rst, eF] at c5 c6 ⊢
 rw [hL] at c5 c6 ⊢
 simp only [dE, mB] at cp
 rw [hL] at cp
 have hlb : ∀ {st : aN}, rlk st 0 = some (.bx false 35 [.lst fr (dS d.L), .own 1, .v (.int .i64 (aS d).2.steps), .v (.int .i64 (aS d).2.stamps), .v (.int .i64 (aS d).2.armed), .v (.bool (aS d).2.down)]) → rlk st 1 = some (.sl nw 76 2 (rms R)) → Lend st (.ptr 0 6 0 0) (.elt false [[.lst false (dS d.L), .lst false (rms R), .v (.int .i64 (aS d).2.steps), .v (.int .i64 (aS d).2.stamps), .v (.int .i64 (aS d).2.armed), .v (.bool (aS d).2.down)]] 6 0 0) := fun h1 h2 => by
  have := dL (d := (aS d).2) (by rw [hL]; exact h1) h2
  simp only [dE, mB] at this
  rw [hL] at this
  exact this
 refine yD rfl ?_
 refine yB [0, 1, 2, 7] [0, 1] (by simp only [zZ, zR, zP, zQ, zN, zS, zM, zX, zU, Nat.reduceEqDiff, reduceIte]; exact rfl) ?_
 refine zE ?_; refine qFw 9 8 37 33 64 mixed (by kernel_rfl) rfl rfl rfl rfl (by decide) qZq rfl (by kernel_rfl) (by decide) (fun K hK => ?_); simp (disch := omega) only [push_cast, ↓Int.cast_ofNat_Int, simprocAttr, bD, bQ, bV hi]
 refine gK qLv cp (.cons (hlb rfl rfl) (.cons (.v _) .nil)) ?_
 with_reducible refine aM ?_; simp (disch := omega) only [push_cast, ↓Int.cast_ofNat_Int, simprocAttr, bD, bQ, bV hi]
 refine ⟨[.string d.L[i].1, .bool d.L[i].2.dir, .string d.L[i].2.data, .string d.L[i].2.kept, .bool d.L[i].2.loose, .bool d.L[i].2.anew, .int .i64 d.L[i].2.stamp], rfl, ?_⟩
 refine aM ?_; simp (disch := omega) only [push_cast, ↓Int.cast_ofNat_Int, simprocAttr, fY, eV, fP, eN, iM, iP, iN, lC, fW, iA, fV, fU, iT, fT, fX, eU, lA]
 refine hK _ ?_; clear hK K
 rw [e1, ← e3]
 refine yB [0, 2, 7, 8] [0, 1, 64] (by simp only [zZ, zR, zP, zQ, zN, zS, zM, zX, zU, Nat.reduceEqDiff, reduceIte]; exact rfl) ?_
 refine zE ?_; refine zJ (fun K hK => ?_); simp (disch := omega) only [push_cast, ↓Int.cast_ofNat_Int, simprocAttr]
 (repeat refine ⟨by first | omega | decide | ((repeat' apply And.intro) <;> first | omega | decide), ?_⟩)
 refine hK _ ?_; clear hK K
 refine yB [0, 7, 8] [0, 1, 64] (by simp only [zZ, zR, zP, zQ, zN, zS, zM, zX, zU, Nat.reduceEqDiff, reduceIte]; exact rfl) ?_
 refine zJ (fun K hK => ?_); simp (disch := omega) only [push_cast, ↓Int.cast_ofNat_Int, simprocAttr]
 refine eC 344 [0, 1] zFb (c6) rfl (by decide) (by decide) (by simp only [push_cast, simprocAttr]; try rfl) (by simp only [push_cast, simprocAttr]; try rfl) ?_
 rintro _ _ ⟨rfl, rfl⟩
 refine aM ?_; simp (disch := omega) only [push_cast, ↓Int.cast_ofNat_Int, simprocAttr]
 refine eC 352 [0, 1] qWp (c5) rfl (by decide) (by decide) (by simp only [push_cast, simprocAttr]; try rfl) (by simp only [push_cast, simprocAttr]; try rfl) ?_
 rintro _ _ ⟨rfl, rfl⟩
 refine aM ?_; simp (disch := omega) only [push_cast, ↓Int.cast_ofNat_Int, simprocAttr]
 refine hK _ ?_; clear hK K
 refine zE ?_; refine zJ (fun K hK => ?_); simp (disch := omega) only [push_cast, ↓Int.cast_ofNat_Int, simprocAttr]; refine hK _ ?_; clear hK K
 refine zA ?_; refine zW ?_
 simp only [aK, aR, yH, yE, yK, yJ, aG, zS, zM, Nat.reduceEqDiff, reduceIte, reduceCtorEq]
 refine cJ [0, 1] (by decide) (by decide) (by simp only [push_cast, simprocAttr]) (by simp only [push_cast, simprocAttr]) (by simp only [push_cast, simprocAttr]; rfl) (by simp only [push_cast, simprocAttr]; rfl) ?_
 refine ⟨rfl, true, ?_⟩
 simp only [iY, hL]
set_option maxHeartbeats 4000000 in
theorem qZ9 (d : Dk) (R : LN) (fr nw : Bool) (ok : ROk d R) (p : ByteArray) (hs : p.size ≤ 1048576) : HFunS Tryz.prog 27 [.ptr 0 6 0 0, .v (.string p)] (rst d R fr nw) (fun h st => h = .v (.int .i64 (cW d p).1) ∧ ∃ fr', st = rst (cW d p).2 R fr' nw) := by
 refine kJ (N := 29) Tryz.func27 rfl Tryz.ntmps27 Tryz.results27 (by simp) ?_
 have c1 := rN d R p 0 hs
 have c3 := kZ d R p ok.l4
 have cl := qQn d R p ok.l4 ok.keys
 have c4 := xT d R fr nw ok.armed ok.steps
 have c5 := qXd (aS d).2 R fr nw p (by rw [(dH d).1]; exact ok.l4)
 simp only [rst, eF] at c4 c5 ⊢
 refine zE ?_; refine zJ (fun K hK => ?_); simp (disch := omega) only [push_cast, ↓Int.cast_ofNat_Int, simprocAttr]; refine hK _ ?_; clear hK K
 refine zE ?_; refine zJ (fun K hK => ?_); simp (disch := omega) only [push_cast, ↓Int.cast_ofNat_Int, simprocAttr]
 refine cG zBc c1 (.cons (dL rfl rfl) (.cons (.v _) (.cons (.v _) .nil))) ?_
 with_reducible refine aM ?_; simp (disch := omega) only [push_cast, ↓Int.cast_ofNat_Int, simprocAttr]
 refine hK _ ?_; clear hK K
 refine zE ?_; refine zE ?_; refine zJ (fun K hK => ?_); simp (disch := omega) only [push_cast, ↓Int.cast_ofNat_Int, simprocAttr]; refine hK _ ?_; clear hK K
 refine zA ?_
 rcases (Decidable.em (may d p 0 = 0)).symm with h0 | h0
 ·have hr : cW d p = (may d p 0, d) := by simp [cW, h0]
  rw [hr]
  refine bE rfl (fun _ => ?_) (fun h => by simp [h0] at h)
  refine zE ?_; refine zJ (fun K hK => ?_); simp (disch := omega) only [push_cast, ↓Int.cast_ofNat_Int, simprocAttr]; refine hK _ ?_; clear hK K
  refine zA ?_; refine zW ?_; refine zK ?_
  simp only [aK, aR, yH, yE, yK, yJ, aG, zS, zM, Nat.reduceEqDiff, reduceIte, reduceCtorEq]
  refine cJ [0, 1] (by decide) (by decide) (by simp only [push_cast, simprocAttr]) (by simp only [push_cast, simprocAttr]) (by simp only [push_cast, simprocAttr]; rfl) (by simp only [push_cast, simprocAttr]; rfl) ?_
  exact ⟨rfl, fr, rfl⟩
 refine bE rfl (fun h => by simp [h0] at h) (fun _ => ?_)
 refine yB [0, 1] [0, 1] (by simp only [zZ, zR, zP, zQ, zN, zS, zM, zX, zU, Nat.reduceEqDiff, reduceIte]; exact rfl) ?_
 refine zC ?_; refine zE ?_; refine zE ?_; refine zJ (fun K hK => ?_); simp (disch := omega) only [push_cast, ↓Int.cast_ofNat_Int, simprocAttr]
 refine cG mU c3 (.cons (dL rfl rfl) (.cons (.v _) .nil)) ?_
 with_reducible refine aM ?_; simp (disch := omega) only [push_cast, ↓Int.cast_ofNat_Int, simprocAttr]
 refine hK _ ?_; clear hK K
 refine zA ?_
 by_cases h1 : hZ d p = 0
 ·have hh : has d p = false := by
   rcases gS d p with ⟨a, b⟩ | ⟨a, a2, b⟩ | ⟨a, a2, b⟩
   ·exact a
   ·omega
   ·omega
  have hr : cW d p = (11, d) := by simp [cW, h0, hh]
  rw [hr]
  refine bE rfl (fun _ => ?_) (fun h => by simp [h1] at h)
  refine zE ?_; refine zJ (fun K hK => ?_); simp (disch := omega) only [push_cast, ↓Int.cast_ofNat_Int, simprocAttr]; refine hK _ ?_; clear hK K
  refine zA ?_; refine zW ?_; refine zK ?_
  simp only [aK, aR, yH, yE, yK, yJ, aG, zS, zM, Nat.reduceEqDiff, reduceIte, reduceCtorEq]
  refine cJ [0, 1] (by decide) (by decide) (by simp only [push_cast, simprocAttr]) (by simp only [push_cast, simprocAttr]) (by simp only [push_cast, simprocAttr]; rfl) (by simp only [push_cast, simprocAttr]; rfl) ?_
  exact ⟨rfl, fr, rfl⟩
 have hh : has d p = true := by
  rcases gS d p with ⟨a, b⟩ | ⟨a, a2, b⟩ | ⟨a, a2, b⟩
  ·omega
  ·exact a
  ·exact a
 refine bE rfl (fun h => by simp [h1] at h) (fun _ => ?_)
 refine yB [0, 1] [0, 1] (by simp only [zZ, zR, zP, zQ, zN, zS, zM, zX, zU, Nat.reduceEqDiff, reduceIte]; exact rfl) ?_
 have hll : (mF d p).length ≤ 4194304 := by
  unfold mF
  rw [List.length_map]
  exact Nat.le_trans (List.length_filter_le _ _) ok.l4
 refine zC ?_; refine zE ?_; refine zE ?_; refine zJ (fun K hK => ?_); simp (disch := omega) only [push_cast, ↓Int.cast_ofNat_Int, simprocAttr]
 refine hat 144 zJo cl (.cons (dL rfl rfl) (.cons (.v _) .nil)) ?_
 rintro _ _ ⟨rfl, rfl⟩
 with_reducible refine aM ?_; simp (disch := omega) only [push_cast, ↓Int.cast_ofNat_Int, simprocAttr, cH]
 refine hK _ ?_; clear hK K
 refine zA ?_
 by_cases h2 : mF d p = []
 ·rw [h2]
  have hrem : (aS d).1 ≠ 0 → cW d p = aS d := fun h => by simp [cW, h0, hh, h2, h]
  have hrem0 : (aS d).1 = 0 → cW d p = (0, { (aS d).2 with L := del p d.L }) := fun h => by simp [cW, h0, hh, h2, h]
  refine yC rfl ?_
  refine yB [0, 1] [0, 1] (by simp only [zZ, zR, zP, zQ, zN, zS, zM, zX, zU, Nat.reduceEqDiff, reduceIte]; exact rfl) ?_
  refine zC ?_; refine zE ?_; refine zJ (fun K hK => ?_); simp (disch := omega) only [push_cast, ↓Int.cast_ofNat_Int, simprocAttr]
  refine eC 176 [0, 1] zBb (c4) rfl (by decide) (by decide) (by simp only [push_cast, simprocAttr]; try rfl) (by simp only [push_cast, simprocAttr]; try rfl) ?_
  rintro _ _ ⟨rfl, rfl⟩
  refine aM ?_; simp (disch := omega) only [push_cast, ↓Int.cast_ofNat_Int, simprocAttr]
  refine hK _ ?_; clear hK K
  refine zE ?_; refine zE ?_; refine zJ (fun K hK => ?_); simp (disch := omega) only [push_cast, ↓Int.cast_ofNat_Int, simprocAttr]; refine hK _ ?_; clear hK K
  refine zA ?_
  rcases (fB d).symm with ⟨h4, h5⟩ | ⟨h4, h5⟩
  ·rw [hrem (by omega), h4]
   refine yC rfl ?_
   refine zC ?_; refine zE ?_
   refine zJ (fun K hK => ?_); simp (disch := omega) only [push_cast, ↓Int.cast_ofNat_Int, simprocAttr]; refine hK _ ?_; clear hK K
   refine zA ?_; refine zW ?_
   simp only [aK, aR, yH, yE, yK, yJ, aG, zS, zM, Nat.reduceEqDiff, reduceIte, reduceCtorEq]
   refine cJ [0, 1] (by decide) (by decide) (by simp only [push_cast, simprocAttr]) (by simp only [push_cast, simprocAttr]) (by simp only [push_cast, simprocAttr]; rfl) (by simp only [push_cast, simprocAttr]; rfl) ?_
   exact ⟨rfl, fr, rfl⟩
  rw [hrem0 h4, h4]
  refine yD rfl ?_
  refine zJ (fun K hK => ?_); simp (disch := omega) only [push_cast, ↓Int.cast_ofNat_Int, simprocAttr]
  refine eC 216 [0, 1] zLg (c5) rfl (by decide) (by decide) (by simp only [push_cast, simprocAttr]; try rfl) (by simp only [push_cast, simprocAttr]; try rfl) ?_
  rintro _ _ ⟨rfl, rfl⟩
  refine aM ?_; simp (disch := omega) only [push_cast, ↓Int.cast_ofNat_Int, simprocAttr]
  refine hK _ ?_; clear hK K
  refine zE ?_; refine zJ (fun K hK => ?_); simp (disch := omega) only [push_cast, ↓Int.cast_ofNat_Int, simprocAttr]; refine hK _ ?_; clear hK K
  refine zA ?_; refine zW ?_
  simp only [aK, aR, yH, yE, yK, yJ, aG, zS, zM, Nat.reduceEqDiff, reduceIte, reduceCtorEq]
  refine cJ [0, 1] (by decide) (by decide) (by simp only [push_cast, simprocAttr]) (by simp only [push_cast, simprocAttr]) (by simp only [push_cast, simprocAttr]; rfl) (by simp only [push_cast, simprocAttr]; rfl) ?_
  refine ⟨rfl, true, ?_⟩
  rw [(dH d).1]
 ·have hl0 : 0 < (mF d p).length := List.length_pos_iff.2 h2
  have hr : cW d p = (12, d) := by simp [cW, h0, hh, h2]
  rw [hr]
  refine bE rfl (fun _ => ?_) (fun h => by simp at h; first | exact absurd h h2 | omega)
  refine zE ?_; refine zJ (fun K hK => ?_); simp (disch := omega) only [push_cast, ↓Int.cast_ofNat_Int, simprocAttr]; refine hK _ ?_; clear hK K
  refine zA ?_; refine zW ?_; refine zK ?_
  simp only [aK, aR, yH, yE, yK, yJ, aG, zS, zM, Nat.reduceEqDiff, reduceIte, reduceCtorEq]
  refine cJ [0, 1] (by decide) (by decide) (by simp only [push_cast, simprocAttr]) (by simp only [push_cast, simprocAttr]) (by simp only [push_cast, simprocAttr]; rfl) (by simp only [push_cast, simprocAttr]; rfl) ?_
  exact ⟨rfl, fr, rfl⟩
end Go.Proofs.YtojolcpblacjjaaGreatDoor
