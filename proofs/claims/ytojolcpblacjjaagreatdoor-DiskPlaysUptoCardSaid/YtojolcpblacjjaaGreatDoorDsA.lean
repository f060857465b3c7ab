/-
  The law's does: a call of the program's disk and of the reference's: walked.
-/
import Derived.Test.YtojolcpblacjjaaGreatDoorRkJ
import Derived.Test.YtojolcpblacjjaaGreatDoorDkR
import Derived.Test.YtojolcpblacjjaaGreatDoorDvq
set_option linter.unusedSimpArgs false
set_option linter.unusedVariables false
set_option maxRecDepth 20000
namespace Go.Dk
open Go Go.Eng Go.Tr Go.Proofs.YtojolcpblacjjaaGreatDoor
def uY (d : Dk) (k : Int) (P Q : ByteArray) (M : Int) : Dk :=
 if k = 1 then (dV d P).2 else if k = 2 then (dN d P Q).2 else if k = 3 then (append d P Q).2 else if k = 4 then (nK d P).2 else if k = 5 then (dJ d P Q).2 else if k = 6 then (cW d P).2 else
 if k = 7 then (dW d P M).2 else if k = 8 then qWu d M else if k = 9 then restart d M else if k = 10 then (uB (fun s => cZ s M) d P).2 else d
theorem qZe (d : Dk) (P Q : ByteArray) (M : Int) : uY d 8 P Q M = qWu d M := rfl
theorem qWs {d : Dk} {k : Int} {P Q : ByteArray} {M : Int} (h1 : ¬ k = 1) (h2 : ¬ k = 2) (h3 : ¬ k = 3) (h4 : ¬ k = 4) (h5 : ¬ k = 5) (h6 : ¬ k = 6) (h7 : ¬ k = 7) (h8 : ¬ k = 8) (h9 : ¬ k = 9) (h10 : ¬ k = 10) : uY d k P Q M = d := by
 unfold uY
 rw [if_neg h1, if_neg h2, if_neg h3, if_neg h4, if_neg h5, if_neg h6, if_neg h7, if_neg h8, if_neg h9, if_neg h10]
def rcj (d : Dk) (fr : Bool) (j : Nat) : List HV := [.lst fr (dS d.L), .own j, .v (.int .i64 d.steps), .v (.int .i64 d.stamps), .v (.int .i64 d.armed), .v (.bool d.down)]
structure Rel (d : Dk) (R : LN) (m : Nat) : Prop where
 look : ∀ v, bC R v = bC d.R v
 nod : (R.map fun e => e.1).Nodup
 rl : R.length ≤ m
theorem fD {d e : Dk} {R : LN} (ok : ROk d R) (h : e.R = d.R) : Rel e R (R.length + 1) := ⟨fun v => by rw [h]; exact ok.look v, ok.nod, by omega⟩
theorem zGm {d : Dk} {R : LN} {v : ByteArray} {k : Int} (ok : ROk d R) : Rel (dW d v k).2 (if (dW d v k).1 = 0 then qDl v k R else R) (R.length + 1) := by
 unfold dW
 split
 ·exact fD ok rfl
 ·split
  ·exact fD ok rfl
  ·refine ⟨fun u => ?_, zGn ok.nod, zGo v k R⟩
   show bC (qDl v k R) u = bC (put v k d.R) u
   rw [zC5, wA, ok.look]
theorem zKs (d : Dk) (v : ByteArray) (k : Int) : (dW d v k).2.L = d.L ∧ (dW d v k).2.steps = d.steps ∧ (dW d v k).2.stamps = d.stamps ∧ (dW d v k).2.armed = d.armed ∧ (dW d v k).2.down = d.down := by
 unfold dW; (repeat' split) <;> exact ⟨rfl, rfl, rfl, rfl, rfl⟩
theorem zL8 (d : Dk) (P : ByteArray) : (dV d P).2.R = d.R := by
 have := (dH d).2.1
 unfold dV; (repeat' split) <;> first | rfl | exact this
theorem zL0 (d : Dk) (P Q : ByteArray) : (dN d P Q).2.R = d.R := by
 have := (dH d).2.1
 unfold dN; (repeat' split) <;> first | rfl | exact this
theorem zM7 (d : Dk) (P Q : ByteArray) : (append d P Q).2.R = d.R := by
 have := (dH d).2.1
 unfold append; (repeat' split) <;> first | rfl | exact this
theorem zL2 (d : Dk) (P : ByteArray) : (nK d P).2.R = d.R := by
 have := (dH d).2.1
 unfold nK; (repeat' split) <;> first | rfl | exact this
theorem zL6 (d : Dk) (a b : ByteArray) : (dJ d a b).2.R = d.R := by
 have := (dH d).2.1
 have aux : ∀ (e m : Int), ((if e ≠ 0 then (e, d) else if has d a = false ∨ fA d b = false then (11, d) else if (aQ d a).dir = true ∨ (aQ d b).dir = true then (12, d) else if a ≠ b ∧ iZ d b m = false then (13, d) else if (aS d).1 ≠ 0 then aS d else (0, iY { (aS d).2 with L := del a d.L } b (aQ d a)) : Int × Dk)).2.R = d.R := by
  intro e m
  (repeat' split) <;> first | rfl | exact this
 exact aux _ _
theorem zL5 (d : Dk) (P : ByteArray) : (cW d P).2.R = d.R := by
 have := (dH d).2.1
 unfold cW; (repeat' split) <;> first | rfl | exact this
theorem zL4 (f : ByteArray → ByteArray) (d : Dk) (P : ByteArray) : (uB f d P).2.R = d.R := by
 unfold uB; split <;> rfl
theorem zH1 (loss : Int) : ∀ (ks : List ByteArray) (n : Int) (d : Dk), (gA loss ks n d).R = d.R
 | [], _, _ => rfl
 | p :: r, n, d => by
  rw [gA]
  split
  ·rw [zH1 loss r]; rfl
  ·exact zH1 loss r n d
theorem zL3 (d : Dk) (M : Int) : (restart d M).R = d.R := zH1 _ _ _ _
end Go.Dk
namespace Go.Proofs.YtojolcpblacjjaaGreatDoor
open Go Go.Eng Go.RowKit Go.Tr Go.Dk
set_option maxHeartbeats 16000000 in
theorem zE5 (d : Dk) (R : LN) (fr nw : Bool) (B : Int) (ok : d.Ok B) (hB30 : B ≤ 1073741824) (rok : ROk d R) (hlo : Lo d) (hlen : d.L.length ≤ 1000) (k : Int) (P Q : ByteArray) (M : Int) (hP : P.size ≤ 1048576) (hQ : Q.size ≤ 1048576) (hM1 : -9223372036854775808 ≤ M) (hM2 : M ≤ 9223372036854775807) (r1 r2 : Nat) :
  HFunM Tryz.prog 8 [.ptr 0 6 0 0, .ptr 1 6 0 0, .agg [.v (.int .i64 k), .v (.string P), .v (.string Q), .v (.int .i64 M)]] [(0, .bx false 47 (d.cells r1 r2)), (1, .bx false 35 (rcj d fr 2)), (2, .sl nw 76 2 (rms R))] (d.maps kS r1 r2)
   (fun h st g => h = .v (.bool true) ∧ ∃ R' fr' nw', Rel (uY d k P Q M) R' (R.length + 1) ∧ st = [(0, .bx false 47 ((uY d k P Q M).cells r1 r2)), (1, .bx false 35 (rcj (uY d k P Q M) fr' 2)), (2, .sl nw' 76 2 (rms R'))] ∧ g = (uY d k P Q M).maps kS r1 r2) := by
 refine iU (N := 145) Tryz.func8 rfl Tryz.ntmps8 Tryz.results8 (by simp) ?_
 have hB : B ≤ 1099511627776 := by omega
 have hl4 : d.L.length ≤ 4194304 := by omega
 have hst : 0 ≤ d.stamps ∧ d.stamps ≤ 1073741824 := ⟨ok.stamps.1, by have := ok.stamps.2; omega⟩
 simp only [bG, rcj]
 refine aA ?_; refine aC (fun K hK => ?_); simp (disch := omega) only [push_cast, ↓Int.cast_ofNat_Int, simprocAttr]; refine hK _ ?_; clear hK K
 refine aA ?_; refine aA ?_; refine aC (fun K hK => ?_); simp (disch := omega) only [push_cast, ↓Int.cast_ofNat_Int, simprocAttr]; refine hK _ ?_; clear hK K
 refine aT [0, 1, 5, 8] [0, 1, 2, 40] (by simp only [zZ, zR, zP, zQ, zN, zS, zM, zX, zU, Nat.reduceEqDiff, reduceIte]; exact rfl) ?_
 refine bL ?_; refine aA ?_
 by_cases h1 : k = 1
 ·subst h1
  refine aC (fun K hK => ?_); simp (disch := omega) only [push_cast, ↓Int.cast_ofNat_Int, simprocAttr]; refine hK _ ?_; clear hK K
  refine aB ?_
  refine bY rfl ?_
  have hxx : decide ((dV d P).1 = (dV d P).1) = true := decide_eq_true rfl
  have c1 := qXz d B ok hB P r1 r2 hP
  have c2 := zCa d R fr nw rok P hP
  simp only [bG, rst, eF] at c1 c2
  refine aT [0, 1, 5] [0, 1, 2, 40] (by simp only [zZ, zR, zP, zQ, zN, zS, zM, zX, zU, Nat.reduceEqDiff, reduceIte]; exact rfl) ?_
  refine aA ?_; refine kD 7 3 5 40 14 112 [.mv 11 0, .fa 12 1, .ld 13 1 1, .go, .mv 15 1, .fa 16 1, .ld 17 5 1] [0] (cells := [.int .i64 1, .string P, .string Q, .int .i64 M]) mixed (by kernel_rfl) (by decide) rfl rfl rfl ⟨⟨_, rfl, rfl, rfl, rfl, rfl⟩, ⟨_, _, _, rfl, rfl, rfl, rfl, gC⟩, ⟨_, _, _, rfl, rfl, rfl, rfl, kt9, rfl, by simp, by decide⟩, trivial, ⟨_, rfl, rfl, rfl, rfl, rfl⟩, ⟨_, _, _, rfl, rfl, rfl, rfl, gC⟩, ⟨_, _, _, rfl, rfl, rfl, rfl, kt9, rfl, by simp, by decide⟩, trivial⟩ (by kernel_rfl) (by kernel_rfl) (by kernel_rfl) rfl rfl rfl rfl rfl rfl rfl zLl rfl (c1) (by decide) (by decide) (by decide) (by simp only [push_cast, simprocAttr]; try rfl) (by simp only [push_cast, simprocAttr]; try rfl) (by rintro _ _ _ ⟨rfl, rfl, rfl⟩; constructor <;> simp (disch := omega) only [push_cast, ↓Int.cast_ofNat_Int, simprocAttr, aF, aD] <;> rfl) ?_
  rintro _ _ _ ⟨rfl, rfl, rfl⟩
  refine aH 3 (fun K1 hK1 => ?_); simp (disch := omega) only [push_cast, ↓Int.cast_ofNat_Int, simprocAttr, aF, aD, qY, qZ, uA, tZ, mL, iJ, iK]
  refine eC 144 [1, 2] zM4 (c2) rfl (by decide) (by decide) (by simp only [push_cast, simprocAttr]; try rfl) (by simp only [push_cast, simprocAttr]; try rfl) ?_
  rintro _ _ ⟨rfl, fr2, rfl⟩
  refine aM ?_; simp (disch := omega) only [push_cast, ↓Int.cast_ofNat_Int, simprocAttr, hxx]
  refine hK1 _ ?_; (try clear hK1 K1)
  refine aW ?_
  refine aB ?_; refine aY ?_; refine cQ ?_; refine bK ?_
  simp only [aE, aL, yH, yE, yK, yJ, aG, zS, zM, Nat.reduceEqDiff, reduceIte, reduceCtorEq]
  refine bR [0, 1, 2] [] (by first | rfl | simp [bsL, MO.bs]) (by decide) (by decide) (by simp only [push_cast, simprocAttr]) (by simp only [push_cast, simprocAttr]) (by simp only [push_cast, simprocAttr]; rfl) (by simp only [push_cast, simprocAttr]; rfl) ?_
  exact ⟨rfl, R, fr2, nw, fD rok (zL8 d P), rfl, rfl⟩
 have e1 : decide (k = 1) = false := decide_eq_false h1
 refine aC (fun K hK => ?_); simp (disch := omega) only [push_cast, ↓Int.cast_ofNat_Int, simprocAttr, e1]; refine hK _ ?_; clear hK K
 refine aB ?_
 refine bB rfl ?_
 refine aA ?_
 by_cases h2 : k = 2
 ·subst h2
  refine aC (fun K hK => ?_); simp (disch := omega) only [push_cast, ↓Int.cast_ofNat_Int, simprocAttr]; refine hK _ ?_; clear hK K
  refine aB ?_
  refine bY rfl ?_
  have hxx : decide ((dN d P Q).1 = (dN d P Q).1) = true := decide_eq_true rfl
  have c1 := qWx d B ok hB P r1 r2 hP Q hQ
  have c2 := zB5 d R fr nw rok P Q hP hQ
  simp only [bG, rst, eF] at c1 c2
  refine aT [0, 1, 5] [0, 1, 2, 40] (by simp only [zZ, zR, zP, zQ, zN, zS, zM, zX, zU, Nat.reduceEqDiff, reduceIte]; exact rfl) ?_
  refine aA ?_; refine kD 11 5 5 40 27 216 [.mv 22 0, .fa 23 1, .ld 24 1 1, .fa 25 2, .ld 26 3 2, .go, .mv 28 1, .fa 29 1, .ld 30 7 1, .fa 31 2, .ld 32 9 2] [0] (cells := [.int .i64 2, .string P, .string Q, .int .i64 M]) mixed (by kernel_rfl) (by decide) rfl rfl rfl ⟨⟨_, rfl, rfl, rfl, rfl, rfl⟩, ⟨_, _, _, rfl, rfl, rfl, rfl, gC⟩, ⟨_, _, _, rfl, rfl, rfl, rfl, kt9, rfl, by simp, by decide⟩, ⟨_, _, _, rfl, rfl, rfl, rfl, wT⟩, ⟨_, _, _, rfl, rfl, rfl, rfl, kt9, rfl, by simp, by decide⟩, trivial, ⟨_, rfl, rfl, rfl, rfl, rfl⟩, ⟨_, _, _, rfl, rfl, rfl, rfl, gC⟩, ⟨_, _, _, rfl, rfl, rfl, rfl, kt9, rfl, by simp, by decide⟩, ⟨_, _, _, rfl, rfl, rfl, rfl, wT⟩, ⟨_, _, _, rfl, rfl, rfl, rfl, kt9, rfl, by simp, by decide⟩, trivial⟩ (by kernel_rfl) (by kernel_rfl) (by kernel_rfl) rfl rfl rfl rfl rfl rfl rfl zLk rfl (c1) (by decide) (by decide) (by decide) (by simp only [push_cast, simprocAttr]; try rfl) (by simp only [push_cast, simprocAttr]; try rfl) (by rintro _ _ _ ⟨rfl, rfl, rfl⟩; constructor <;> simp (disch := omega) only [push_cast, ↓Int.cast_ofNat_Int, simprocAttr, aF, aD] <;> rfl) ?_
  rintro _ _ _ ⟨rfl, rfl, rfl⟩
  refine aH 3 (fun K1 hK1 => ?_); simp (disch := omega) only [push_cast, ↓Int.cast_ofNat_Int, simprocAttr, aF, aD, qY, qZ, uA, tZ, mL, iJ, iK]
  refine eC 264 [1, 2] zM3 (c2) rfl (by decide) (by decide) (by simp only [push_cast, simprocAttr]; try rfl) (by simp only [push_cast, simprocAttr]; try rfl) ?_
  rintro _ _ ⟨rfl, fr2, rfl⟩
  refine aM ?_; simp (disch := omega) only [push_cast, ↓Int.cast_ofNat_Int, simprocAttr, hxx]
  refine hK1 _ ?_; (try clear hK1 K1)
  refine aW ?_
  refine aB ?_; refine aY ?_; refine cQ ?_; refine bK ?_
  simp only [aE, aL, yH, yE, yK, yJ, aG, zS, zM, Nat.reduceEqDiff, reduceIte, reduceCtorEq]
  refine bR [0, 1, 2] [] (by first | rfl | simp [bsL, MO.bs]) (by decide) (by decide) (by simp only [push_cast, simprocAttr]) (by simp only [push_cast, simprocAttr]) (by simp only [push_cast, simprocAttr]; rfl) (by simp only [push_cast, simprocAttr]; rfl) ?_
  exact ⟨rfl, R, fr2, nw, fD rok (zL0 d P Q), rfl, rfl⟩
 have e2 : decide (k = 2) = false := decide_eq_false h2
 refine aC (fun K hK => ?_); simp (disch := omega) only [push_cast, ↓Int.cast_ofNat_Int, simprocAttr, e2]; refine hK _ ?_; clear hK K
 refine aB ?_
 refine bB rfl ?_
 refine aA ?_
 by_cases h3 : k = 3
 ·subst h3
  refine aC (fun K hK => ?_); simp (disch := omega) only [push_cast, ↓Int.cast_ofNat_Int, simprocAttr]; refine hK _ ?_; clear hK K
  refine aB ?_
  refine bY rfl ?_
  have hxx : decide ((append d P Q).1 = (append d P Q).1) = true := decide_eq_true rfl
  have c1 := zFk d B ok hB P r1 r2 hP Q hQ
  have c2 := zAk d R fr nw rok P Q hP hQ
  simp only [bG, rst, eF] at c1 c2
  refine aT [0, 1, 5] [0, 1, 2, 40] (by simp only [zZ, zR, zP, zQ, zN, zS, zM, zX, zU, Nat.reduceEqDiff, reduceIte]; exact rfl) ?_
  refine aA ?_; refine kD 11 5 5 40 42 336 [.mv 37 0, .fa 38 1, .ld 39 1 1, .fa 40 2, .ld 41 3 2, .go, .mv 43 1, .fa 44 1, .ld 45 7 1, .fa 46 2, .ld 47 9 2] [0] (cells := [.int .i64 3, .string P, .string Q, .int .i64 M]) mixed (by kernel_rfl) (by decide) rfl rfl rfl ⟨⟨_, rfl, rfl, rfl, rfl, rfl⟩, ⟨_, _, _, rfl, rfl, rfl, rfl, gC⟩, ⟨_, _, _, rfl, rfl, rfl, rfl, kt9, rfl, by simp, by decide⟩, ⟨_, _, _, rfl, rfl, rfl, rfl, wT⟩, ⟨_, _, _, rfl, rfl, rfl, rfl, kt9, rfl, by simp, by decide⟩, trivial, ⟨_, rfl, rfl, rfl, rfl, rfl⟩, ⟨_, _, _, rfl, rfl, rfl, rfl, gC⟩, ⟨_, _, _, rfl, rfl, rfl, rfl, kt9, rfl, by simp, by decide⟩, ⟨_, _, _, rfl, rfl, rfl, rfl, wT⟩, ⟨_, _, _, rfl, rfl, rfl, rfl, kt9, rfl, by simp, by decide⟩, trivial⟩ (by kernel_rfl) (by kernel_rfl) (by kernel_rfl) rfl rfl rfl rfl rfl rfl rfl zM2 rfl (c1) (by decide) (by decide) (by decide) (by simp only [push_cast, simprocAttr]; try rfl) (by simp only [push_cast, simprocAttr]; try rfl) (by rintro _ _ _ ⟨rfl, rfl, rfl⟩; constructor <;> simp (disch := omega) only [push_cast, ↓Int.cast_ofNat_Int, simprocAttr, aF, aD] <;> rfl) ?_
  rintro _ _ _ ⟨rfl, rfl, rfl⟩
  refine aH 3 (fun K1 hK1 => ?_); simp (disch := omega) only [push_cast, ↓Int.cast_ofNat_Int, simprocAttr, aF, aD, qY, qZ, uA, tZ, mL, iJ, iK]
  refine eC 384 [1, 2] zM1 (c2) rfl (by decide) (by decide) (by simp only [push_cast, simprocAttr]; try rfl) (by simp only [push_cast, simprocAttr]; try rfl) ?_
  rintro _ _ ⟨rfl, fr2, rfl⟩
  refine aM ?_; simp (disch := omega) only [push_cast, ↓Int.cast_ofNat_Int, simprocAttr, hxx]
  refine hK1 _ ?_; (try clear hK1 K1)
  refine aW ?_
  refine aB ?_; refine aY ?_; refine cQ ?_; refine bK ?_
  simp only [aE, aL, yH, yE, yK, yJ, aG, zS, zM, Nat.reduceEqDiff, reduceIte, reduceCtorEq]
  refine bR [0, 1, 2] [] (by first | rfl | simp [bsL, MO.bs]) (by decide) (by decide) (by simp only [push_cast, simprocAttr]) (by simp only [push_cast, simprocAttr]) (by simp only [push_cast, simprocAttr]; rfl) (by simp only [push_cast, simprocAttr]; rfl) ?_
  exact ⟨rfl, R, fr2, nw, fD rok (zM7 d P Q), rfl, rfl⟩
 have e3 : decide (k = 3) = false := decide_eq_false h3
 refine aC (fun K hK => ?_); simp (disch := omega) only [push_cast, ↓Int.cast_ofNat_Int, simprocAttr, e3]; refine hK _ ?_; clear hK K
 refine aB ?_
 refine bB rfl ?_
 refine aA ?_
 by_cases h4 : k = 4
 ·subst h4
  refine aC (fun K hK => ?_); simp (disch := omega) only [push_cast, ↓Int.cast_ofNat_Int, simprocAttr]; refine hK _ ?_; clear hK K
  refine aB ?_
  refine bY rfl ?_
  have hxx : decide ((nK d P).1 = (nK d P).1) = true := decide_eq_true rfl
  have c1 := zHt d B ok hB P r1 r2 hP
  have c2 := zF3 d R fr nw rok P hP
  simp only [bG, rst, eF] at c1 c2
  refine aT [0, 1, 5] [0, 1, 2, 40] (by simp only [zZ, zR, zP, zQ, zN, zS, zM, zX, zU, Nat.reduceEqDiff, reduceIte]; exact rfl) ?_
  refine aA ?_; refine kD 7 3 5 40 55 440 [.mv 52 0, .fa 53 1, .ld 54 1 1, .go, .mv 56 1, .fa 57 1, .ld 58 5 1] [0] (cells := [.int .i64 4, .string P, .string Q, .int .i64 M]) mixed (by kernel_rfl) (by decide) rfl rfl rfl ⟨⟨_, rfl, rfl, rfl, rfl, rfl⟩, ⟨_, _, _, rfl, rfl, rfl, rfl, gC⟩, ⟨_, _, _, rfl, rfl, rfl, rfl, kt9, rfl, by simp, by decide⟩, trivial, ⟨_, rfl, rfl, rfl, rfl, rfl⟩, ⟨_, _, _, rfl, rfl, rfl, rfl, gC⟩, ⟨_, _, _, rfl, rfl, rfl, rfl, kt9, rfl, by simp, by decide⟩, trivial⟩ (by kernel_rfl) (by kernel_rfl) (by kernel_rfl) rfl rfl rfl rfl rfl rfl rfl zM0 rfl (c1) (by decide) (by decide) (by decide) (by simp only [push_cast, simprocAttr]; try rfl) (by simp only [push_cast, simprocAttr]; try rfl) (by rintro _ _ _ ⟨rfl, rfl, rfl⟩; constructor <;> simp (disch := omega) only [push_cast, ↓Int.cast_ofNat_Int, simprocAttr, aF, aD] <;> rfl) ?_
  rintro _ _ _ ⟨rfl, rfl, rfl⟩
  refine aH 3 (fun K1 hK1 => ?_); simp (disch := omega) only [push_cast, ↓Int.cast_ofNat_Int, simprocAttr, aF, aD, qY, qZ, uA, tZ, mL, iJ, iK]
  refine eC 472 [1, 2] zMz (c2) rfl (by decide) (by decide) (by simp only [push_cast, simprocAttr]; try rfl) (by simp only [push_cast, simprocAttr]; try rfl) ?_
  rintro _ _ ⟨rfl, fr2, rfl⟩
  refine aM ?_; simp (disch := omega) only [push_cast, ↓Int.cast_ofNat_Int, simprocAttr, hxx]
  refine hK1 _ ?_; (try clear hK1 K1)
  refine aW ?_
  refine aB ?_; refine aY ?_; refine cQ ?_; refine bK ?_
  simp only [aE, aL, yH, yE, yK, yJ, aG, zS, zM, Nat.reduceEqDiff, reduceIte, reduceCtorEq]
  refine bR [0, 1, 2] [] (by first | rfl | simp [bsL, MO.bs]) (by decide) (by decide) (by simp only [push_cast, simprocAttr]) (by simp only [push_cast, simprocAttr]) (by simp only [push_cast, simprocAttr]; rfl) (by simp only [push_cast, simprocAttr]; rfl) ?_
  exact ⟨rfl, R, fr2, nw, fD rok (zL2 d P), rfl, rfl⟩
 have e4 : decide (k = 4) = false := decide_eq_false h4
 refine aC (fun K hK => ?_); simp (disch := omega) only [push_cast, ↓Int.cast_ofNat_Int, simprocAttr, e4]; refine hK _ ?_; clear hK K
 refine aB ?_
 refine bB rfl ?_
 refine aA ?_
 by_cases h5 : k = 5
 ·subst h5
  refine aC (fun K hK => ?_); simp (disch := omega) only [push_cast, ↓Int.cast_ofNat_Int, simprocAttr]; refine hK _ ?_; clear hK K
  refine aB ?_
  refine bY rfl ?_
  have hxx : decide ((dJ d P Q).1 = (dJ d P Q).1) = true := decide_eq_true rfl
  have c1 := qR4 d B ok hB P Q r1 r2 hP hQ
  have c2 := qZ8 d R fr nw rok P Q hP hQ
  simp only [bG, rst, eF] at c1 c2
  refine aT [0, 1, 5] [0, 1, 2, 40] (by simp only [zZ, zR, zP, zQ, zN, zS, zM, zX, zU, Nat.reduceEqDiff, reduceIte]; exact rfl) ?_
  refine aA ?_; refine kD 11 5 5 40 68 544 [.mv 63 0, .fa 64 1, .ld 65 1 1, .fa 66 2, .ld 67 3 2, .go, .mv 69 1, .fa 70 1, .ld 71 7 1, .fa 72 2, .ld 73 9 2] [0] (cells := [.int .i64 5, .string P, .string Q, .int .i64 M]) mixed (by kernel_rfl) (by decide) rfl rfl rfl ⟨⟨_, rfl, rfl, rfl, rfl, rfl⟩, ⟨_, _, _, rfl, rfl, rfl, rfl, gC⟩, ⟨_, _, _, rfl, rfl, rfl, rfl, kt9, rfl, by simp, by decide⟩, ⟨_, _, _, rfl, rfl, rfl, rfl, wT⟩, ⟨_, _, _, rfl, rfl, rfl, rfl, kt9, rfl, by simp, by decide⟩, trivial, ⟨_, rfl, rfl, rfl, rfl, rfl⟩, ⟨_, _, _, rfl, rfl, rfl, rfl, gC⟩, ⟨_, _, _, rfl, rfl, rfl, rfl, kt9, rfl, by simp, by decide⟩, ⟨_, _, _, rfl, rfl, rfl, rfl, wT⟩, ⟨_, _, _, rfl, rfl, rfl, rfl, kt9, rfl, by simp, by decide⟩, trivial⟩ (by kernel_rfl) (by kernel_rfl) (by kernel_rfl) rfl rfl rfl rfl rfl rfl rfl zLj rfl (c1) (by decide) (by decide) (by decide) (by simp only [push_cast, simprocAttr]; try rfl) (by simp only [push_cast, simprocAttr]; try rfl) (by rintro _ _ _ ⟨rfl, rfl, rfl⟩; constructor <;> simp (disch := omega) only [push_cast, ↓Int.cast_ofNat_Int, simprocAttr, aF, aD] <;> rfl) ?_
  rintro _ _ _ ⟨rfl, rfl, rfl⟩
  refine aH 3 (fun K1 hK1 => ?_); simp (disch := omega) only [push_cast, ↓Int.cast_ofNat_Int, simprocAttr, aF, aD, qY, qZ, uA, tZ, mL, iJ, iK]
  refine eC 592 [1, 2] zMy (c2) rfl (by decide) (by decide) (by simp only [push_cast, simprocAttr]; try rfl) (by simp only [push_cast, simprocAttr]; try rfl) ?_
  rintro _ _ ⟨rfl, fr2, rfl⟩
  refine aM ?_; simp (disch := omega) only [push_cast, ↓Int.cast_ofNat_Int, simprocAttr, hxx]
  refine hK1 _ ?_; (try clear hK1 K1)
  refine aW ?_
  refine aB ?_; refine aY ?_; refine cQ ?_; refine bK ?_
  simp only [aE, aL, yH, yE, yK, yJ, aG, zS, zM, Nat.reduceEqDiff, reduceIte, reduceCtorEq]
  refine bR [0, 1, 2] [] (by first | rfl | simp [bsL, MO.bs]) (by decide) (by decide) (by simp only [push_cast, simprocAttr]) (by simp only [push_cast, simprocAttr]) (by simp only [push_cast, simprocAttr]; rfl) (by simp only [push_cast, simprocAttr]; rfl) ?_
  exact ⟨rfl, R, fr2, nw, fD rok (zL6 d P Q), rfl, rfl⟩
 have e5 : decide (k = 5) = false := decide_eq_false h5
 refine aC (fun K hK => ?_); simp (disch := omega) only [push_cast, ↓Int.cast_ofNat_Int, simprocAttr, e5]; refine hK _ ?_; clear hK K
 refine aB ?_
 refine bB rfl ?_
 refine aA ?_
 by_cases h6 : k = 6
 ·subst h6
  refine aC (fun K hK => ?_); simp (disch := omega) only [push_cast, ↓Int.cast_ofNat_Int, simprocAttr]; refine hK _ ?_; clear hK K
  refine aB ?_
  refine bY rfl ?_
  have hxx : decide ((cW d P).1 = (cW d P).1) = true := decide_eq_true rfl
  have c1 := zCf d B ok hB P r1 r2 hP hl4
  have c2 := qZ9 d R fr nw rok P hP
  simp only [bG, rst, eF] at c1 c2
  refine aT [0, 1, 5] [0, 1, 2, 40] (by simp only [zZ, zR, zP, zQ, zN, zS, zM, zX, zU, Nat.reduceEqDiff, reduceIte]; exact rfl) ?_
  refine aA ?_; refine kD 7 3 5 40 81 648 [.mv 78 0, .fa 79 1, .ld 80 1 1, .go, .mv 82 1, .fa 83 1, .ld 84 5 1] [0] (cells := [.int .i64 6, .string P, .string Q, .int .i64 M]) mixed (by kernel_rfl) (by decide) rfl rfl rfl ⟨⟨_, rfl, rfl, rfl, rfl, rfl⟩, ⟨_, _, _, rfl, rfl, rfl, rfl, gC⟩, ⟨_, _, _, rfl, rfl, rfl, rfl, kt9, rfl, by simp, by decide⟩, trivial, ⟨_, rfl, rfl, rfl, rfl, rfl⟩, ⟨_, _, _, rfl, rfl, rfl, rfl, gC⟩, ⟨_, _, _, rfl, rfl, rfl, rfl, kt9, rfl, by simp, by decide⟩, trivial⟩ (by kernel_rfl) (by kernel_rfl) (by kernel_rfl) rfl rfl rfl rfl rfl rfl rfl zMx rfl (c1) (by decide) (by decide) (by decide) (by simp only [push_cast, simprocAttr]; try rfl) (by simp only [push_cast, simprocAttr]; try rfl) (by rintro _ _ _ ⟨rfl, rfl, rfl⟩; constructor <;> simp (disch := omega) only [push_cast, ↓Int.cast_ofNat_Int, simprocAttr, aF, aD] <;> rfl) ?_
  rintro _ _ _ ⟨rfl, rfl, rfl⟩
  refine aH 3 (fun K1 hK1 => ?_); simp (disch := omega) only [push_cast, ↓Int.cast_ofNat_Int, simprocAttr, aF, aD, qY, qZ, uA, tZ, mL, iJ, iK]
  refine eC 680 [1, 2] zMw (c2) rfl (by decide) (by decide) (by simp only [push_cast, simprocAttr]; try rfl) (by simp only [push_cast, simprocAttr]; try rfl) ?_
  rintro _ _ ⟨rfl, fr2, rfl⟩
  refine aM ?_; simp (disch := omega) only [push_cast, ↓Int.cast_ofNat_Int, simprocAttr, hxx]
  refine hK1 _ ?_; (try clear hK1 K1)
  refine aW ?_
  refine aB ?_; refine aY ?_; refine cQ ?_; refine bK ?_
  simp only [aE, aL, yH, yE, yK, yJ, aG, zS, zM, Nat.reduceEqDiff, reduceIte, reduceCtorEq]
  refine bR [0, 1, 2] [] (by first | rfl | simp [bsL, MO.bs]) (by decide) (by decide) (by simp only [push_cast, simprocAttr]) (by simp only [push_cast, simprocAttr]) (by simp only [push_cast, simprocAttr]; rfl) (by simp only [push_cast, simprocAttr]; rfl) ?_
  exact ⟨rfl, R, fr2, nw, fD rok (zL5 d P), rfl, rfl⟩
 have e6 : decide (k = 6) = false := decide_eq_false h6
 refine aC (fun K hK => ?_); simp (disch := omega) only [push_cast, ↓Int.cast_ofNat_Int, simprocAttr, e6]; refine hK _ ?_; clear hK K
 refine aB ?_
 refine bB rfl ?_
 refine aA ?_
 by_cases h7 : k = 7
 ·subst h7
  refine aC (fun K hK => ?_); simp (disch := omega) only [push_cast, ↓Int.cast_ofNat_Int, simprocAttr]; refine hK _ ?_; clear hK K
  refine aB ?_
  refine bY rfl ?_
  have hxx : decide ((dW d P M).1 = (dW d P M).1) = true := decide_eq_true rfl
  have c1 := zGl d B ok hB P r1 r2 hP M
  have c2 := zCb d R fr nw rok.rl P M hP
  simp only [bG, rst, eF] at c1 c2
  refine aT [0, 1, 5] [0, 1, 2, 40] (by simp only [zZ, zR, zP, zQ, zN, zS, zM, zX, zU, Nat.reduceEqDiff, reduceIte]; exact rfl) ?_
  refine aA ?_; refine kD 11 5 5 40 94 752 [.mv 89 0, .fa 90 1, .ld 91 1 1, .fa 92 3, .ld 93 3 3, .go, .mv 95 1, .fa 96 1, .ld 97 7 1, .fa 98 3, .ld 99 9 3] [0] (cells := [.int .i64 7, .string P, .string Q, .int .i64 M]) mixed (by kernel_rfl) (by decide) rfl rfl rfl ⟨⟨_, rfl, rfl, rfl, rfl, rfl⟩, ⟨_, _, _, rfl, rfl, rfl, rfl, gC⟩, ⟨_, _, _, rfl, rfl, rfl, rfl, kt9, rfl, by simp, by decide⟩, ⟨_, _, _, rfl, rfl, rfl, rfl, wS⟩, ⟨_, _, _, rfl, rfl, rfl, rfl, kt3, rfl, by simp, by decide⟩, trivial, ⟨_, rfl, rfl, rfl, rfl, rfl⟩, ⟨_, _, _, rfl, rfl, rfl, rfl, gC⟩, ⟨_, _, _, rfl, rfl, rfl, rfl, kt9, rfl, by simp, by decide⟩, ⟨_, _, _, rfl, rfl, rfl, rfl, wS⟩, ⟨_, _, _, rfl, rfl, rfl, rfl, kt3, rfl, by simp, by decide⟩, trivial⟩ (by kernel_rfl) (by kernel_rfl) (by kernel_rfl) rfl rfl rfl rfl rfl rfl rfl zMv rfl (c1) (by decide) (by decide) (by decide) (by simp only [push_cast, simprocAttr]; try rfl) (by simp only [push_cast, simprocAttr]; try rfl) (by rintro _ _ _ ⟨rfl, rfl, rfl⟩; constructor <;> simp (disch := omega) only [push_cast, ↓Int.cast_ofNat_Int, simprocAttr, aF, aD] <;> rfl) ?_
  rintro _ _ _ ⟨rfl, rfl, rfl⟩
  refine aH 3 (fun K1 hK1 => ?_); simp (disch := omega) only [push_cast, ↓Int.cast_ofNat_Int, simprocAttr, aF, aD, qY, qZ, uA, tZ, mL, iJ, iK]
  refine eC 800 [1, 2] zMu (c2) rfl (by decide) (by decide) (by simp only [push_cast, simprocAttr]; try rfl) (by simp only [push_cast, simprocAttr]; try rfl) ?_
  rintro _ _ ⟨rfl, nw2, rfl⟩
  refine aM ?_; simp (disch := omega) only [push_cast, ↓Int.cast_ofNat_Int, simprocAttr, hxx]
  refine hK1 _ ?_; (try clear hK1 K1)
  refine aW ?_
  refine aB ?_; refine aY ?_; refine cQ ?_; refine bK ?_
  simp only [aE, aL, yH, yE, yK, yJ, aG, zS, zM, Nat.reduceEqDiff, reduceIte, reduceCtorEq]
  refine bR [0, 1, 2] [] (by first | rfl | simp [bsL, MO.bs]) (by decide) (by decide) (by simp only [push_cast, simprocAttr]) (by simp only [push_cast, simprocAttr]) (by simp only [push_cast, simprocAttr]; rfl) (by simp only [push_cast, simprocAttr]; rfl) ?_
  obtain ⟨z1, z2, z3, z4, z5⟩ := zKs d P M
  refine ⟨rfl, _, fr, nw2, zGm rok, ?_, rfl⟩
  show _ = [(0, Row.bx false 47 ((dW d P M).2.cells r1 r2)), (1, Row.bx false 35 (rcj (dW d P M).2 fr 2)), _]
  simp only [bG, rcj, z1, z2, z3, z4, z5]
 have e7 : decide (k = 7) = false := decide_eq_false h7
 refine aC (fun K hK => ?_); simp (disch := omega) only [push_cast, ↓Int.cast_ofNat_Int, simprocAttr, e7]; refine hK _ ?_; clear hK K
 refine aB ?_
 refine bB rfl ?_
 refine aA ?_
 by_cases h8 : k = 8
 ·subst h8
  refine aC (fun K hK => ?_); simp (disch := omega) only [push_cast, ↓Int.cast_ofNat_Int, simprocAttr]; refine hK _ ?_; clear hK K
  refine aB ?_
  refine bY rfl ?_
  have c1 := zLv d M r1 r2
  simp only [bG] at c1
  refine aT [0, 1, 5] [0, 1, 2, 40] (by simp only [zZ, zR, zP, zQ, zN, zS, zM, zX, zU, Nat.reduceEqDiff, reduceIte]; exact rfl) ?_
  refine aA ?_; refine aC (fun K hK => ?_); simp (disch := omega) only [push_cast, ↓Int.cast_ofNat_Int, simprocAttr]
  refine eC 856 [0] zMt (c1) rfl (by decide) (by decide) (by simp only [push_cast, simprocAttr]; try rfl) (by simp only [push_cast, simprocAttr]; try rfl) ?_
  rintro _ _ ⟨rfl, rfl⟩
  refine aM ?_; simp (disch := omega) only [push_cast, ↓Int.cast_ofNat_Int, simprocAttr]
  refine hK _ ?_; clear hK K
  refine aA ?_; refine aC (fun K hK => ?_); simp (disch := omega) only [push_cast, ↓Int.cast_ofNat_Int, simprocAttr]; refine hK _ ?_; clear hK K
  refine aA ?_; refine aC (fun K hK => ?_); simp (disch := omega) only [push_cast, ↓Int.cast_ofNat_Int, simprocAttr]; refine hK _ ?_; clear hK K
  by_cases hm : M < 0
  ·refine aZ rfl (fun _ => ?_) (fun h => by simp [hm] at h)
   refine aC (fun K hK => ?_); simp (disch := omega) only [push_cast, ↓Int.cast_ofNat_Int, simprocAttr]; refine hK _ ?_; clear hK K
   refine bP ?_; refine aA ?_
   refine aC (fun K hK => ?_); simp (disch := omega) only [push_cast, ↓Int.cast_ofNat_Int, simprocAttr]; refine hK _ ?_; clear hK K
   refine aB ?_; refine aY ?_
   simp only [aE, aL, yH, yE, yK, yJ, aG, zS, zM, Nat.reduceEqDiff, reduceIte, reduceCtorEq]
   refine bR [0, 1, 2] [] (by first | rfl | simp [bsL, MO.bs]) (by decide) (by decide) (by simp only [push_cast, simprocAttr]) (by simp only [push_cast, simprocAttr]) (by simp only [push_cast, simprocAttr]; rfl) (by simp only [push_cast, simprocAttr]; rfl) ?_
   have ha : (qWu d M).armed = -1 := by show (if -1 < M then M else -1) = -1; rw [if_neg (by omega)]
   refine ⟨rfl, R, fr, nw, fD rok rfl, ?_, rfl⟩
   simp only [qZe, rcj, ha]; rfl
  ·refine aZ rfl (fun h => by simp [hm] at h) (fun _ => ?_)
   refine aU ?_; refine bP ?_; refine aA ?_
   refine aC (fun K hK => ?_); simp (disch := omega) only [push_cast, ↓Int.cast_ofNat_Int, simprocAttr]; refine hK _ ?_; clear hK K
   refine aB ?_; refine aY ?_
   simp only [aE, aL, yH, yE, yK, yJ, aG, zS, zM, Nat.reduceEqDiff, reduceIte, reduceCtorEq]
   refine bR [0, 1, 2] [] (by first | rfl | simp [bsL, MO.bs]) (by decide) (by decide) (by simp only [push_cast, simprocAttr]) (by simp only [push_cast, simprocAttr]) (by simp only [push_cast, simprocAttr]; rfl) (by simp only [push_cast, simprocAttr]; rfl) ?_
   have ha : (qWu d M).armed = M := by show (if -1 < M then M else -1) = M; rw [if_pos (by omega)]
   refine ⟨rfl, R, fr, nw, fD rok rfl, ?_, rfl⟩
   simp only [qZe, rcj, ha]; rfl
 have e8 : decide (k = 8) = false := decide_eq_false h8
 refine aC (fun K hK => ?_); simp (disch := omega) only [push_cast, ↓Int.cast_ofNat_Int, simprocAttr, e8]; refine hK _ ?_; clear hK K
 refine aB ?_
 refine bB rfl ?_
 refine aA ?_
 by_cases h9 : k = 9
 ·subst h9
  refine aC (fun K hK => ?_); simp (disch := omega) only [push_cast, ↓Int.cast_ofNat_Int, simprocAttr]; refine hK _ ?_; clear hK K
  refine aB ?_
  refine bY rfl ?_
  have c1 := zAe d B ok hB30 hlo hlen M r1 r2
  have c2 := qVp d R fr nw ok.rise hlen hst hlo M
  simp only [bG, rst, eF] at c1 c2
  refine aT [0, 1, 5] [0, 1, 2, 40] (by simp only [zZ, zR, zP, zQ, zN, zS, zM, zX, zU, Nat.reduceEqDiff, reduceIte]; exact rfl) ?_
  refine aA ?_; refine kD 7 3 5 40 124 992 [.mv 121 0, .fa 122 3, .ld 123 1 3, .go, .mv 125 1, .fa 126 3, .ld 127 5 3] [0] (cells := [.int .i64 9, .string P, .string Q, .int .i64 M]) mixed (by kernel_rfl) (by decide) rfl rfl rfl ⟨⟨_, rfl, rfl, rfl, rfl, rfl⟩, ⟨_, _, _, rfl, rfl, rfl, rfl, wS⟩, ⟨_, _, _, rfl, rfl, rfl, rfl, kt3, rfl, by simp, by decide⟩, trivial, ⟨_, rfl, rfl, rfl, rfl, rfl⟩, ⟨_, _, _, rfl, rfl, rfl, rfl, wS⟩, ⟨_, _, _, rfl, rfl, rfl, rfl, kt3, rfl, by simp, by decide⟩, trivial⟩ (by kernel_rfl) (by kernel_rfl) (by kernel_rfl) rfl rfl rfl rfl rfl rfl rfl zMs rfl (c1) (by decide) (by decide) (by decide) (by simp only [push_cast, simprocAttr]; try rfl) (by simp only [push_cast, simprocAttr]; try rfl) (by rintro _ _ _ ⟨rfl, rfl, rfl⟩; constructor <;> simp (disch := omega) only [push_cast, ↓Int.cast_ofNat_Int, simprocAttr, aF, aD] <;> rfl) ?_
  rintro _ _ _ ⟨rfl, rfl, rfl⟩
  refine aH 3 (fun K1 hK1 => ?_); simp (disch := omega) only [push_cast, ↓Int.cast_ofNat_Int, simprocAttr, aF, aD, qY, qZ, uA, tZ, mL, iJ, iK]
  refine eC 1024 [1, 2] zMr (c2) rfl (by decide) (by decide) (by simp only [push_cast, simprocAttr]; try rfl) (by simp only [push_cast, simprocAttr]; try rfl) ?_
  rintro _ _ ⟨rfl, fr2, rfl⟩
  refine aM ?_; simp (disch := omega) only [push_cast, ↓Int.cast_ofNat_Int, simprocAttr]
  refine hK1 _ ?_; (try clear hK1 K1)
  refine aW ?_
  refine aB ?_; refine aY ?_; refine cQ ?_; refine bK ?_
  simp only [aE, aL, yH, yE, yK, yJ, aG, zS, zM, Nat.reduceEqDiff, reduceIte, reduceCtorEq]
  refine bR [0, 1, 2] [] (by first | rfl | simp [bsL, MO.bs]) (by decide) (by decide) (by simp only [push_cast, simprocAttr]) (by simp only [push_cast, simprocAttr]) (by simp only [push_cast, simprocAttr]; rfl) (by simp only [push_cast, simprocAttr]; rfl) ?_
  exact ⟨rfl, R, fr2, nw, fD rok (zL3 d M), rfl, rfl⟩
 have e9 : decide (k = 9) = false := decide_eq_false h9
 refine aC (fun K hK => ?_); simp (disch := omega) only [push_cast, ↓Int.cast_ofNat_Int, simprocAttr, e9]; refine hK _ ?_; clear hK K
 refine aB ?_
 refine bB rfl ?_
 refine aA ?_
 by_cases h10 : k = 10
 ·subst h10
  refine aC (fun K hK => ?_); simp (disch := omega) only [push_cast, ↓Int.cast_ofNat_Int, simprocAttr]; refine hK _ ?_; clear hK K
  refine aB ?_
  refine bY rfl ?_
  have hxx : decide ((uB (fun s => cZ s M) d P).1 = (uB (fun s => cZ s M) d P).1) = true := decide_eq_true rfl
  have c1 := zKj d B ok hB P M r1 r2 hP hM1 hM2 hlo
  have c2 := zHx d R fr nw rok P M hP hM1 hM2 hlo
  simp only [bG, rst, eF] at c1 c2
  refine aT [0, 1, 5] [0, 1, 2, 40] (by simp only [zZ, zR, zP, zQ, zN, zS, zM, zX, zU, Nat.reduceEqDiff, reduceIte]; exact rfl) ?_
  refine aA ?_; refine kD 11 5 5 40 137 1096 [.mv 132 0, .fa 133 1, .ld 134 1 1, .fa 135 3, .ld 136 3 3, .go, .mv 138 1, .fa 139 1, .ld 140 7 1, .fa 141 3, .ld 142 9 3] [0] (cells := [.int .i64 10, .string P, .string Q, .int .i64 M]) mixed (by kernel_rfl) (by decide) rfl rfl rfl ⟨⟨_, rfl, rfl, rfl, rfl, rfl⟩, ⟨_, _, _, rfl, rfl, rfl, rfl, gC⟩, ⟨_, _, _, rfl, rfl, rfl, rfl, kt9, rfl, by simp, by decide⟩, ⟨_, _, _, rfl, rfl, rfl, rfl, wS⟩, ⟨_, _, _, rfl, rfl, rfl, rfl, kt3, rfl, by simp, by decide⟩, trivial, ⟨_, rfl, rfl, rfl, rfl, rfl⟩, ⟨_, _, _, rfl, rfl, rfl, rfl, gC⟩, ⟨_, _, _, rfl, rfl, rfl, rfl, kt9, rfl, by simp, by decide⟩, ⟨_, _, _, rfl, rfl, rfl, rfl, wS⟩, ⟨_, _, _, rfl, rfl, rfl, rfl, kt3, rfl, by simp, by decide⟩, trivial⟩ (by kernel_rfl) (by kernel_rfl) (by kernel_rfl) rfl rfl rfl rfl rfl rfl rfl zMq rfl (c1) (by decide) (by decide) (by decide) (by simp only [push_cast, simprocAttr]; try rfl) (by simp only [push_cast, simprocAttr]; try rfl) (by rintro _ _ _ ⟨rfl, rfl, rfl⟩; constructor <;> simp (disch := omega) only [push_cast, ↓Int.cast_ofNat_Int, simprocAttr, aF, aD] <;> rfl) ?_
  rintro _ _ _ ⟨rfl, rfl, rfl⟩
  refine aH 3 (fun K1 hK1 => ?_); simp (disch := omega) only [push_cast, ↓Int.cast_ofNat_Int, simprocAttr, aF, aD, qY, qZ, uA, tZ, mL, iJ, iK]
  refine eC 1144 [1, 2] zMp (c2) rfl (by decide) (by decide) (by simp only [push_cast, simprocAttr]; try rfl) (by simp only [push_cast, simprocAttr]; try rfl) ?_
  rintro _ _ ⟨rfl, fr2, rfl⟩
  refine aM ?_; simp (disch := omega) only [push_cast, ↓Int.cast_ofNat_Int, simprocAttr, hxx]
  refine hK1 _ ?_; (try clear hK1 K1)
  refine aW ?_
  refine aB ?_; refine aY ?_; refine cQ ?_; refine bK ?_
  simp only [aE, aL, yH, yE, yK, yJ, aG, zS, zM, Nat.reduceEqDiff, reduceIte, reduceCtorEq]
  refine bR [0, 1, 2] [] (by first | rfl | simp [bsL, MO.bs]) (by decide) (by decide) (by simp only [push_cast, simprocAttr]) (by simp only [push_cast, simprocAttr]) (by simp only [push_cast, simprocAttr]; rfl) (by simp only [push_cast, simprocAttr]; rfl) ?_
  exact ⟨rfl, R, fr2, nw, fD rok (zL4 _ d P), rfl, rfl⟩
 have e10 : decide (k = 10) = false := decide_eq_false h10
 refine aC (fun K hK => ?_); simp (disch := omega) only [push_cast, ↓Int.cast_ofNat_Int, simprocAttr, e10]; refine hK _ ?_; clear hK K
 refine aB ?_
 refine bB rfl ?_
 refine aU ?_; refine aA ?_
 skip
 refine aC (fun K hK => ?_); simp (disch := omega) only [push_cast, ↓Int.cast_ofNat_Int, simprocAttr]; refine hK _ ?_; clear hK K
 refine aB ?_; refine aY ?_
 simp only [aE, aL, yH, yE, yK, yJ, aG, zS, zM, Nat.reduceEqDiff, reduceIte, reduceCtorEq]
 refine bR [0, 1, 2] [] (by first | rfl | simp [bsL, MO.bs]) (by decide) (by decide) (by simp only [push_cast, simprocAttr]) (by simp only [push_cast, simprocAttr]) (by simp only [push_cast, simprocAttr]; rfl) (by simp only [push_cast, simprocAttr]; rfl) ?_
 have hc : uY d k P Q M = d := qWs h1 h2 h3 h4 h5 h6 h7 h8 h9 h10
 rw [hc]
 exact ⟨rfl, R, fr, nw, fD rok rfl, rfl, rfl⟩
end Go.Proofs.YtojolcpblacjjaaGreatDoor
