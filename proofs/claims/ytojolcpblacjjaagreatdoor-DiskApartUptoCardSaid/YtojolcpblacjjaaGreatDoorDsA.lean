/-
  The law's does: a call of the program's disk and of the reference's: walked.
-/
import Derived.Test.YtojolcpblacjjaaGreatDoorRkJ
import Derived.Test.YtojolcpblacjjaaGreatDoorDkR
import Derived.Test.YtojolcpblacjjaaGreatDoorDvq
set_option linter.unusedSimpArgs false
set_option linter.unusedVariables false
set_option maxRecDepth 20000
namespace Go.Dk
open Go Go.Eng Go.Tr Go.Proofs.YtojolcpblacjjaaGreatDoor
def nX (d : Dk) (k : Int) (P Q : ByteArray) (M : Int) : Dk :=
 if k = 1 then (dJ d P).2 else if k = 2 then (cX d P Q).2 else if k = 3 then (append d P Q).2 else if k = 4 then (kU d P).2 else if k = 5 then (cU d P Q).2 else if k = 6 then (cL d P).2 else
 if k = 7 then (dK d P M).2 else if k = 8 then qVq d M else if k = 9 then restart d M else if k = 10 then (oC (fun s => cT s M) d P).2 else d
theorem qYc (d : Dk) (P Q : ByteArray) (M : Int) : nX d 8 P Q M = qVq d M := rfl
theorem qVo {d : Dk} {k : Int} {P Q : ByteArray} {M : Int} (h1 : ¬ k = 1) (h2 : ¬ k = 2) (h3 : ¬ k = 3) (h4 : ¬ k = 4) (h5 : ¬ k = 5) (h6 : ¬ k = 6) (h7 : ¬ k = 7) (h8 : ¬ k = 8) (h9 : ¬ k = 9) (h10 : ¬ k = 10) : nX d k P Q M = d := by
 unfold nX
 rw [if_neg h1, if_neg h2, if_neg h3, if_neg h4, if_neg h5, if_neg h6, if_neg h7, if_neg h8, if_neg h9, if_neg h10]
def rcj (d : Dk) (fr : Bool) (j : Nat) : List HV := [.lst fr (dT d.L), .own j, .v (.int .i64 d.steps), .v (.int .i64 d.stamps), .v (.int .i64 d.armed), .v (.bool d.down)]
structure Rel (d : Dk) (R : LN) (m : Nat) : Prop where
 look : ∀ v, aT R v = aT d.R v
 nod : (R.map fun e => e.1).Nodup
 rl : R.length ≤ m
theorem eT {d e : Dk} {R : LN} (ok : ROk d R) (h : e.R = d.R) : Rel e R (R.length + 1) := ⟨fun v => by rw [h]; exact ok.look v, ok.nod, by omega⟩
theorem zFk {d : Dk} {R : LN} {v : ByteArray} {k : Int} (ok : ROk d R) : Rel (dK d v k).2 (if (dK d v k).1 = 0 then qBc v k R else R) (R.length + 1) := by
 unfold dK
 split
 ·exact eT ok rfl
 ·split
  ·exact eT ok rfl
  ·refine ⟨fun u => ?_, zFl ok.nod, zFm v k R⟩
   show aT (qBc v k R) u = aT (put v k d.R) u
   rw [zB2, kL, ok.look]
theorem zJ1 (d : Dk) (v : ByteArray) (k : Int) : (dK d v k).2.L = d.L ∧ (dK d v k).2.steps = d.steps ∧ (dK d v k).2.stamps = d.stamps ∧ (dK d v k).2.armed = d.armed ∧ (dK d v k).2.down = d.down := by
 unfold dK; (repeat' split) <;> exact ⟨rfl, rfl, rfl, rfl, rfl⟩
theorem zLe (d : Dk) (P : ByteArray) : (dJ d P).2.R = d.R := by
 have := (dA d).2.1
 unfold dJ; (repeat' split) <;> first | rfl | exact this
theorem zK6 (d : Dk) (P Q : ByteArray) : (cX d P Q).2.R = d.R := by
 have := (dA d).2.1
 unfold cX; (repeat' split) <;> first | rfl | exact this
theorem zMc (d : Dk) (P Q : ByteArray) : (append d P Q).2.R = d.R := by
 have := (dA d).2.1
 unfold append; (repeat' split) <;> first | rfl | exact this
theorem zK8 (d : Dk) (P : ByteArray) : (kU d P).2.R = d.R := by
 have := (dA d).2.1
 unfold kU; (repeat' split) <;> first | rfl | exact this
theorem zLc (d : Dk) (a b : ByteArray) : (cU d a b).2.R = d.R := by
 have := (dA d).2.1
 have aux : ∀ (e m : Int), ((if e ≠ 0 then (e, d) else if has d a = false ∨ eJ d b = false then (11, d) else if (aP d a).dir = true ∨ (aP d b).dir = true then (12, d) else if a ≠ b ∧ gX d b m = false then (13, d) else if (aS d).1 ≠ 0 then aS d else (0, gS { (aS d).2 with L := del a d.L } b (aP d a)) : Int × Dk)).2.R = d.R := by
  intro e m
  (repeat' split) <;> first | rfl | exact this
 exact aux _ _
theorem zLb (d : Dk) (P : ByteArray) : (cL d P).2.R = d.R := by
 have := (dA d).2.1
 unfold cL; (repeat' split) <;> first | rfl | exact this
theorem zLa (f : ByteArray → ByteArray) (d : Dk) (P : ByteArray) : (oC f d P).2.R = d.R := by
 unfold oC; split <;> rfl
theorem zG4 (loss : Int) : ∀ (ks : List ByteArray) (n : Int) (d : Dk), (fP loss ks n d).R = d.R
 | [], _, _ => rfl
 | p :: r, n, d => by
  rw [fP]
  split
  ·rw [zG4 loss r]; rfl
  ·exact zG4 loss r n d
theorem zK9 (d : Dk) (M : Int) : (restart d M).R = d.R := zG4 _ _ _ _
end Go.Dk
namespace Go.Proofs.YtojolcpblacjjaaGreatDoor
open Go Go.Eng Go.RowKit Go.Tr Go.Dk
set_option maxHeartbeats 16000000 in
theorem zD6 (d : Dk) (R : LN) (fr nw : Bool) (B : Int) (ok : d.Ok B) (hB30 : B ≤ 1073741824) (rok : ROk d R) (hlo : Lo d) (hlen : d.L.length ≤ 1000) (k : Int) (P Q : ByteArray) (M : Int) (hP : P.size ≤ 1048576) (hQ : Q.size ≤ 1048576) (hM1 : -9223372036854775808 ≤ M) (hM2 : M ≤ 9223372036854775807) (r1 r2 : Nat) :
  HFunM Tryz.prog 8 [.ptr 0 6 0 0, .ptr 1 6 0 0, .agg [.v (.int .i64 k), .v (.string P), .v (.string Q), .v (.int .i64 M)]] [(0, .bx false 47 (d.cells r1 r2)), (1, .bx false 35 (rcj d fr 2)), (2, .sl nw 76 2 (rms R))] (d.maps kS r1 r2)
   (fun h st g => h = .v (.bool true) ∧ ∃ R' fr' nw', Rel (nX d k P Q M) R' (R.length + 1) ∧ st = [(0, .bx false 47 ((nX d k P Q M).cells r1 r2)), (1, .bx false 35 (rcj (nX d k P Q M) fr' 2)), (2, .sl nw' 76 2 (rms R'))] ∧ g = (nX d k P Q M).maps kS r1 r2) := by
 refine jA (N := 145) Tryz.func8 rfl Tryz.ntmps8 Tryz.results8 (by simp) ?_
 have hB : B ≤ 1099511627776 := by omega
 have hl4 : d.L.length ≤ 4194304 := by omega
 have hst : 0 ≤ d.stamps ∧ d.stamps ≤ 1073741824 := ⟨ok.stamps.1, by have := ok.stamps.2; omega⟩
 simp only [bJ, rcj]
 refine aA ?_; refine aC (fun K hK => ?_); simp (disch := omega) only [push_cast, ↓Int.cast_ofNat_Int, simprocAttr]; refine hK _ ?_; clear hK K
 refine aA ?_; refine aA ?_; refine aC (fun K hK => ?_); simp (disch := omega) only [push_cast, ↓Int.cast_ofNat_Int, simprocAttr]; refine hK _ ?_; clear hK K
 refine aU [0, 1, 5, 8] [0, 1, 2, 40] (by simp only [zZ, zR, zP, zQ, zN, zS, zM, zX, zU, Nat.reduceEqDiff, reduceIte]; exact rfl) ?_
 refine bQ ?_; refine aA ?_
 by_cases h1 : k = 1
 ·subst h1
  refine aC (fun K hK => ?_); simp (disch := omega) only [push_cast, ↓Int.cast_ofNat_Int, simprocAttr]; refine hK _ ?_; clear hK K
  refine aB ?_
  refine bT rfl ?_
  have hxx : decide ((dJ d P).1 = (dJ d P).1) = true := decide_eq_true rfl
  have c1 := qWv d B ok hB P r1 r2 hP
  have c2 := zA9 d R fr nw rok P hP
  simp only [bJ, rst, eK] at c1 c2
  refine aU [0, 1, 5] [0, 1, 2, 40] (by simp only [zZ, zR, zP, zQ, zN, zS, zM, zX, zU, Nat.reduceEqDiff, reduceIte]; exact rfl) ?_
  refine aA ?_; refine jH 7 3 5 40 14 112 [.mv 11 0, .fa 12 1, .ld 13 1 1, .go, .mv 15 1, .fa 16 1, .ld 17 5 1] [0] (cells := [.int .i64 1, .string P, .string Q, .int .i64 M]) mixed (by kernel_rfl) (by decide) rfl rfl rfl ⟨⟨_, rfl, rfl, rfl, rfl, rfl⟩, ⟨_, _, _, rfl, rfl, rfl, rfl, fQ⟩, ⟨_, _, _, rfl, rfl, rfl, rfl, kt9, rfl, by simp, by decide⟩, trivial, ⟨_, rfl, rfl, rfl, rfl, rfl⟩, ⟨_, _, _, rfl, rfl, rfl, rfl, fQ⟩, ⟨_, _, _, rfl, rfl, rfl, rfl, kt9, rfl, by simp, by decide⟩, trivial⟩ (by kernel_rfl) (by kernel_rfl) (by kernel_rfl) rfl rfl rfl rfl rfl rfl rfl zKu rfl (c1) (by decide) (by decide) (by decide) (by simp only [push_cast, simprocAttr]; try rfl) (by simp only [push_cast, simprocAttr]; try rfl) (by rintro _ _ _ ⟨rfl, rfl, rfl⟩; constructor <;> simp (disch := omega) only [push_cast, ↓Int.cast_ofNat_Int, simprocAttr, aG, aE] <;> rfl) ?_
  rintro _ _ _ ⟨rfl, rfl, rfl⟩
  refine aH 3 (fun K1 hK1 => ?_); simp (disch := omega) only [push_cast, ↓Int.cast_ofNat_Int, simprocAttr, aG, aE, nZ, oA, qA, pZ, lG, gV, gW]
  refine dU 144 [1, 2] zMa (c2) rfl (by decide) (by decide) (by simp only [push_cast, simprocAttr]; try rfl) (by simp only [push_cast, simprocAttr]; try rfl) ?_
  rintro _ _ ⟨rfl, fr2, rfl⟩
  refine aN ?_; simp (disch := omega) only [push_cast, ↓Int.cast_ofNat_Int, simprocAttr, hxx]
  refine hK1 _ ?_; (try clear hK1 K1)
  refine aY ?_
  refine aB ?_; refine aV ?_; refine cK ?_; refine bH ?_
  simp only [aD, aK, yH, yE, yK, yJ, aF, zS, zM, Nat.reduceEqDiff, reduceIte, reduceCtorEq]
  refine bP [0, 1, 2] [] (by first | rfl | simp [bsL, MO.bs]) (by decide) (by decide) (by simp only [push_cast, simprocAttr]) (by simp only [push_cast, simprocAttr]) (by simp only [push_cast, simprocAttr]; rfl) (by simp only [push_cast, simprocAttr]; rfl) ?_
  exact ⟨rfl, R, fr2, nw, eT rok (zLe d P), rfl, rfl⟩
 have e1 : decide (k = 1) = false := decide_eq_false h1
 refine aC (fun K hK => ?_); simp (disch := omega) only [push_cast, ↓Int.cast_ofNat_Int, simprocAttr, e1]; refine hK _ ?_; clear hK K
 refine aB ?_
 refine bE rfl ?_
 refine aA ?_
 by_cases h2 : k = 2
 ·subst h2
  refine aC (fun K hK => ?_); simp (disch := omega) only [push_cast, ↓Int.cast_ofNat_Int, simprocAttr]; refine hK _ ?_; clear hK K
  refine aB ?_
  refine bT rfl ?_
  have hxx : decide ((cX d P Q).1 = (cX d P Q).1) = true := decide_eq_true rfl
  have c1 := qVw d B ok hB P r1 r2 hP Q hQ
  have c2 := zA6 d R fr nw rok P Q hP hQ
  simp only [bJ, rst, eK] at c1 c2
  refine aU [0, 1, 5] [0, 1, 2, 40] (by simp only [zZ, zR, zP, zQ, zN, zS, zM, zX, zU, Nat.reduceEqDiff, reduceIte]; exact rfl) ?_
  refine aA ?_; refine jH 11 5 5 40 27 216 [.mv 22 0, .fa 23 1, .ld 24 1 1, .fa 25 2, .ld 26 3 2, .go, .mv 28 1, .fa 29 1, .ld 30 7 1, .fa 31 2, .ld 32 9 2] [0] (cells := [.int .i64 2, .string P, .string Q, .int .i64 M]) mixed (by kernel_rfl) (by decide) rfl rfl rfl ⟨⟨_, rfl, rfl, rfl, rfl, rfl⟩, ⟨_, _, _, rfl, rfl, rfl, rfl, fQ⟩, ⟨_, _, _, rfl, rfl, rfl, rfl, kt9, rfl, by simp, by decide⟩, ⟨_, _, _, rfl, rfl, rfl, rfl, sL⟩, ⟨_, _, _, rfl, rfl, rfl, rfl, kt9, rfl, by simp, by decide⟩, trivial, ⟨_, rfl, rfl, rfl, rfl, rfl⟩, ⟨_, _, _, rfl, rfl, rfl, rfl, fQ⟩, ⟨_, _, _, rfl, rfl, rfl, rfl, kt9, rfl, by simp, by decide⟩, ⟨_, _, _, rfl, rfl, rfl, rfl, sL⟩, ⟨_, _, _, rfl, rfl, rfl, rfl, kt9, rfl, by simp, by decide⟩, trivial⟩ (by kernel_rfl) (by kernel_rfl) (by kernel_rfl) rfl rfl rfl rfl rfl rfl rfl zKt rfl (c1) (by decide) (by decide) (by decide) (by simp only [push_cast, simprocAttr]; try rfl) (by simp only [push_cast, simprocAttr]; try rfl) (by rintro _ _ _ ⟨rfl, rfl, rfl⟩; constructor <;> simp (disch := omega) only [push_cast, ↓Int.cast_ofNat_Int, simprocAttr, aG, aE] <;> rfl) ?_
  rintro _ _ _ ⟨rfl, rfl, rfl⟩
  refine aH 3 (fun K1 hK1 => ?_); simp (disch := omega) only [push_cast, ↓Int.cast_ofNat_Int, simprocAttr, aG, aE, nZ, oA, qA, pZ, lG, gV, gW]
  refine dU 264 [1, 2] zL9 (c2) rfl (by decide) (by decide) (by simp only [push_cast, simprocAttr]; try rfl) (by simp only [push_cast, simprocAttr]; try rfl) ?_
  rintro _ _ ⟨rfl, fr2, rfl⟩
  refine aN ?_; simp (disch := omega) only [push_cast, ↓Int.cast_ofNat_Int, simprocAttr, hxx]
  refine hK1 _ ?_; (try clear hK1 K1)
  refine aY ?_
  refine aB ?_; refine aV ?_; refine cK ?_; refine bH ?_
  simp only [aD, aK, yH, yE, yK, yJ, aF, zS, zM, Nat.reduceEqDiff, reduceIte, reduceCtorEq]
  refine bP [0, 1, 2] [] (by first | rfl | simp [bsL, MO.bs]) (by decide) (by decide) (by simp only [push_cast, simprocAttr]) (by simp only [push_cast, simprocAttr]) (by simp only [push_cast, simprocAttr]; rfl) (by simp only [push_cast, simprocAttr]; rfl) ?_
  exact ⟨rfl, R, fr2, nw, eT rok (zK6 d P Q), rfl, rfl⟩
 have e2 : decide (k = 2) = false := decide_eq_false h2
 refine aC (fun K hK => ?_); simp (disch := omega) only [push_cast, ↓Int.cast_ofNat_Int, simprocAttr, e2]; refine hK _ ?_; clear hK K
 refine aB ?_
 refine bE rfl ?_
 refine aA ?_
 by_cases h3 : k = 3
 ·subst h3
  refine aC (fun K hK => ?_); simp (disch := omega) only [push_cast, ↓Int.cast_ofNat_Int, simprocAttr]; refine hK _ ?_; clear hK K
  refine aB ?_
  refine bT rfl ?_
  have hxx : decide ((append d P Q).1 = (append d P Q).1) = true := decide_eq_true rfl
  have c1 := zEl d B ok hB P r1 r2 hP Q hQ
  have c2 := qZf d R fr nw rok P Q hP hQ
  simp only [bJ, rst, eK] at c1 c2
  refine aU [0, 1, 5] [0, 1, 2, 40] (by simp only [zZ, zR, zP, zQ, zN, zS, zM, zX, zU, Nat.reduceEqDiff, reduceIte]; exact rfl) ?_
  refine aA ?_; refine jH 11 5 5 40 42 336 [.mv 37 0, .fa 38 1, .ld 39 1 1, .fa 40 2, .ld 41 3 2, .go, .mv 43 1, .fa 44 1, .ld 45 7 1, .fa 46 2, .ld 47 9 2] [0] (cells := [.int .i64 3, .string P, .string Q, .int .i64 M]) mixed (by kernel_rfl) (by decide) rfl rfl rfl ⟨⟨_, rfl, rfl, rfl, rfl, rfl⟩, ⟨_, _, _, rfl, rfl, rfl, rfl, fQ⟩, ⟨_, _, _, rfl, rfl, rfl, rfl, kt9, rfl, by simp, by decide⟩, ⟨_, _, _, rfl, rfl, rfl, rfl, sL⟩, ⟨_, _, _, rfl, rfl, rfl, rfl, kt9, rfl, by simp, by decide⟩, trivial, ⟨_, rfl, rfl, rfl, rfl, rfl⟩, ⟨_, _, _, rfl, rfl, rfl, rfl, fQ⟩, ⟨_, _, _, rfl, rfl, rfl, rfl, kt9, rfl, by simp, by decide⟩, ⟨_, _, _, rfl, rfl, rfl, rfl, sL⟩, ⟨_, _, _, rfl, rfl, rfl, rfl, kt9, rfl, by simp, by decide⟩, trivial⟩ (by kernel_rfl) (by kernel_rfl) (by kernel_rfl) rfl rfl rfl rfl rfl rfl rfl zL8 rfl (c1) (by decide) (by decide) (by decide) (by simp only [push_cast, simprocAttr]; try rfl) (by simp only [push_cast, simprocAttr]; try rfl) (by rintro _ _ _ ⟨rfl, rfl, rfl⟩; constructor <;> simp (disch := omega) only [push_cast, ↓Int.cast_ofNat_Int, simprocAttr, aG, aE] <;> rfl) ?_
  rintro _ _ _ ⟨rfl, rfl, rfl⟩
  refine aH 3 (fun K1 hK1 => ?_); simp (disch := omega) only [push_cast, ↓Int.cast_ofNat_Int, simprocAttr, aG, aE, nZ, oA, qA, pZ, lG, gV, gW]
  refine dU 384 [1, 2] zL7 (c2) rfl (by decide) (by decide) (by simp only [push_cast, simprocAttr]; try rfl) (by simp only [push_cast, simprocAttr]; try rfl) ?_
  rintro _ _ ⟨rfl, fr2, rfl⟩
  refine aN ?_; simp (disch := omega) only [push_cast, ↓Int.cast_ofNat_Int, simprocAttr, hxx]
  refine hK1 _ ?_; (try clear hK1 K1)
  refine aY ?_
  refine aB ?_; refine aV ?_; refine cK ?_; refine bH ?_
  simp only [aD, aK, yH, yE, yK, yJ, aF, zS, zM, Nat.reduceEqDiff, reduceIte, reduceCtorEq]
  refine bP [0, 1, 2] [] (by first | rfl | simp [bsL, MO.bs]) (by decide) (by decide) (by simp only [push_cast, simprocAttr]) (by simp only [push_cast, simprocAttr]) (by simp only [push_cast, simprocAttr]; rfl) (by simp only [push_cast, simprocAttr]; rfl) ?_
  exact ⟨rfl, R, fr2, nw, eT rok (zMc d P Q), rfl, rfl⟩
 have e3 : decide (k = 3) = false := decide_eq_false h3
 refine aC (fun K hK => ?_); simp (disch := omega) only [push_cast, ↓Int.cast_ofNat_Int, simprocAttr, e3]; refine hK _ ?_; clear hK K
 refine aB ?_
 refine bE rfl ?_
 refine aA ?_
 by_cases h4 : k = 4
 ·subst h4
  refine aC (fun K hK => ?_); simp (disch := omega) only [push_cast, ↓Int.cast_ofNat_Int, simprocAttr]; refine hK _ ?_; clear hK K
  refine aB ?_
  refine bT rfl ?_
  have hxx : decide ((kU d P).1 = (kU d P).1) = true := decide_eq_true rfl
  have c1 := zGt d B ok hB P r1 r2 hP
  have c2 := zE1 d R fr nw rok P hP
  simp only [bJ, rst, eK] at c1 c2
  refine aU [0, 1, 5] [0, 1, 2, 40] (by simp only [zZ, zR, zP, zQ, zN, zS, zM, zX, zU, Nat.reduceEqDiff, reduceIte]; exact rfl) ?_
  refine aA ?_; refine jH 7 3 5 40 55 440 [.mv 52 0, .fa 53 1, .ld 54 1 1, .go, .mv 56 1, .fa 57 1, .ld 58 5 1] [0] (cells := [.int .i64 4, .string P, .string Q, .int .i64 M]) mixed (by kernel_rfl) (by decide) rfl rfl rfl ⟨⟨_, rfl, rfl, rfl, rfl, rfl⟩, ⟨_, _, _, rfl, rfl, rfl, rfl, fQ⟩, ⟨_, _, _, rfl, rfl, rfl, rfl, kt9, rfl, by simp, by decide⟩, trivial, ⟨_, rfl, rfl, rfl, rfl, rfl⟩, ⟨_, _, _, rfl, rfl, rfl, rfl, fQ⟩, ⟨_, _, _, rfl, rfl, rfl, rfl, kt9, rfl, by simp, by decide⟩, trivial⟩ (by kernel_rfl) (by kernel_rfl) (by kernel_rfl) rfl rfl rfl rfl rfl rfl rfl zL6 rfl (c1) (by decide) (by decide) (by decide) (by simp only [push_cast, simprocAttr]; try rfl) (by simp only [push_cast, simprocAttr]; try rfl) (by rintro _ _ _ ⟨rfl, rfl, rfl⟩; constructor <;> simp (disch := omega) only [push_cast, ↓Int.cast_ofNat_Int, simprocAttr, aG, aE] <;> rfl) ?_
  rintro _ _ _ ⟨rfl, rfl, rfl⟩
  refine aH 3 (fun K1 hK1 => ?_); simp (disch := omega) only [push_cast, ↓Int.cast_ofNat_Int, simprocAttr, aG, aE, nZ, oA, qA, pZ, lG, gV, gW]
  refine dU 472 [1, 2] zL5 (c2) rfl (by decide) (by decide) (by simp only [push_cast, simprocAttr]; try rfl) (by simp only [push_cast, simprocAttr]; try rfl) ?_
  rintro _ _ ⟨rfl, fr2, rfl⟩
  refine aN ?_; simp (disch := omega) only [push_cast, ↓Int.cast_ofNat_Int, simprocAttr, hxx]
  refine hK1 _ ?_; (try clear hK1 K1)
  refine aY ?_
  refine aB ?_; refine aV ?_; refine cK ?_; refine bH ?_
  simp only [aD, aK, yH, yE, yK, yJ, aF, zS, zM, Nat.reduceEqDiff, reduceIte, reduceCtorEq]
  refine bP [0, 1, 2] [] (by first | rfl | simp [bsL, MO.bs]) (by decide) (by decide) (by simp only [push_cast, simprocAttr]) (by simp only [push_cast, simprocAttr]) (by simp only [push_cast, simprocAttr]; rfl) (by simp only [push_cast, simprocAttr]; rfl) ?_
  exact ⟨rfl, R, fr2, nw, eT rok (zK8 d P), rfl, rfl⟩
 have e4 : decide (k = 4) = false := decide_eq_false h4
 refine aC (fun K hK => ?_); simp (disch := omega) only [push_cast, ↓Int.cast_ofNat_Int, simprocAttr, e4]; refine hK _ ?_; clear hK K
 refine aB ?_
 refine bE rfl ?_
 refine aA ?_
 by_cases h5 : k = 5
 ·subst h5
  refine aC (fun K hK => ?_); simp (disch := omega) only [push_cast, ↓Int.cast_ofNat_Int, simprocAttr]; refine hK _ ?_; clear hK K
  refine aB ?_
  refine bT rfl ?_
  have hxx : decide ((cU d P Q).1 = (cU d P Q).1) = true := decide_eq_true rfl
  have c1 := qQs d B ok hB P Q r1 r2 hP hQ
  have c2 := qY3 d R fr nw rok P Q hP hQ
  simp only [bJ, rst, eK] at c1 c2
  refine aU [0, 1, 5] [0, 1, 2, 40] (by simp only [zZ, zR, zP, zQ, zN, zS, zM, zX, zU, Nat.reduceEqDiff, reduceIte]; exact rfl) ?_
  refine aA ?_; refine jH 11 5 5 40 68 544 [.mv 63 0, .fa 64 1, .ld 65 1 1, .fa 66 2, .ld 67 3 2, .go, .mv 69 1, .fa 70 1, .ld 71 7 1, .fa 72 2, .ld 73 9 2] [0] (cells := [.int .i64 5, .string P, .string Q, .int .i64 M]) mixed (by kernel_rfl) (by decide) rfl rfl rfl ⟨⟨_, rfl, rfl, rfl, rfl, rfl⟩, ⟨_, _, _, rfl, rfl, rfl, rfl, fQ⟩, ⟨_, _, _, rfl, rfl, rfl, rfl, kt9, rfl, by simp, by decide⟩, ⟨_, _, _, rfl, rfl, rfl, rfl, sL⟩, ⟨_, _, _, rfl, rfl, rfl, rfl, kt9, rfl, by simp, by decide⟩, trivial, ⟨_, rfl, rfl, rfl, rfl, rfl⟩, ⟨_, _, _, rfl, rfl, rfl, rfl, fQ⟩, ⟨_, _, _, rfl, rfl, rfl, rfl, kt9, rfl, by simp, by decide⟩, ⟨_, _, _, rfl, rfl, rfl, rfl, sL⟩, ⟨_, _, _, rfl, rfl, rfl, rfl, kt9, rfl, by simp, by decide⟩, trivial⟩ (by kernel_rfl) (by kernel_rfl) (by kernel_rfl) rfl rfl rfl rfl rfl rfl rfl zKs rfl (c1) (by decide) (by decide) (by decide) (by simp only [push_cast, simprocAttr]; try rfl) (by simp only [push_cast, simprocAttr]; try rfl) (by rintro _ _ _ ⟨rfl, rfl, rfl⟩; constructor <;> simp (disch := omega) only [push_cast, ↓Int.cast_ofNat_Int, simprocAttr, aG, aE] <;> rfl) ?_
  rintro _ _ _ ⟨rfl, rfl, rfl⟩
  refine aH 3 (fun K1 hK1 => ?_); simp (disch := omega) only [push_cast, ↓Int.cast_ofNat_Int, simprocAttr, aG, aE, nZ, oA, qA, pZ, lG, gV, gW]
  refine dU 592 [1, 2] zL4 (c2) rfl (by decide) (by decide) (by simp only [push_cast, simprocAttr]; try rfl) (by simp only [push_cast, simprocAttr]; try rfl) ?_
  rintro _ _ ⟨rfl, fr2, rfl⟩
  refine aN ?_; simp (disch := omega) only [push_cast, ↓Int.cast_ofNat_Int, simprocAttr, hxx]
  refine hK1 _ ?_; (try clear hK1 K1)
  refine aY ?_
  refine aB ?_; refine aV ?_; refine cK ?_; refine bH ?_
  simp only [aD, aK, yH, yE, yK, yJ, aF, zS, zM, Nat.reduceEqDiff, reduceIte, reduceCtorEq]
  refine bP [0, 1, 2] [] (by first | rfl | simp [bsL, MO.bs]) (by decide) (by decide) (by simp only [push_cast, simprocAttr]) (by simp only [push_cast, simprocAttr]) (by simp only [push_cast, simprocAttr]; rfl) (by simp only [push_cast, simprocAttr]; rfl) ?_
  exact ⟨rfl, R, fr2, nw, eT rok (zLc d P Q), rfl, rfl⟩
 have e5 : decide (k = 5) = false := decide_eq_false h5
 refine aC (fun K hK => ?_); simp (disch := omega) only [push_cast, ↓Int.cast_ofNat_Int, simprocAttr, e5]; refine hK _ ?_; clear hK K
 refine aB ?_
 refine bE rfl ?_
 refine aA ?_
 by_cases h6 : k = 6
 ·subst h6
  refine aC (fun K hK => ?_); simp (disch := omega) only [push_cast, ↓Int.cast_ofNat_Int, simprocAttr]; refine hK _ ?_; clear hK K
  refine aB ?_
  refine bT rfl ?_
  have hxx : decide ((cL d P).1 = (cL d P).1) = true := decide_eq_true rfl
  have c1 := zBe d B ok hB P r1 r2 hP hl4
  have c2 := qY4 d R fr nw rok P hP
  simp only [bJ, rst, eK] at c1 c2
  refine aU [0, 1, 5] [0, 1, 2, 40] (by simp only [zZ, zR, zP, zQ, zN, zS, zM, zX, zU, Nat.reduceEqDiff, reduceIte]; exact rfl) ?_
  refine aA ?_; refine jH 7 3 5 40 81 648 [.mv 78 0, .fa 79 1, .ld 80 1 1, .go, .mv 82 1, .fa 83 1, .ld 84 5 1] [0] (cells := [.int .i64 6, .string P, .string Q, .int .i64 M]) mixed (by kernel_rfl) (by decide) rfl rfl rfl ⟨⟨_, rfl, rfl, rfl, rfl, rfl⟩, ⟨_, _, _, rfl, rfl, rfl, rfl, fQ⟩, ⟨_, _, _, rfl, rfl, rfl, rfl, kt9, rfl, by simp, by decide⟩, trivial, ⟨_, rfl, rfl, rfl, rfl, rfl⟩, ⟨_, _, _, rfl, rfl, rfl, rfl, fQ⟩, ⟨_, _, _, rfl, rfl, rfl, rfl, kt9, rfl, by simp, by decide⟩, trivial⟩ (by kernel_rfl) (by kernel_rfl) (by kernel_rfl) rfl rfl rfl rfl rfl rfl rfl zL3 rfl (c1) (by decide) (by decide) (by decide) (by simp only [push_cast, simprocAttr]; try rfl) (by simp only [push_cast, simprocAttr]; try rfl) (by rintro _ _ _ ⟨rfl, rfl, rfl⟩; constructor <;> simp (disch := omega) only [push_cast, ↓Int.cast_ofNat_Int, simprocAttr, aG, aE] <;> rfl) ?_
  rintro _ _ _ ⟨rfl, rfl, rfl⟩
  refine aH 3 (fun K1 hK1 => ?_); simp (disch := omega) only [push_cast, ↓Int.cast_ofNat_Int, simprocAttr, aG, aE, nZ, oA, qA, pZ, lG, gV, gW]
  refine dU 680 [1, 2] zL2 (c2) rfl (by decide) (by decide) (by simp only [push_cast, simprocAttr]; try rfl) (by simp only [push_cast, simprocAttr]; try rfl) ?_
  rintro _ _ ⟨rfl, fr2, rfl⟩
  refine aN ?_; simp (disch := omega) only [push_cast, ↓Int.cast_ofNat_Int, simprocAttr, hxx]
  refine hK1 _ ?_; (try clear hK1 K1)
  refine aY ?_
  refine aB ?_; refine aV ?_; refine cK ?_; refine bH ?_
  simp only [aD, aK, yH, yE, yK, yJ, aF, zS, zM, Nat.reduceEqDiff, reduceIte, reduceCtorEq]
  refine bP [0, 1, 2] [] (by first | rfl | simp [bsL, MO.bs]) (by decide) (by decide) (by simp only [push_cast, simprocAttr]) (by simp only [push_cast, simprocAttr]) (by simp only [push_cast, simprocAttr]; rfl) (by simp only [push_cast, simprocAttr]; rfl) ?_
  exact ⟨rfl, R, fr2, nw, eT rok (zLb d P), rfl, rfl⟩
 have e6 : decide (k = 6) = false := decide_eq_false h6
 refine aC (fun K hK => ?_); simp (disch := omega) only [push_cast, ↓Int.cast_ofNat_Int, simprocAttr, e6]; refine hK _ ?_; clear hK K
 refine aB ?_
 refine bE rfl ?_
 refine aA ?_
 by_cases h7 : k = 7
 ·subst h7
  refine aC (fun K hK => ?_); simp (disch := omega) only [push_cast, ↓Int.cast_ofNat_Int, simprocAttr]; refine hK _ ?_; clear hK K
  refine aB ?_
  refine bT rfl ?_
  have hxx : decide ((dK d P M).1 = (dK d P M).1) = true := decide_eq_true rfl
  have c1 := zFj d B ok hB P r1 r2 hP M
  have c2 := zBa d R fr nw rok.rl P M hP
  simp only [bJ, rst, eK] at c1 c2
  refine aU [0, 1, 5] [0, 1, 2, 40] (by simp only [zZ, zR, zP, zQ, zN, zS, zM, zX, zU, Nat.reduceEqDiff, reduceIte]; exact rfl) ?_
  refine aA ?_; refine jH 11 5 5 40 94 752 [.mv 89 0, .fa 90 1, .ld 91 1 1, .fa 92 3, .ld 93 3 3, .go, .mv 95 1, .fa 96 1, .ld 97 7 1, .fa 98 3, .ld 99 9 3] [0] (cells := [.int .i64 7, .string P, .string Q, .int .i64 M]) mixed (by kernel_rfl) (by decide) rfl rfl rfl ⟨⟨_, rfl, rfl, rfl, rfl, rfl⟩, ⟨_, _, _, rfl, rfl, rfl, rfl, fQ⟩, ⟨_, _, _, rfl, rfl, rfl, rfl, kt9, rfl, by simp, by decide⟩, ⟨_, _, _, rfl, rfl, rfl, rfl, sK⟩, ⟨_, _, _, rfl, rfl, rfl, rfl, kt3, rfl, by simp, by decide⟩, trivial, ⟨_, rfl, rfl, rfl, rfl, rfl⟩, ⟨_, _, _, rfl, rfl, rfl, rfl, fQ⟩, ⟨_, _, _, rfl, rfl, rfl, rfl, kt9, rfl, by simp, by decide⟩, ⟨_, _, _, rfl, rfl, rfl, rfl, sK⟩, ⟨_, _, _, rfl, rfl, rfl, rfl, kt3, rfl, by simp, by decide⟩, trivial⟩ (by kernel_rfl) (by kernel_rfl) (by kernel_rfl) rfl rfl rfl rfl rfl rfl rfl zL1 rfl (c1) (by decide) (by decide) (by decide) (by simp only [push_cast, simprocAttr]; try rfl) (by simp only [push_cast, simprocAttr]; try rfl) (by rintro _ _ _ ⟨rfl, rfl, rfl⟩; constructor <;> simp (disch := omega) only [push_cast, ↓Int.cast_ofNat_Int, simprocAttr, aG, aE] <;> rfl) ?_
  rintro _ _ _ ⟨rfl, rfl, rfl⟩
  refine aH 3 (fun K1 hK1 => ?_); simp (disch := omega) only [push_cast, ↓Int.cast_ofNat_Int, simprocAttr, aG, aE, nZ, oA, qA, pZ, lG, gV, gW]
  refine dU 800 [1, 2] zL0 (c2) rfl (by decide) (by decide) (by simp only [push_cast, simprocAttr]; try rfl) (by simp only [push_cast, simprocAttr]; try rfl) ?_
  rintro _ _ ⟨rfl, nw2, rfl⟩
  refine aN ?_; simp (disch := omega) only [push_cast, ↓Int.cast_ofNat_Int, simprocAttr, hxx]
  refine hK1 _ ?_; (try clear hK1 K1)
  refine aY ?_
  refine aB ?_; refine aV ?_; refine cK ?_; refine bH ?_
  simp only [aD, aK, yH, yE, yK, yJ, aF, zS, zM, Nat.reduceEqDiff, reduceIte, reduceCtorEq]
  refine bP [0, 1, 2] [] (by first | rfl | simp [bsL, MO.bs]) (by decide) (by decide) (by simp only [push_cast, simprocAttr]) (by simp only [push_cast, simprocAttr]) (by simp only [push_cast, simprocAttr]; rfl) (by simp only [push_cast, simprocAttr]; rfl) ?_
  obtain ⟨z1, z2, z3, z4, z5⟩ := zJ1 d P M
  refine ⟨rfl, _, fr, nw2, zFk rok, ?_, rfl⟩
  show _ = [(0, Row.bx false 47 ((dK d P M).2.cells r1 r2)), (1, Row.bx false 35 (rcj (dK d P M).2 fr 2)), _]
  simp only [bJ, rcj, z1, z2, z3, z4, z5]
 have e7 : decide (k = 7) = false := decide_eq_false h7
 refine aC (fun K hK => ?_); simp (disch := omega) only [push_cast, ↓Int.cast_ofNat_Int, simprocAttr, e7]; refine hK _ ?_; clear hK K
 refine aB ?_
 refine bE rfl ?_
 refine aA ?_
 by_cases h8 : k = 8
 ·subst h8
  refine aC (fun K hK => ?_); simp (disch := omega) only [push_cast, ↓Int.cast_ofNat_Int, simprocAttr]; refine hK _ ?_; clear hK K
  refine aB ?_
  refine bT rfl ?_
  have c1 := zK3 d M r1 r2
  simp only [bJ] at c1
  refine aU [0, 1, 5] [0, 1, 2, 40] (by simp only [zZ, zR, zP, zQ, zN, zS, zM, zX, zU, Nat.reduceEqDiff, reduceIte]; exact rfl) ?_
  refine aA ?_; refine aC (fun K hK => ?_); simp (disch := omega) only [push_cast, ↓Int.cast_ofNat_Int, simprocAttr]
  refine dU 856 [0] zLz (c1) rfl (by decide) (by decide) (by simp only [push_cast, simprocAttr]; try rfl) (by simp only [push_cast, simprocAttr]; try rfl) ?_
  rintro _ _ ⟨rfl, rfl⟩
  refine aN ?_; simp (disch := omega) only [push_cast, ↓Int.cast_ofNat_Int, simprocAttr]
  refine hK _ ?_; clear hK K
  refine aA ?_; refine aC (fun K hK => ?_); simp (disch := omega) only [push_cast, ↓Int.cast_ofNat_Int, simprocAttr]; refine hK _ ?_; clear hK K
  refine aA ?_; refine aC (fun K hK => ?_); simp (disch := omega) only [push_cast, ↓Int.cast_ofNat_Int, simprocAttr]; refine hK _ ?_; clear hK K
  by_cases hm : M < 0
  ·refine bA rfl (fun _ => ?_) (fun h => by simp [hm] at h)
   refine aC (fun K hK => ?_); simp (disch := omega) only [push_cast, ↓Int.cast_ofNat_Int, simprocAttr]; refine hK _ ?_; clear hK K
   refine bR ?_; refine aA ?_
   refine aC (fun K hK => ?_); simp (disch := omega) only [push_cast, ↓Int.cast_ofNat_Int, simprocAttr]; refine hK _ ?_; clear hK K
   refine aB ?_; refine aV ?_
   simp only [aD, aK, yH, yE, yK, yJ, aF, zS, zM, Nat.reduceEqDiff, reduceIte, reduceCtorEq]
   refine bP [0, 1, 2] [] (by first | rfl | simp [bsL, MO.bs]) (by decide) (by decide) (by simp only [push_cast, simprocAttr]) (by simp only [push_cast, simprocAttr]) (by simp only [push_cast, simprocAttr]; rfl) (by simp only [push_cast, simprocAttr]; rfl) ?_
   have ha : (qVq d M).armed = -1 := by show (if -1 < M then M else -1) = -1; rw [if_neg (by omega)]
   refine ⟨rfl, R, fr, nw, eT rok rfl, ?_, rfl⟩
   simp only [qYc, rcj, ha]; rfl
  ·refine bA rfl (fun h => by simp [hm] at h) (fun _ => ?_)
   refine aW ?_; refine bR ?_; refine aA ?_
   refine aC (fun K hK => ?_); simp (disch := omega) only [push_cast, ↓Int.cast_ofNat_Int, simprocAttr]; refine hK _ ?_; clear hK K
   refine aB ?_; refine aV ?_
   simp only [aD, aK, yH, yE, yK, yJ, aF, zS, zM, Nat.reduceEqDiff, reduceIte, reduceCtorEq]
   refine bP [0, 1, 2] [] (by first | rfl | simp [bsL, MO.bs]) (by decide) (by decide) (by simp only [push_cast, simprocAttr]) (by simp only [push_cast, simprocAttr]) (by simp only [push_cast, simprocAttr]; rfl) (by simp only [push_cast, simprocAttr]; rfl) ?_
   have ha : (qVq d M).armed = M := by show (if -1 < M then M else -1) = M; rw [if_pos (by omega)]
   refine ⟨rfl, R, fr, nw, eT rok rfl, ?_, rfl⟩
   simp only [qYc, rcj, ha]; rfl
 have e8 : decide (k = 8) = false := decide_eq_false h8
 refine aC (fun K hK => ?_); simp (disch := omega) only [push_cast, ↓Int.cast_ofNat_Int, simprocAttr, e8]; refine hK _ ?_; clear hK K
 refine aB ?_
 refine bE rfl ?_
 refine aA ?_
 by_cases h9 : k = 9
 ·subst h9
  refine aC (fun K hK => ?_); simp (disch := omega) only [push_cast, ↓Int.cast_ofNat_Int, simprocAttr]; refine hK _ ?_; clear hK K
  refine aB ?_
  refine bT rfl ?_
  have c1 := qY9 d B ok hB30 hlo hlen M r1 r2
  have c2 := qUe d R fr nw ok.rise hlen hst hlo M
  simp only [bJ, rst, eK] at c1 c2
  refine aU [0, 1, 5] [0, 1, 2, 40] (by simp only [zZ, zR, zP, zQ, zN, zS, zM, zX, zU, Nat.reduceEqDiff, reduceIte]; exact rfl) ?_
  refine aA ?_; refine jH 7 3 5 40 124 992 [.mv 121 0, .fa 122 3, .ld 123 1 3, .go, .mv 125 1, .fa 126 3, .ld 127 5 3] [0] (cells := [.int .i64 9, .string P, .string Q, .int .i64 M]) mixed (by kernel_rfl) (by decide) rfl rfl rfl ⟨⟨_, rfl, rfl, rfl, rfl, rfl⟩, ⟨_, _, _, rfl, rfl, rfl, rfl, sK⟩, ⟨_, _, _, rfl, rfl, rfl, rfl, kt3, rfl, by simp, by decide⟩, trivial, ⟨_, rfl, rfl, rfl, rfl, rfl⟩, ⟨_, _, _, rfl, rfl, rfl, rfl, sK⟩, ⟨_, _, _, rfl, rfl, rfl, rfl, kt3, rfl, by simp, by decide⟩, trivial⟩ (by kernel_rfl) (by kernel_rfl) (by kernel_rfl) rfl rfl rfl rfl rfl rfl rfl zLy rfl (c1) (by decide) (by decide) (by decide) (by simp only [push_cast, simprocAttr]; try rfl) (by simp only [push_cast, simprocAttr]; try rfl) (by rintro _ _ _ ⟨rfl, rfl, rfl⟩; constructor <;> simp (disch := omega) only [push_cast, ↓Int.cast_ofNat_Int, simprocAttr, aG, aE] <;> rfl) ?_
  rintro _ _ _ ⟨rfl, rfl, rfl⟩
  refine aH 3 (fun K1 hK1 => ?_); simp (disch := omega) only [push_cast, ↓Int.cast_ofNat_Int, simprocAttr, aG, aE, nZ, oA, qA, pZ, lG, gV, gW]
  refine dU 1024 [1, 2] zLx (c2) rfl (by decide) (by decide) (by simp only [push_cast, simprocAttr]; try rfl) (by simp only [push_cast, simprocAttr]; try rfl) ?_
  rintro _ _ ⟨rfl, fr2, rfl⟩
  refine aN ?_; simp (disch := omega) only [push_cast, ↓Int.cast_ofNat_Int, simprocAttr]
  refine hK1 _ ?_; (try clear hK1 K1)
  refine aY ?_
  refine aB ?_; refine aV ?_; refine cK ?_; refine bH ?_
  simp only [aD, aK, yH, yE, yK, yJ, aF, zS, zM, Nat.reduceEqDiff, reduceIte, reduceCtorEq]
  refine bP [0, 1, 2] [] (by first | rfl | simp [bsL, MO.bs]) (by decide) (by decide) (by simp only [push_cast, simprocAttr]) (by simp only [push_cast, simprocAttr]) (by simp only [push_cast, simprocAttr]; rfl) (by simp only [push_cast, simprocAttr]; rfl) ?_
  exact ⟨rfl, R, fr2, nw, eT rok (zK9 d M), rfl, rfl⟩
 have e9 : decide (k = 9) = false := decide_eq_false h9
 refine aC (fun K hK => ?_); simp (disch := omega) only [push_cast, ↓Int.cast_ofNat_Int, simprocAttr, e9]; refine hK _ ?_; clear hK K
 refine aB ?_
 refine bE rfl ?_
 refine aA ?_
 by_cases h10 : k = 10
 ·subst h10
  refine aC (fun K hK => ?_); simp (disch := omega) only [push_cast, ↓Int.cast_ofNat_Int, simprocAttr]; refine hK _ ?_; clear hK K
  refine aB ?_
  refine bT rfl ?_
  have hxx : decide ((oC (fun s => cT s M) d P).1 = (oC (fun s => cT s M) d P).1) = true := decide_eq_true rfl
  have c1 := zJt d B ok hB P M r1 r2 hP hM1 hM2 hlo
  have c2 := zGz d R fr nw rok P M hP hM1 hM2 hlo
  simp only [bJ, rst, eK] at c1 c2
  refine aU [0, 1, 5] [0, 1, 2, 40] (by simp only [zZ, zR, zP, zQ, zN, zS, zM, zX, zU, Nat.reduceEqDiff, reduceIte]; exact rfl) ?_
  refine aA ?_; refine jH 11 5 5 40 137 1096 [.mv 132 0, .fa 133 1, .ld 134 1 1, .fa 135 3, .ld 136 3 3, .go, .mv 138 1, .fa 139 1, .ld 140 7 1, .fa 141 3, .ld 142 9 3] [0] (cells := [.int .i64 10, .string P, .string Q, .int .i64 M]) mixed (by kernel_rfl) (by decide) rfl rfl rfl ⟨⟨_, rfl, rfl, rfl, rfl, rfl⟩, ⟨_, _, _, rfl, rfl, rfl, rfl, fQ⟩, ⟨_, _, _, rfl, rfl, rfl, rfl, kt9, rfl, by simp, by decide⟩, ⟨_, _, _, rfl, rfl, rfl, rfl, sK⟩, ⟨_, _, _, rfl, rfl, rfl, rfl, kt3, rfl, by simp, by decide⟩, trivial, ⟨_, rfl, rfl, rfl, rfl, rfl⟩, ⟨_, _, _, rfl, rfl, rfl, rfl, fQ⟩, ⟨_, _, _, rfl, rfl, rfl, rfl, kt9, rfl, by simp, by decide⟩, ⟨_, _, _, rfl, rfl, rfl, rfl, sK⟩, ⟨_, _, _, rfl, rfl, rfl, rfl, kt3, rfl, by simp, by decide⟩, trivial⟩ (by kernel_rfl) (by kernel_rfl) (by kernel_rfl) rfl rfl rfl rfl rfl rfl rfl zLw rfl (c1) (by decide) (by decide) (by decide) (by simp only [push_cast, simprocAttr]; try rfl) (by simp only [push_cast, simprocAttr]; try rfl) (by rintro _ _ _ ⟨rfl, rfl, rfl⟩; constructor <;> simp (disch := omega) only [push_cast, ↓Int.cast_ofNat_Int, simprocAttr, aG, aE] <;> rfl) ?_
  rintro _ _ _ ⟨rfl, rfl, rfl⟩
  refine aH 3 (fun K1 hK1 => ?_); simp (disch := omega) only [push_cast, ↓Int.cast_ofNat_Int, simprocAttr, aG, aE, nZ, oA, qA, pZ, lG, gV, gW]
  refine dU 1144 [1, 2] zLv (c2) rfl (by decide) (by decide) (by simp only [push_cast, simprocAttr]; try rfl) (by simp only [push_cast, simprocAttr]; try rfl) ?_
  rintro _ _ ⟨rfl, fr2, rfl⟩
  refine aN ?_; simp (disch := omega) only [push_cast, ↓Int.cast_ofNat_Int, simprocAttr, hxx]
  refine hK1 _ ?_; (try clear hK1 K1)
  refine aY ?_
  refine aB ?_; refine aV ?_; refine cK ?_; refine bH ?_
  simp only [aD, aK, yH, yE, yK, yJ, aF, zS, zM, Nat.reduceEqDiff, reduceIte, reduceCtorEq]
  refine bP [0, 1, 2] [] (by first | rfl | simp [bsL, MO.bs]) (by decide) (by decide) (by simp only [push_cast, simprocAttr]) (by simp only [push_cast, simprocAttr]) (by simp only [push_cast, simprocAttr]; rfl) (by simp only [push_cast, simprocAttr]; rfl) ?_
  exact ⟨rfl, R, fr2, nw, eT rok (zLa _ d P), rfl, rfl⟩
 have e10 : decide (k = 10) = false := decide_eq_false h10
 refine aC (fun K hK => ?_); simp (disch := omega) only [push_cast, ↓Int.cast_ofNat_Int, simprocAttr, e10]; refine hK _ ?_; clear hK K
 refine aB ?_
 refine bE rfl ?_
 refine aW ?_; refine aA ?_
 skip
 refine aC (fun K hK => ?_); simp (disch := omega) only [push_cast, ↓Int.cast_ofNat_Int, simprocAttr]; refine hK _ ?_; clear hK K
 refine aB ?_; refine aV ?_
 simp only [aD, aK, yH, yE, yK, yJ, aF, zS, zM, Nat.reduceEqDiff, reduceIte, reduceCtorEq]
 refine bP [0, 1, 2] [] (by first | rfl | simp [bsL, MO.bs]) (by decide) (by decide) (by simp only [push_cast, simprocAttr]) (by simp only [push_cast, simprocAttr]) (by simp only [push_cast, simprocAttr]; rfl) (by simp only [push_cast, simprocAttr]; rfl) ?_
 have hc : nX d k P Q M = d := qVo h1 h2 h3 h4 h5 h6 h7 h8 h9 h10
 rw [hc]
 exact ⟨rfl, R, fr, nw, eT rok rfl, rfl, rfl⟩
end Go.Proofs.YtojolcpblacjjaaGreatDoor
