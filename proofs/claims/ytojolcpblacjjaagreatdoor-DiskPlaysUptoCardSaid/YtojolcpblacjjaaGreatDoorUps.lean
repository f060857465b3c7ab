/-
  Steps of a disk that are handed in, opened; how much they hold.
-/
import Derived.Test.YtojolcpblacjjaaGreatDoorDkH
import Derived.Test.YtojolcpblacjjaaGreatDoorDsP
import Derived.Test.YtojolcpblacjjaaGreatDoorUsK
import Derived.Test.YtojolcpblacjjaaGreatDoorTrC
import Derived.Test.YtojolcpblacjjaaGreatDoorGd
section
set_option linter.unusedSimpArgs false
set_option linter.unusedVariables false
set_option maxRecDepth 20000
namespace Go.Proofs.YtojolcpblacjjaaGreatDoor
open Go Go.Eng Go.RowKit Go.Tr Go.Dk
def sV : ByteArray := { data := #[118] }
def sVa : ByteArray := { data := #[118, 47, 97] }
def sVb : ByteArray := { data := #[118, 47, 98] }
def sHi : ByteArray := { data := #[104, 105] }
def dA1 : Dk := ⟨[(sV, qQ2)], [], 1, 0, -1, false, 1, 0⟩
def dA2 : Dk := ⟨[(sV, qQ2), (sVa, ⟨false, sHi, ByteArray.empty, true, true, 1⟩)], [], 2, 1, -1, false, 2, 0⟩
def dA3 : Dk := ⟨[(sV, qQ2), (sVb, ⟨false, sHi, ByteArray.empty, true, true, 2⟩)], [], 3, 2, -1, false, 3, 0⟩
theorem aw1 : dV Dk.new sV = (0, dA1) := by kernel_rfl
theorem aw2 : dN dA1 sVa sHi = (0, dA2) := by kernel_rfl
theorem aw3 : dJ dA2 sVa sVb = (0, dA3) := by kernel_rfl
theorem aw4 : nX dA3 sVb = (sHi, 0) := by kernel_rfl
theorem aw5 : hZ dA3 sVa = 0 := by kernel_rfl
theorem aw6 : used dA3 sV = 2 := by kernel_rfl
abbrev BB : Int := 1099511627776
theorem zH6 : Dk.new.Ok BB := ⟨List.Pairwise.nil, by simp [Dk.new], by decide, by decide, by decide, by decide, by decide, by decide⟩
theorem zKn : dA1.Ok BB := ⟨by simp [gW, dA1], by intro e he; simp only [dA1, List.mem_cons, List.not_mem_nil, or_false] at he; subst he; decide, by decide, by decide, by decide, by decide, by decide, by decide⟩
theorem qR2 {a b : ByteArray × Itm} (h : zG0 a.1 b.1 = true) : gW [a, b] := by
 rw [zF] at h
 simp [gW, h]
theorem zKm : dA2.Ok BB := ⟨qR2 (by decide), by intro e he; simp only [dA2, List.mem_cons, List.not_mem_nil, or_false] at he; rcases he with rfl | rfl <;> decide, by decide, by decide, by decide, by decide, by decide, by decide⟩
theorem zKl : dA3.Ok BB := ⟨qR2 (by decide), by intro e he; simp only [dA3, List.mem_cons, List.not_mem_nil, or_false] at he; rcases he with rfl | rfl <;> decide, by decide, by decide, by decide, by decide, by decide, by decide⟩
theorem zL1 : sV.size ≤ 1048576 ∧ sVa.size ≤ 1048576 ∧ sVb.size ≤ 1048576 ∧ sHi.size ≤ 1048576 := by decide
set_option maxHeartbeats 2000000 in
theorem zG1 : HFun Tryz.prog 6 [] (fun h st => h = .v (.bool true)) := by
 refine iB (N := 48) Tryz.func6 rfl Tryz.ntmps6 Tryz.results6 (by simp) ?_
 obtain ⟨z1, z2, z3, z4⟩ := zL1
 refine zFo ?_
 refine aA ?_; refine aC (fun K hK => ?_); simp (disch := omega) only [push_cast, ↓Int.cast_ofNat_Int, simprocAttr]; refine hK _ ?_; clear hK K
 refine aA ?_
 refine bF ?_
 refine bW 32 [] cl5 (zC0) rfl rfl rfl rfl (by simp only [push_cast, simprocAttr]; exact rfl) (by decide) (by decide) (by decide) (by simp only [push_cast, simprocAttr]; try rfl) (by simp only [push_cast, simprocAttr]; try rfl) ?_
 rintro _ _ _ ⟨r1, r2, rfl, rfl, rfl⟩
 have c1 := qXz Dk.new BB zH6 (Int.le_refl _) sV r1 r2 z1
 have c2 := qWx dA1 BB zKn (Int.le_refl _) sVa r1 r2 z2 sHi z4
 have c3 := qR4 dA2 BB zKm (Int.le_refl _) sVa sVb r1 r2 z2 z3
 have c4 := zCg dA3 sVb r1 r2 z3
 have c5 := zFu dA3 r1 r2
 have c6 := zDa dA3 sVa r1 r2 z2
 have c7 := qVa dA3 BB zKl (Int.le_refl _) sV r1 r2
 rw [aw1] at c1
 rw [aw2] at c2
 rw [aw3] at c3
 rw [aw4] at c4
 rw [aw5] at c6
 rw [aw6] at c7
 simp only [bG] at c1 c2 c3 c4 c5 c6 c7
 refine aH 1 (fun K1 hK1 => ?_); simp (disch := omega) only [push_cast, ↓Int.cast_ofNat_Int, simprocAttr, aF, aD, bG]; refine hK1 _ ?_; (try clear hK1 K1)
 refine aW ?_
 refine aA ?_; refine aA ?_; refine bF ?_; refine aH 4 (fun K1 hK1 => ?_); simp (disch := omega) only [push_cast, ↓Int.cast_ofNat_Int, simprocAttr]; refine hK1 _ ?_; (try clear hK1 K1)
 refine bW 72 [32] zLl (c1) rfl rfl rfl rfl (by simp only [push_cast, simprocAttr]; exact rfl) (by decide) (by decide) (by decide) (by simp only [push_cast, simprocAttr]; try rfl) (by simp only [push_cast, simprocAttr]; try rfl) ?_
 rintro _ _ _ ⟨rfl, rfl, rfl⟩
 refine aH 4 (fun K1 hK1 => ?_); simp (disch := omega) only [push_cast, ↓Int.cast_ofNat_Int, simprocAttr, aF, aD]; refine hK1 _ ?_; (try clear hK1 K1)
 refine bW 112 [32] zLk (c2) rfl rfl rfl rfl (by simp only [push_cast, simprocAttr]; exact rfl) (by decide) (by decide) (by decide) (by simp only [push_cast, simprocAttr]; try rfl) (by simp only [push_cast, simprocAttr]; try rfl) ?_
 rintro _ _ _ ⟨rfl, rfl, rfl⟩
 refine aH 4 (fun K1 hK1 => ?_); simp (disch := omega) only [push_cast, ↓Int.cast_ofNat_Int, simprocAttr, aF, aD]; refine hK1 _ ?_; (try clear hK1 K1)
 refine bW 152 [32] zLj (c3) rfl rfl rfl rfl (by simp only [push_cast, simprocAttr]; exact rfl) (by decide) (by decide) (by decide) (by simp only [push_cast, simprocAttr]; try rfl) (by simp only [push_cast, simprocAttr]; try rfl) ?_
 rintro _ _ _ ⟨rfl, rfl, rfl⟩
 refine aH 2 (fun K1 hK1 => ?_); simp (disch := omega) only [push_cast, ↓Int.cast_ofNat_Int, simprocAttr, aF, aD]; refine hK1 _ ?_; (try clear hK1 K1)
 refine aW ?_
 refine aB ?_
 refine bB rfl ?_
 refine aT [0, 1] [32] (by simp only [zZ, zR, zP, zQ, zN, zS, zM, zX, zU, Nat.reduceEqDiff, reduceIte]; exact rfl) ?_
 refine aU ?_; refine aA ?_; refine bF ?_; refine aH 1 (fun K1 hK1 => ?_); simp (disch := omega) only [push_cast, ↓Int.cast_ofNat_Int, simprocAttr]; refine hK1 _ ?_; (try clear hK1 K1)
 refine bW 192 [32] zLo (c4) rfl rfl rfl rfl (by simp only [push_cast, simprocAttr]; exact rfl) (by decide) (by decide) (by decide) (by simp only [push_cast, simprocAttr]; try rfl) (by simp only [push_cast, simprocAttr]; try rfl) ?_
 rintro _ _ _ ⟨rfl, rfl, rfl⟩
 refine aH 5 (fun K1 hK1 => ?_); simp (disch := omega) only [push_cast, ↓Int.cast_ofNat_Int, simprocAttr, aF, aD]; refine hK1 _ ?_; (try clear hK1 K1)
 refine aW ?_
 have hhi : decide (sHi = { data := #[104, 105] }) = true := by decide
 refine aT [0, 1, 2, 3] [32] (by simp only [zZ, zR, zP, zQ, zN, zS, zM, zX, zU, Nat.reduceEqDiff, reduceIte]; exact rfl) ?_
 refine aA ?_; refine bF ?_; refine aH 13 (fun K1 hK1 => ?_); simp (disch := omega) only [push_cast, ↓Int.cast_ofNat_Int, simprocAttr, hhi]
 refine eC 280 [32] zLi (c5) rfl (by decide) (by decide) (by simp only [push_cast, simprocAttr]; try rfl) (by simp only [push_cast, simprocAttr]; try rfl) ?_
 rintro _ _ ⟨rfl, rfl⟩
 refine aM ?_; simp (disch := omega) only [push_cast, ↓Int.cast_ofNat_Int, simprocAttr]
 refine hK1 _ ?_; (try clear hK1 K1)
 refine bW 320 [32] zLm (c6) rfl rfl rfl rfl (by simp only [push_cast, simprocAttr]; exact rfl) (by decide) (by decide) (by decide) (by simp only [push_cast, simprocAttr]; try rfl) (by simp only [push_cast, simprocAttr]; try rfl) ?_
 rintro _ _ _ ⟨rfl, rfl, rfl⟩
 refine aH 4 (fun K1 hK1 => ?_); simp (disch := omega) only [push_cast, ↓Int.cast_ofNat_Int, simprocAttr, aF, aD]; refine hK1 _ ?_; (try clear hK1 K1)
 refine bW 360 [32] zJq (c7) rfl rfl rfl rfl (by simp only [push_cast, simprocAttr]; exact rfl) (by decide) (by decide) (by decide) (by simp only [push_cast, simprocAttr]; try rfl) (by simp only [push_cast, simprocAttr]; try rfl) ?_
 rintro _ _ _ ⟨rfl, rfl, rfl⟩
 refine aH 3 (fun K1 hK1 => ?_); simp (disch := omega) only [push_cast, ↓Int.cast_ofNat_Int, simprocAttr, aF, aD]; refine hK1 _ ?_; (try clear hK1 K1)
 refine aW ?_
 refine aB ?_; refine aY ?_
 simp only [yA, yM, yH, yE, aP, aX, yK, yJ, zS, zM, Nat.reduceEqDiff, reduceIte, reduceCtorEq]
 exact bJ rfl
end Go.Proofs.YtojolcpblacjjaaGreatDoor
end
section
set_option linter.unusedSimpArgs false
set_option linter.unusedVariables false
set_option maxRecDepth 20000
namespace Go.Dk
open Go Go.Eng Go.Tr Go.Proofs.YtojolcpblacjjaaGreatDoor
structure Stp where
 k : Int
 P : ByteArray
 Q : ByteArray
 N : Int
def zBy (s : Stp) : List FV := [.v (.int .i64 s.k), .v (.string s.P), .v (.string s.Q), .v (.int .i64 s.N)]
def tU (l : List Stp) : List (List FV) := l.map zBy
theorem qBh (l : List Stp) : (tU l).length = l.length := List.length_map _
theorem zBw (l : List Stp) : Wid 4 (tU l) = True := eq_true (qFk l fun _ => rfl)
theorem zBx {l : List Stp} {i : Nat} {d : List FV} (h : i < l.length) : (tU l).getD i d = [.v (.int .i64 l[i].k), .v (.string l[i].P), .v (.string l[i].Q), .v (.int .i64 l[i].N)] := by unfold tU; rw [tD h]; rfl
structure Stp.Ok (s : Stp) : Prop where
 P : s.P.size ≤ 1048576
 Q : s.Q.size ≤ 1048576
 N : -9223372036854775808 ≤ s.N ∧ s.N ≤ 9223372036854775807
def qX (l : List Stp) : Nat := (l.map fun s => s.Q.size).sum
theorem qZv {l : List Stp} {i : Nat} (h : i < l.length) : qX (l.take (i + 1)) = qX (l.take i) + l[i].Q.size := by
 unfold qX
 rw [List.take_succ_eq_append_getElem h, List.map_append, List.sum_append, List.map_cons, List.map_nil, List.sum_cons, List.sum_nil, Nat.add_zero]
theorem qW6 (l : List Stp) (i : Nat) : qX (l.take i) ≤ qX l := by
 have : qX l = qX (l.take i) + qX (l.drop i) := by
  unfold qX
  rw [← List.sum_append, ← List.map_append, List.take_append_drop]
 omega
end Go.Dk
namespace Go.Proofs.YtojolcpblacjjaaGreatDoor
open Go Go.Eng Go.RowKit Go.Tr Go.Dk
end Go.Proofs.YtojolcpblacjjaaGreatDoor
end
section
set_option linter.unusedVariables false
set_option linter.unusedSimpArgs false
namespace Go.Proofs.YtojolcpblacjjaaGreatDoor
open Go Go.Eng Go.RowKit Go.ChangeShapes Go.WideShapes Go.ChangeAt Go.Tr Go.Dk
def NR (n : Int) : Prop := -9223372036854775808 ≤ n ∧ n ≤ 9223372036854775807
theorem zKo {n : Int} (h : (Lit.int .i64 n).wf = true) : NR n := by
 simp only [Lit.wf, Bool.and_eq_true, decide_eq_true_eq] at h
 exact h
theorem zEz {b : Nat} {f : FV} (h : Fit (.sl b [.int .i64, .str, .str, .int .i64]) f) : ∃ t : List Stp, f = .lst false (tU t) ∧ ∀ s ∈ t, NR s.N := by
 cases h with
 | sl hb hl h =>
  rename_i xs
  have : ∀ x ∈ xs, ∃ e : Stp, x = zBy e ∧ NR e.N := fun x hx => by
   have h1 := hl x hx
   match x, h1 with
   | [f0, f1, f2, f3], _ =>
   have a := h _ hx 0 (by simp) (by simp)
   have b := h _ hx 1 (by simp) (by simp)
   have c := h _ hx 2 (by simp) (by simp)
   have d := h _ hx 3 (by simp) (by simp)
   simp only [List.getElem_cons_zero, List.getElem_cons_succ] at a b c d
   cases a; cases b; cases c
   cases d with
   | int hm => exact ⟨⟨_, _, _, _⟩, rfl, zKo hm⟩
  clear hb hl h
  induction xs with
  | nil => exact ⟨[], rfl, fun s hs => by cases hs⟩
  | cons x r ih =>
   obtain ⟨e, rfl, he⟩ := this x (by simp)
   obtain ⟨t, ht, htn⟩ := ih (fun y hy => this y (by simp [hy]))
   simp only [FV.lst.injEq, true_and] at ht
   refine ⟨e :: t, by rw [ht]; rfl, fun s hs => ?_⟩
   rcases List.mem_cons.1 hs with rfl | hs
   ·exact he
   ·exact htn s hs
theorem zGt (l : List Stp) : qX l + l.length ≤ fw (.lst false (tU l)) ∧ ∀ s ∈ l, s.P.size ≤ fw (.lst false (tU l)) ∧ s.Q.size ≤ fw (.lst false (tU l)) := by
 rw [zD1]
 have : ∀ l : List Stp, qX l + l.length ≤ ((tU l).map fws).sum ∧ ∀ s ∈ l, s.P.size ≤ ((tU l).map fws).sum ∧ s.Q.size ≤ ((tU l).map fws).sum := by
  intro l
  induction l with
  | nil => exact ⟨Nat.le_refl _, by simp⟩
  | cons x r ih =>
   have e1 : ((tU (x :: r)).map fws).sum = fws (zBy x) + ((tU r).map fws).sum := by simp [tU]
   have e2 : x.P.size + x.Q.size + 2 ≤ fws (zBy x) := by simp [fws, zBy, zJe]; omega
   have e3 : qX (x :: r) = x.Q.size + qX r := by simp [qX]
   rw [e1, e3]
   refine ⟨by simp only [List.length_cons]; omega, fun e he => ?_⟩
   rcases List.mem_cons.1 he with rfl | he
   ·exact ⟨by omega, by omega⟩
   ·have := ih.2 e he; exact ⟨by omega, by omega⟩
 obtain ⟨h1, h2⟩ := this l
 exact ⟨by omega, fun e he => by have := h2 e he; exact ⟨by omega, by omega⟩⟩
end Go.Proofs.YtojolcpblacjjaaGreatDoor
end
