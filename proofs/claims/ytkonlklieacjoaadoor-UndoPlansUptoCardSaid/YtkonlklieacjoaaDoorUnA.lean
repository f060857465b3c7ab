/-
  Changes, oG trees as values; what is eF.
-/
import Derived.Test.YtkonlklieacjoaaDoorTrM
import Derived.Test.YtkonlklieacjoaaDoorTsB
import Derived.Test.YtkonlklieacjoaaDoorTrK
import Derived.Test.YtkonlklieacjoaaDoorTrL
import Derived.Test.YtkonlklieacjoaaDoorTrO
section
set_option linter.unusedSimpArgs false
set_option linter.unusedVariables false
set_option maxRecDepth 20000
namespace Go.Tr
open Go Go.Eng
theorem qY8 (n : Int × ByteArray) : FreshH (nL n) := .agg fun x hx => by simp at hx; rcases hx with rfl | rfl <;> exact .v _
theorem zG5 {n : Int × ByteArray} {ρ ρ' : Nat → Value} {w : World} {A : Nat → Prop} {n0 : Nat} {v : Value} (h : RepH w A n0 ρ v (nL n)) : RepH w A n0 ρ' v (nL n) := by
 cases h with
 | agg hn h1 h =>
  refine .agg hn h1 fun j a b => ?_
  have := h j a b
  match j, b with
  | 0, _ => rw [cC this]; exact .v _
  | 1, _ => rw [cC this]; exact .v _
theorem zM4 {P : Program} {T : HS} {f : FuncId} {args args' : List HV} {n : Int × ByteArray} {K : HV → Prop} (hc : aF P f = true) (H : HFun P f args' (fun h st => h = nL n ∧ st = [])) (hl : Lends T.st args args') (hK : K (nL n)) : zFg P f args T K :=
 zRl hc H (qY8 n) (fun ρ ρ' w A n v h => zG5 h) hl hK
end Go.Tr
end
section
set_option linter.unusedSimpArgs false
set_option linter.unusedVariables false
set_option maxRecDepth 20000
namespace Go.Tr
open Go Go.Eng Go.RowKit
structure Chg where
 p : ByteArray
 k : Int
 b0 : Int × ByteArray
 b1 : Int × ByteArray
 b2 : Int × ByteArray
 a0 : Int × ByteArray
 a1 : Int × ByteArray
 a2 : Int × ByteArray
def Chg.b (c : Chg) : Nat → Int × ByteArray
 | 0 => c.b0
 | 1 => c.b1
 | _ => c.b2
def Chg.a (c : Chg) : Nat → Int × ByteArray
 | 0 => c.a0
 | 1 => c.a1
 | _ => c.a2
def qXj (c : Chg) : List FV := [.v (.string c.p), .v (.int .i64 c.k), .v (.int .i64 c.b0.1), .v (.string c.b0.2), .v (.int .i64 c.b1.1), .v (.string c.b1.2), .v (.int .i64 c.b2.1), .v (.string c.b2.2), .v (.int .i64 c.a0.1), .v (.string c.a0.2), .v (.int .i64 c.a1.1), .v (.string c.a1.2), .v (.int .i64 c.a2.1), .v (.string c.a2.2)]
abbrev lJ (c : Chg) : List HV := [.v (.string c.p), .v (.int .i64 c.k), .v (.int .i64 c.b0.1), .v (.string c.b0.2), .v (.int .i64 c.b1.1), .v (.string c.b1.2), .v (.int .i64 c.b2.1), .v (.string c.b2.2), .v (.int .i64 c.a0.1), .v (.string c.a0.2), .v (.int .i64 c.a1.1), .v (.string c.a1.2), .v (.int .i64 c.a2.1), .v (.string c.a2.2)]
abbrev zLo (c : Chg) : HV := .agg (lJ c)
def chs (l : List Chg) : List (List FV) := l.map qXj
theorem aJ (l : List Chg) : (chs l).length = l.length := by simp [chs]
theorem bF (l : List Chg) : Wid 14 (chs l) = True := eq_true (qGe l fun _ => rfl)
theorem bJ {l : List Chg} {i : Nat} {d : List FV} (h : i < l.length) : (chs l).getD i d = [.v (.string l[i].p), .v (.int .i64 l[i].k), .v (.int .i64 l[i].b0.1), .v (.string l[i].b0.2), .v (.int .i64 l[i].b1.1), .v (.string l[i].b1.2), .v (.int .i64 l[i].b2.1), .v (.string l[i].b2.2), .v (.int .i64 l[i].a0.1), .v (.string l[i].a0.2), .v (.int .i64 l[i].a1.1), .v (.string l[i].a1.2), .v (.int .i64 l[i].a2.1), .v (.string l[i].a2.2)] := by unfold chs; rw [tE h]; rfl
theorem iC (l : List Chg) : mT (chs l) = chs l := by
 unfold mT chs; rw [List.map_map]; apply List.map_congr_left; intro s _; simp [qXj, FV.old]
theorem zJo (l : List Chg) (n : Nat) : (chs l).take n = chs (l.take n) := by simp [chs, List.map_take]
theorem qXi (l : List Chg) (c : Chg) : chs l ++ [[FV.v (.string c.p), .v (.int .i64 c.k), .v (.int .i64 c.b0.1), .v (.string c.b0.2), .v (.int .i64 c.b1.1), .v (.string c.b1.2), .v (.int .i64 c.b2.1), .v (.string c.b2.2), .v (.int .i64 c.a0.1), .v (.string c.a0.2), .v (.int .i64 c.a1.1), .v (.string c.a1.2), .v (.int .i64 c.a2.1), .v (.string c.a2.2)]] = chs (l ++ [c]) := by simp [chs, qXj]
abbrev Tri := List Ent × List Ent × List Ent
def tr (T : Tri) : Nat → List Ent
 | 0 => T.1
 | 1 => T.2.1
 | _ => T.2.2
abbrev iR (T : Tri) : List HV := [.lst false (aH T.1), .lst false (aH T.2.1), .lst false (aH T.2.2)]
abbrev uY (T : Tri) : HV := .agg (iR T)
theorem wH {st : aD} (c : Chg) : Lend st (zLo c) (zLo c) := .agg rfl fun j h1 h2 => by
 match j, h1 with
 | 0, _ | 1, _ | 2, _ | 3, _ | 4, _ | 5, _ | 6, _ | 7, _ | 8, _ | 9, _ | 10, _ | 11, _ | 12, _ | 13, _ => exact .v _
theorem eX {st : aD} {T : Tri} {h0 h1 h2 : HV} (l0 : Lend st h0 (.lst false (aH T.1))) (l1 : Lend st h1 (.lst false (aH T.2.1))) (l2 : Lend st h2 (.lst false (aH T.2.2))) : Lend st (.agg [h0, h1, h2]) (uY T) := .agg rfl fun j h1 h2 => by
 match j, h1 with
 | 0, _ => exact l0
 | 1, _ => exact l1
 | 2, _ => exact l2
theorem oG {i : Nat} (h : i < 3) : i = 0 ∨ i = 1 ∨ i = 2 := by omega
theorem qMn (c : Chg) {i : Nat} (h : i < 3) : (((lJ c).drop (2 + i * 2)).take 2) = [.v (.int .i64 (c.b i).1), .v (.string (c.b i).2)] := by
 rcases oG h with rfl | rfl | rfl <;> rfl
theorem qMo (c : Chg) {i : Nat} (h : i < 3) : (((lJ c).drop (8 + i * 2)).take 2) = [.v (.int .i64 (c.a i).1), .v (.string (c.a i).2)] := by
 rcases oG h with rfl | rfl | rfl <;> rfl
theorem qZp (T : Tri) {i : Nat} (h : i < 3) : (iR T)[i]? = some (.lst false (aH (tr T i))) := by
 rcases oG h with rfl | rfl | rfl <;> rfl
def qHn (c : Chg) (T : Tri) (i : Nat) : Bool := decide (c.b i = c.a i) || decide (bW (tr T i) c.p = c.a i)
def eF (c : Chg) (T : Tri) : Bool := (List.range 3).all (qHn c T)
end Go.Tr
namespace Go.Proofs.YtkonlklieacjoaaDoor
open Go Go.Eng Go.RowKit Go.Tr
set_option maxHeartbeats 4000000 in
theorem zF3 (c : Chg) (T : Tri) (hr : ∀ i, i < 3 → gU (tr T i)) (hl : ∀ i, i < 3 → (tr T i).length ≤ 1048576) : HFun Tryd.prog 47 [zLo c, uY T] (fun h st => h = .v (.bool (eF c T))) := by
 refine eK (N := 33) Tryd.func47 rfl Tryd.ntmps47 Tryd.results47 (by simp) ?_
 refine zE ?_; refine zJ (fun K hK => ?_); simp (maxSteps := 2000000) (disch := omega) only [push_cast, ↓Int.cast_ofNat_Int, simprocAttr]; refine hK _ ?_; clear hK K
 refine zE ?_; refine zE ?_; refine zJ (fun K hK => ?_); simp (maxSteps := 2000000) (disch := omega) only [push_cast, ↓Int.cast_ofNat_Int, simprocAttr]; refine hK _ ?_; clear hK K
 refine zA ?_; refine zD ?_
 refine bM (fun i : Nat => ⟨[(2, .ptr 16 14 0 0), (3, .ptr 24 3 0 0), (7, uY T), (8, .v (.int .i64 i))], [(16, .bx true 58 (lJ c)), (24, .bx true 53 (iR T))]⟩) (fun i => i ≤ 3 ∧ ∀ j, j < i → qHn c T j = true) (fun i => 3 - i) [2, 3, 7, 8] [16, 24] 0 (by simp only [zZ, zR, zP, zQ, zN, zS, zM, zX, zU, Nat.reduceEqDiff, reduceIte]; try rfl) ⟨Nat.zero_le _, fun j hj => by omega⟩ ?_
 rintro i ⟨hi, hb⟩
 by_cases hlt : i < 3
 ·have e1 := qMn c hlt
  have e2 := qMo c hlt
  have e3 := qZp T hlt
  refine zE ?_; refine zJ (fun K hK => ?_); simp (maxSteps := 2000000) (disch := omega) only [push_cast, ↓Int.cast_ofNat_Int, simprocAttr]; refine hK _ ?_; clear hK K
  refine zE ?_
  refine yD rfl ?_
  refine zC ?_; refine zE ?_
  refine zD ?_; refine zE ?_; refine zJ (fun K hK => ?_); simp (maxSteps := 2000000) (disch := omega) only [push_cast, ↓Int.cast_ofNat_Int, simprocAttr, e3]; refine hK _ ?_; clear hK K
  have c25 := zM5 (tr T i) c.p (hr i hlt) (by have := hl i hlt; omega)
  have hd : qHn c T i = (decide ((c.b i).1 = (c.a i).1 ∧ (c.b i).2 = (c.a i).2) || decide ((bW (tr T i) c.p).1 = (c.a i).1 ∧ (bW (tr T i) c.p).2 = (c.a i).2)) := by
   rw [qHn, decide_eq_decide.2 Prod.ext_iff, decide_eq_decide.2 (Prod.ext_iff (x := bW (tr T i) c.p))]
  generalize bW (tr T i) c.p = m at c25 hd
  obtain ⟨km, dm⟩ := m
  dsimp only at hd
  generalize c.b i = nb at e1 hd
  generalize c.a i = na at e2 hd
  obtain ⟨kb, db⟩ := nb
  obtain ⟨ka, da⟩ := na
  dsimp only at e1 e2 hd
  cases hq : decide (kb = ka ∧ db = da) with
  | true =>
   rw [hq, Bool.true_or] at hd
   refine zE ?_; refine dQ 20 mixed (by kernel_rfl) (fun K hK K1 hK1 => ?_); simp (maxSteps := 2000000) (disch := omega) only [push_cast, ↓Int.cast_ofNat_Int, simprocAttr, e1, e2]
   refine ⟨_, eqN _ _ _ _, ?_⟩
   with_reducible refine aB ?_; simp (maxSteps := 2000000) (disch := omega) only [push_cast, ↓Int.cast_ofNat_Int, simprocAttr, hq]
   refine hK1 _ ?_; clear hK1 K1; with_reducible refine aB ?_; simp (maxSteps := 2000000) (disch := omega) only [push_cast, ↓Int.cast_ofNat_Int, simprocAttr, hq]
   refine hK _ ?_; clear hK K
   refine yC rfl ?_
   refine zC ?_; refine zB ?_; refine zA ?_
   refine zJ (fun K hK => ?_); simp (maxSteps := 2000000) (disch := omega) only [push_cast, ↓Int.cast_ofNat_Int, simprocAttr]; refine hK _ ?_; clear hK K
   refine zA ?_
   refine ⟨i + 1, by simp only [zZ, zR, zP, zQ, zN, zS, zM, zX, zU, Nat.reduceEqDiff, reduceIte]; try rfl, ⟨hlt, fun j hj => ?_⟩, by omega⟩
   by_cases e : j = i
   ·subst e; exact hd
   ·exact hb j (by omega)
  | false =>
   rw [hq, Bool.false_or] at hd
   refine zE ?_; refine dQ 20 mixed (by kernel_rfl) (fun K hK K1 hK1 => ?_); simp (maxSteps := 2000000) (disch := omega) only [push_cast, ↓Int.cast_ofNat_Int, simprocAttr, e1, e2]
   refine ⟨_, eqN _ _ _ _, ?_⟩
   with_reducible refine aB ?_; simp (maxSteps := 2000000) (disch := omega) only [push_cast, ↓Int.cast_ofNat_Int, simprocAttr, hq]
   refine zM4 zPb c25 (.cons (aN (yT _)) (.cons (.v _) .nil)) ?_
   with_reducible refine aB ?_; simp (maxSteps := 2000000) (disch := omega) only [push_cast, ↓Int.cast_ofNat_Int, simprocAttr, hq, e2]
   refine ⟨_, eqN _ _ _ _, ?_⟩
   cases hq2 : decide (km = ka ∧ dm = da) with
   | true =>
    with_reducible refine aB ?_; simp (maxSteps := 2000000) (disch := omega) only [push_cast, ↓Int.cast_ofNat_Int, simprocAttr, hq, hq2]
    refine hK1 _ ?_; clear hK1 K1; with_reducible refine aB ?_; simp (maxSteps := 2000000) (disch := omega) only [push_cast, ↓Int.cast_ofNat_Int, simprocAttr, hq, hq2]
    refine hK _ ?_; clear hK K
    refine yC rfl ?_
    refine zC ?_; refine zB ?_; refine zA ?_
    refine zJ (fun K hK => ?_); simp (maxSteps := 2000000) (disch := omega) only [push_cast, ↓Int.cast_ofNat_Int, simprocAttr]; refine hK _ ?_; clear hK K
    refine zA ?_
    refine ⟨i + 1, by simp only [zZ, zR, zP, zQ, zN, zS, zM, zX, zU, Nat.reduceEqDiff, reduceIte]; try rfl, ⟨hlt, fun j hj => ?_⟩, by omega⟩
    by_cases e : j = i
    ·subst e; rw [hd, hq2]
    ·exact hb j (by omega)
   | false =>
    have hf : eF c T = false := List.all_eq_false.2 ⟨i, List.mem_range.2 hlt, by rw [hd, hq2]; decide⟩
    with_reducible refine aB ?_; simp (maxSteps := 2000000) (disch := omega) only [push_cast, ↓Int.cast_ofNat_Int, simprocAttr, hq, hq2]
    refine hK1 _ ?_; clear hK1 K1; with_reducible refine aB ?_; simp (maxSteps := 2000000) (disch := omega) only [push_cast, ↓Int.cast_ofNat_Int, simprocAttr, hq, hq2]
    refine hK _ ?_; clear hK K
    refine yD rfl ?_
    refine zE ?_; refine zJ (fun K hK => ?_); simp (maxSteps := 2000000) (disch := omega) only [push_cast, ↓Int.cast_ofNat_Int, simprocAttr]; refine hK _ ?_; clear hK K
    refine zA ?_; refine zW ?_; refine zL ?_; refine zK ?_; refine zK ?_; refine zL ?_; refine zK ?_
    simp only [yA, yM, yH, yE, aA, aC, yK, yJ, zS, zM, Nat.reduceEqDiff, reduceIte, reduceCtorEq]
    exact aK (by rw [hf])
 ·have hne : i = 3 := by omega
  subst hne
  have ht : eF c T = true := List.all_eq_true.2 fun j hj => hb j (List.mem_range.1 hj)
  rw [ht]
  refine zE ?_; refine zJ (fun K hK => ?_); simp (maxSteps := 2000000) (disch := omega) only [push_cast, ↓Int.cast_ofNat_Int, simprocAttr]; refine hK _ ?_; clear hK K
  refine zE ?_
  refine yC rfl ?_
  refine zT ?_; refine zG ?_; refine zG ?_; refine zH ?_; refine zE ?_
  refine zJ (fun K hK => ?_); simp (maxSteps := 2000000) (disch := omega) only [push_cast, ↓Int.cast_ofNat_Int, simprocAttr]; refine hK _ ?_; clear hK K
  refine zA ?_; refine zW ?_
  simp only [yA, yM, yH, yE, aA, aC, yK, yJ, zS, zM, Nat.reduceEqDiff, reduceIte, reduceCtorEq]
  exact aK rfl
end Go.Proofs.YtkonlklieacjoaaDoor
end
