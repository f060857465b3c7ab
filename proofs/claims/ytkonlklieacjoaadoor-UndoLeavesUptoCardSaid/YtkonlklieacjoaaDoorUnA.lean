/-
  Changes, three trees as values; what is ripe.
-/
import Derived.Test.YtkonlklieacjoaaDoorTrK
import Derived.Test.YtkonlklieacjoaaDoorTrL
import Derived.Test.YtkonlklieacjoaaDoorSl
import Derived.Test.YtkonlklieacjoaaDoorTrO
set_option linter.unusedSimpArgs false
set_option linter.unusedVariables false
set_option maxRecDepth 20000
namespace Go.Tr
open Go Go.Eng Go.RowKit
structure Chg where
 p : ByteArray
 k : Int
 b0 : Int × ByteArray
 b1 : Int × ByteArray
 b2 : Int × ByteArray
 a0 : Int × ByteArray
 a1 : Int × ByteArray
 a2 : Int × ByteArray
def Chg.b (c : Chg) : Nat → Int × ByteArray
 | 0 => c.b0
 | 1 => c.b1
 | _ => c.b2
def Chg.a (c : Chg) : Nat → Int × ByteArray
 | 0 => c.a0
 | 1 => c.a1
 | _ => c.a2
def chgF (c : Chg) : List FV := [.v (.string c.p), .v (.int .i64 c.k), .v (.int .i64 c.b0.1), .v (.string c.b0.2), .v (.int .i64 c.b1.1), .v (.string c.b1.2), .v (.int .i64 c.b2.1), .v (.string c.b2.2), .v (.int .i64 c.a0.1), .v (.string c.a0.2), .v (.int .i64 c.a1.1), .v (.string c.a1.2), .v (.int .i64 c.a2.1), .v (.string c.a2.2)]
abbrev chgL (c : Chg) : List HV := [.v (.string c.p), .v (.int .i64 c.k), .v (.int .i64 c.b0.1), .v (.string c.b0.2), .v (.int .i64 c.b1.1), .v (.string c.b1.2), .v (.int .i64 c.b2.1), .v (.string c.b2.2), .v (.int .i64 c.a0.1), .v (.string c.a0.2), .v (.int .i64 c.a1.1), .v (.string c.a1.2), .v (.int .i64 c.a2.1), .v (.string c.a2.2)]
abbrev chgH (c : Chg) : HV := .agg (chgL c)
def chs (l : List Chg) : List (List FV) := l.map chgF
theorem chs_len (l : List Chg) : (chs l).length = l.length := by simp [chs]
theorem chs_wid (l : List Chg) : Wid 14 (chs l) = True := eq_true (wid_map l fun _ => rfl)
theorem chs_get {l : List Chg} {i : Nat} {d : List FV} (h : i < l.length) : (chs l).getD i d = [.v (.string l[i].p), .v (.int .i64 l[i].k), .v (.int .i64 l[i].b0.1), .v (.string l[i].b0.2), .v (.int .i64 l[i].b1.1), .v (.string l[i].b1.2), .v (.int .i64 l[i].b2.1), .v (.string l[i].b2.2), .v (.int .i64 l[i].a0.1), .v (.string l[i].a0.2), .v (.int .i64 l[i].a1.1), .v (.string l[i].a1.2), .v (.int .i64 l[i].a2.1), .v (.string l[i].a2.2)] := by unfold chs; rw [getD_map h]; rfl
theorem chs_old (l : List Chg) : olds (chs l) = chs l := by
 unfold olds chs; rw [List.map_map]; apply List.map_congr_left; intro s _; simp [chgF, FV.old]
theorem chs_fresh (l : List Chg) : ∀ x ∈ chs l, ∀ f ∈ x, FreshF f := fun x hx f hf => by
 obtain ⟨s, -, rfl⟩ := List.mem_map.1 hx
 simp [chgF] at hf
 rcases hf with rfl | rfl | rfl | rfl | rfl | rfl | rfl | rfl | rfl | rfl | rfl | rfl | rfl | rfl <;> exact .v _
theorem chs_snoc (l : List Chg) (c : Chg) : chs l ++ [[FV.v (.string c.p), .v (.int .i64 c.k), .v (.int .i64 c.b0.1), .v (.string c.b0.2), .v (.int .i64 c.b1.1), .v (.string c.b1.2), .v (.int .i64 c.b2.1), .v (.string c.b2.2), .v (.int .i64 c.a0.1), .v (.string c.a0.2), .v (.int .i64 c.a1.1), .v (.string c.a1.2), .v (.int .i64 c.a2.1), .v (.string c.a2.2)]] = chs (l ++ [c]) := by simp [chs, chgF]
abbrev Tri := List Ent × List Ent × List Ent
def tr (T : Tri) : Nat → List Ent
 | 0 => T.1
 | 1 => T.2.1
 | _ => T.2.2
abbrev triL (T : Tri) : List HV := [.lst false (ents T.1), .lst false (ents T.2.1), .lst false (ents T.2.2)]
abbrev triH (T : Tri) : HV := .agg (triL T)
theorem lend_chg {st : Store} (c : Chg) : Lend st (chgH c) (chgH c) := .agg rfl fun j h1 h2 => by
 match j, h1 with
 | 0, _ | 1, _ | 2, _ | 3, _ | 4, _ | 5, _ | 6, _ | 7, _ | 8, _ | 9, _ | 10, _ | 11, _ | 12, _ | 13, _ => exact .v _
theorem lend_tri {st : Store} {T : Tri} {h0 h1 h2 : HV} (l0 : Lend st h0 (.lst false (ents T.1))) (l1 : Lend st h1 (.lst false (ents T.2.1))) (l2 : Lend st h2 (.lst false (ents T.2.2))) : Lend st (.agg [h0, h1, h2]) (triH T) := .agg rfl fun j h1 h2 => by
 match j, h1 with
 | 0, _ => exact l0
 | 1, _ => exact l1
 | 2, _ => exact l2
theorem three {i : Nat} (h : i < 3) : i = 0 ∨ i = 1 ∨ i = 2 := by omega
theorem chg_b (c : Chg) {i : Nat} (h : i < 3) : (((chgL c).drop (2 + i * 2)).take 2) = [.v (.int .i64 (c.b i).1), .v (.string (c.b i).2)] := by
 rcases three h with rfl | rfl | rfl <;> rfl
theorem chg_a (c : Chg) {i : Nat} (h : i < 3) : (((chgL c).drop (8 + i * 2)).take 2) = [.v (.int .i64 (c.a i).1), .v (.string (c.a i).2)] := by
 rcases three h with rfl | rfl | rfl <;> rfl
theorem tri_get (T : Tri) {i : Nat} (h : i < 3) : (triL T)[i]? = some (.lst false (ents (tr T i))) := by
 rcases three h with rfl | rfl | rfl <;> rfl
def ripe1 (c : Chg) (T : Tri) (i : Nat) : Bool := decide (c.b i = c.a i) || decide (getN (tr T i) c.p = c.a i)
def ripe (c : Chg) (T : Tri) : Bool := (List.range 3).all (ripe1 c T)
end Go.Tr
namespace Go.Proofs.YtkonlklieacjoaaDoor
open Go Go.Eng Go.RowKit Go.Tr
set_option maxHeartbeats 4000000 in
theorem ripe_H (c : Chg) (T : Tri) (hr : ∀ i, i < 3 → rise (tr T i)) (hl : ∀ i, i < 3 → (tr T i).length ≤ 1048576) : HFun Tryd.prog 47 [chgH c, triH T] (fun h st => h = .v (.bool (ripe c T))) := by
 refine hfun (N := 33) Tryd.func47 rfl Tryd.ntmps47 Tryd.results47 (by simp) ?_
 (repeat first | refine zE ?_ | refine zA ?_ | refine zC ?_ | refine zB ?_ | refine zD ?_); refine zJ (fun K hK => ?_); simp (maxSteps := 2000000) (disch := omega) only [push_cast, ↓Int.cast_ofNat_Int, simprocAttr, Int.toNat_natCast]; refine hK _ ?_; clear hK K
 (repeat first | refine zE ?_ | refine zA ?_ | refine zC ?_ | refine zB ?_ | refine zD ?_); refine zJ (fun K hK => ?_); simp (maxSteps := 2000000) (disch := omega) only [push_cast, ↓Int.cast_ofNat_Int, simprocAttr, Int.toNat_natCast]; refine hK _ ?_; clear hK K
 (repeat first | refine zE ?_ | refine zA ?_ | refine zC ?_ | refine zB ?_ | refine zD ?_)
 refine HW_loop (fun i : Nat => ⟨[(2, .ptr 16 14 0 0), (3, .ptr 24 3 0 0), (7, triH T), (8, .v (.int .i64 i))], [(16, .bx true 58 (chgL c)), (24, .bx true 53 (triL T))]⟩) (fun i => i ≤ 3 ∧ ∀ j, j < i → ripe1 c T j = true) (fun i => 3 - i) [2, 3, 7, 8] [16, 24] 0 (by simp only [zZ, zR, zP, zQ, zN, zS, zM, zX, zU, Nat.reduceEqDiff, reduceIte]; try rfl) ⟨Nat.zero_le _, fun j hj => by omega⟩ ?_
 rintro i ⟨hi, hb⟩
 by_cases hlt : i < 3
 ·have e1 := chg_b c hlt
  have e2 := chg_a c hlt
  have e3 := tri_get T hlt
  (repeat first | refine zE ?_ | refine zA ?_ | refine zC ?_ | refine zB ?_ | refine zD ?_); refine zJ (fun K hK => ?_); simp (maxSteps := 2000000) (disch := omega) only [push_cast, ↓Int.cast_ofNat_Int, simprocAttr, Int.toNat_natCast]; refine hK _ ?_; clear hK K
  (repeat first | refine zE ?_ | refine zA ?_ | refine zC ?_ | refine zB ?_ | refine zD ?_)
  refine yD rfl ?_
  (repeat first | refine zK ?_ | refine zG ?_ | refine zH ?_ | refine zF rfl ?_ | refine zL ?_ | refine zB ?_ | refine zE ?_ | refine zA ?_ | refine zC ?_ | refine zT ?_ | refine zW ?_)
  (repeat first | refine zE ?_ | refine zA ?_ | refine zC ?_ | refine zB ?_ | refine zD ?_); refine zJ (fun K hK => ?_); simp (maxSteps := 2000000) (disch := omega) only [push_cast, ↓Int.cast_ofNat_Int, simprocAttr, Int.toNat_natCast, e3]; refine hK _ ?_; clear hK K
  have c25 := get_H (tr T i) c.p (hr i hlt) (by have := hl i hlt; omega)
  have hd : ripe1 c T i = (decide ((c.b i).1 = (c.a i).1 ∧ (c.b i).2 = (c.a i).2) || decide ((getN (tr T i) c.p).1 = (c.a i).1 ∧ (getN (tr T i) c.p).2 = (c.a i).2)) := by
   rw [ripe1, decide_eq_decide.2 Prod.ext_iff, decide_eq_decide.2 (Prod.ext_iff (x := getN (tr T i) c.p))]
  generalize getN (tr T i) c.p = m at c25 hd
  obtain ⟨km, dm⟩ := m
  dsimp only at hd
  generalize c.b i = nb at e1 hd
  generalize c.a i = na at e2 hd
  obtain ⟨kb, db⟩ := nb
  obtain ⟨ka, da⟩ := na
  dsimp only at e1 e2 hd
  cases hq : decide (kb = ka ∧ db = da) with
  | true =>
   rw [hq, Bool.true_or] at hd
   (repeat first | refine zE ?_ | refine zA ?_ | refine zC ?_ | refine zB ?_ | refine zD ?_); refine HW_drwR2 20 mixed (by kernel_rfl) (fun K hK K1 hK1 => ?_); simp (maxSteps := 2000000) (disch := omega) only [push_cast, ↓Int.cast_ofNat_Int, simprocAttr, Int.toNat_natCast, e1, e2]
   refine ⟨_, eqN _ _ _ _, ?_⟩
   with_reducible refine hstop ?_; simp (maxSteps := 2000000) (disch := omega) only [push_cast, ↓Int.cast_ofNat_Int, simprocAttr, Int.toNat_natCast, hq]
   refine hK1 _ ?_; clear hK1 K1; with_reducible refine hstop ?_; simp (maxSteps := 2000000) (disch := omega) only [push_cast, ↓Int.cast_ofNat_Int, simprocAttr, Int.toNat_natCast, hq]
   refine hK _ ?_; clear hK K
   refine yC rfl ?_
   (repeat first | refine zK ?_ | refine zG ?_ | refine zH ?_ | refine zF rfl ?_ | refine zL ?_ | refine zB ?_ | refine zE ?_ | refine zA ?_ | refine zC ?_ | refine zT ?_ | refine zW ?_)
   (repeat first | refine zE ?_ | refine zA ?_ | refine zC ?_ | refine zB ?_ | refine zD ?_); refine zJ (fun K hK => ?_); simp (maxSteps := 2000000) (disch := omega) only [push_cast, ↓Int.cast_ofNat_Int, simprocAttr, Int.toNat_natCast]; refine hK _ ?_; clear hK K
   (repeat first | refine zK ?_ | refine zG ?_ | refine zH ?_ | refine zF rfl ?_ | refine zL ?_ | refine zB ?_ | refine zE ?_ | refine zA ?_ | refine zC ?_ | refine zT ?_ | refine zW ?_)
   refine ⟨i + 1, by simp only [zZ, zR, zP, zQ, zN, zS, zM, zX, zU, Nat.reduceEqDiff, reduceIte]; try rfl, ⟨hlt, fun j hj => ?_⟩, by omega⟩
   by_cases e : j = i
   ·subst e; exact hd
   ·exact hb j (by omega)
  | false =>
   rw [hq, Bool.false_or] at hd
   (repeat first | refine zE ?_ | refine zA ?_ | refine zC ?_ | refine zB ?_ | refine zD ?_); refine HW_drwR2 20 mixed (by kernel_rfl) (fun K hK K1 hK1 => ?_); simp (maxSteps := 2000000) (disch := omega) only [push_cast, ↓Int.cast_ofNat_Int, simprocAttr, Int.toNat_natCast, e1, e2]
   refine ⟨_, eqN _ _ _ _, ?_⟩
   with_reducible refine hstop ?_; simp (maxSteps := 2000000) (disch := omega) only [push_cast, ↓Int.cast_ofNat_Int, simprocAttr, Int.toNat_natCast, hq]
   refine hatRn cl25 c25 (.cons (lendL (yT _)) (.cons (.v _) .nil)) ?_
   with_reducible refine hstop ?_; simp (maxSteps := 2000000) (disch := omega) only [push_cast, ↓Int.cast_ofNat_Int, simprocAttr, Int.toNat_natCast, hq, e2]
   refine ⟨_, eqN _ _ _ _, ?_⟩
   cases hq2 : decide (km = ka ∧ dm = da) with
   | true =>
    with_reducible refine hstop ?_; simp (maxSteps := 2000000) (disch := omega) only [push_cast, ↓Int.cast_ofNat_Int, simprocAttr, Int.toNat_natCast, hq, hq2]
    refine hK1 _ ?_; clear hK1 K1; with_reducible refine hstop ?_; simp (maxSteps := 2000000) (disch := omega) only [push_cast, ↓Int.cast_ofNat_Int, simprocAttr, Int.toNat_natCast, hq, hq2]
    refine hK _ ?_; clear hK K
    refine yC rfl ?_
    (repeat first | refine zK ?_ | refine zG ?_ | refine zH ?_ | refine zF rfl ?_ | refine zL ?_ | refine zB ?_ | refine zE ?_ | refine zA ?_ | refine zC ?_ | refine zT ?_ | refine zW ?_)
    (repeat first | refine zE ?_ | refine zA ?_ | refine zC ?_ | refine zB ?_ | refine zD ?_); refine zJ (fun K hK => ?_); simp (maxSteps := 2000000) (disch := omega) only [push_cast, ↓Int.cast_ofNat_Int, simprocAttr, Int.toNat_natCast]; refine hK _ ?_; clear hK K
    (repeat first | refine zK ?_ | refine zG ?_ | refine zH ?_ | refine zF rfl ?_ | refine zL ?_ | refine zB ?_ | refine zE ?_ | refine zA ?_ | refine zC ?_ | refine zT ?_ | refine zW ?_)
    refine ⟨i + 1, by simp only [zZ, zR, zP, zQ, zN, zS, zM, zX, zU, Nat.reduceEqDiff, reduceIte]; try rfl, ⟨hlt, fun j hj => ?_⟩, by omega⟩
    by_cases e : j = i
    ·subst e; rw [hd, hq2]
    ·exact hb j (by omega)
   | false =>
    have hf : ripe c T = false := List.all_eq_false.2 ⟨i, List.mem_range.2 hlt, by rw [hd, hq2]; decide⟩
    with_reducible refine hstop ?_; simp (maxSteps := 2000000) (disch := omega) only [push_cast, ↓Int.cast_ofNat_Int, simprocAttr, Int.toNat_natCast, hq, hq2]
    refine hK1 _ ?_; clear hK1 K1; with_reducible refine hstop ?_; simp (maxSteps := 2000000) (disch := omega) only [push_cast, ↓Int.cast_ofNat_Int, simprocAttr, Int.toNat_natCast, hq, hq2]
    refine hK _ ?_; clear hK K
    refine yD rfl ?_
    (repeat first | refine zE ?_ | refine zA ?_ | refine zC ?_ | refine zB ?_ | refine zD ?_); refine zJ (fun K hK => ?_); simp (maxSteps := 2000000) (disch := omega) only [push_cast, ↓Int.cast_ofNat_Int, simprocAttr, Int.toNat_natCast]; refine hK _ ?_; clear hK K
    (repeat first | refine zK ?_ | refine zG ?_ | refine zH ?_ | refine zF rfl ?_ | refine zL ?_ | refine zB ?_ | refine zE ?_ | refine zA ?_ | refine zC ?_ | refine zT ?_ | refine zW ?_)
    simp only [yA, yM, yH, yE, resH_cell, resC_go, yK, yJ, zS, zM, Nat.reduceEqDiff, reduceIte, reduceCtorEq]
    exact hres_v (by rw [hf])
 ·have hne : i = 3 := by omega
  subst hne
  have ht : ripe c T = true := List.all_eq_true.2 fun j hj => hb j (List.mem_range.1 hj)
  rw [ht]
  (repeat first | refine zE ?_ | refine zA ?_ | refine zC ?_ | refine zB ?_ | refine zD ?_); refine zJ (fun K hK => ?_); simp (maxSteps := 2000000) (disch := omega) only [push_cast, ↓Int.cast_ofNat_Int, simprocAttr, Int.toNat_natCast]; refine hK _ ?_; clear hK K
  (repeat first | refine zE ?_ | refine zA ?_ | refine zC ?_ | refine zB ?_ | refine zD ?_)
  refine yC rfl ?_
  (repeat first | refine zK ?_ | refine zG ?_ | refine zH ?_ | refine zF rfl ?_ | refine zL ?_ | refine zB ?_ | refine zE ?_ | refine zA ?_ | refine zC ?_ | refine zT ?_ | refine zW ?_)
  (repeat first | refine zE ?_ | refine zA ?_ | refine zC ?_ | refine zB ?_ | refine zD ?_); refine zJ (fun K hK => ?_); simp (maxSteps := 2000000) (disch := omega) only [push_cast, ↓Int.cast_ofNat_Int, simprocAttr, Int.toNat_natCast]; refine hK _ ?_; clear hK K
  (repeat first | refine zK ?_ | refine zG ?_ | refine zH ?_ | refine zF rfl ?_ | refine zL ?_ | refine zB ?_ | refine zE ?_ | refine zA ?_ | refine zC ?_ | refine zT ?_ | refine zW ?_)
  simp only [yA, yM, yH, yE, resH_cell, resC_go, yK, yJ, zS, zM, Nat.reduceEqDiff, reduceIte, reduceCtorEq]
  exact hres_v rfl
end Go.Proofs.YtkonlklieacjoaaDoor
