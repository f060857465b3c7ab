/-
  ref18.Changes.
-/
import Derived.Test.YtkonlklieacjoaaDoorUch
import Derived.Test.YtkonlklieacjoaaDoorTsC
import Derived.Test.YtkonlklieacjoaaDoorUpl
import Derived.Test.YtkonlklieacjoaaDoorUnB
set_option linter.unusedSimpArgs false
set_option linter.unusedVariables false
set_option maxRecDepth 20000
namespace Go.Tr
open Go Go.Eng Go.RowKit
def chgAt (sp : Int) (A B : Tri) (p : ByteArray) : Chg := ⟨p, sp, getN A.1 p, getN A.2.1 p, getN A.2.2 p, getN B.1 p, getN B.2.1 p, getN B.2.2 p⟩
def difAt (A B : Tri) (p : ByteArray) : Bool := !decide (getN A.1 p = getN B.1 p ∧ getN A.2.1 p = getN B.2.1 p ∧ getN A.2.2 p = getN B.2.2 p)
def catT (A B : Tri) : Nat → List Ent
 | 0 => []
 | k + 1 => catT A B k ++ tr A k ++ tr B k
def changesS (sp : Int) (A B : Tri) : List Chg := (picks (difAt A B) none (sortS (catT A B 3))).map (chgAt sp A B)
abbrev chZ : List HV := [.v (.int .i64 0), .v (.string ByteArray.empty)]
abbrev chN (n : Int × ByteArray) : List HV := [.v (.int .i64 n.1), .v (.string n.2)]
def cellsK (sp : Int) (A B : Tri) (p : ByteArray) : Nat → List HV
 | 0 => [.v (.string p), .v (.int .i64 sp)] ++ chZ ++ chZ ++ chZ ++ chZ ++ chZ ++ chZ
 | 1 => [.v (.string p), .v (.int .i64 sp)] ++ chN (getN A.1 p) ++ chZ ++ chZ ++ chN (getN B.1 p) ++ chZ ++ chZ
 | 2 => [.v (.string p), .v (.int .i64 sp)] ++ chN (getN A.1 p) ++ chN (getN A.2.1 p) ++ chZ ++ chN (getN B.1 p) ++ chN (getN B.2.1 p) ++ chZ
 | _ => chgL (chgAt sp A B p)
theorem cellsK_0 (sp : Int) (A B : Tri) (p : ByteArray) : cellsK sp A B p 0 = [.v (.string p), .v (.int .i64 sp), .v (.int .i64 0), .v (.string ByteArray.empty), .v (.int .i64 0), .v (.string ByteArray.empty), .v (.int .i64 0), .v (.string ByteArray.empty), .v (.int .i64 0), .v (.string ByteArray.empty), .v (.int .i64 0), .v (.string ByteArray.empty), .v (.int .i64 0), .v (.string ByteArray.empty)] := rfl
theorem cellsK_1 (sp : Int) (A B : Tri) (p : ByteArray) : cellsK sp A B p 1 = [.v (.string p), .v (.int .i64 sp), .v (.int .i64 (getN A.1 p).1), .v (.string (getN A.1 p).2), .v (.int .i64 0), .v (.string ByteArray.empty), .v (.int .i64 0), .v (.string ByteArray.empty), .v (.int .i64 (getN B.1 p).1), .v (.string (getN B.1 p).2), .v (.int .i64 0), .v (.string ByteArray.empty), .v (.int .i64 0), .v (.string ByteArray.empty)] := rfl
theorem cellsK_2 (sp : Int) (A B : Tri) (p : ByteArray) : cellsK sp A B p 2 = [.v (.string p), .v (.int .i64 sp), .v (.int .i64 (getN A.1 p).1), .v (.string (getN A.1 p).2), .v (.int .i64 (getN A.2.1 p).1), .v (.string (getN A.2.1 p).2), .v (.int .i64 0), .v (.string ByteArray.empty), .v (.int .i64 (getN B.1 p).1), .v (.string (getN B.1 p).2), .v (.int .i64 (getN B.2.1 p).1), .v (.string (getN B.2.1 p).2), .v (.int .i64 0), .v (.string ByteArray.empty)] := rfl
theorem cellsK_3 (sp : Int) (A B : Tri) (p : ByteArray) : cellsK sp A B p 3 = [.v (.string p), .v (.int .i64 sp), .v (.int .i64 (getN A.1 p).1), .v (.string (getN A.1 p).2), .v (.int .i64 (getN A.2.1 p).1), .v (.string (getN A.2.1 p).2), .v (.int .i64 (getN A.2.2 p).1), .v (.string (getN A.2.2 p).2), .v (.int .i64 (getN B.1 p).1), .v (.string (getN B.1 p).2), .v (.int .i64 (getN B.2.1 p).1), .v (.string (getN B.2.1 p).2), .v (.int .i64 (getN B.2.2 p).1), .v (.string (getN B.2.2 p).2)] := rfl
theorem chs_snocA (out : List Chg) (sp : Int) (A B : Tri) (p : ByteArray) : chs out ++ [[FV.v (.string p), .v (.int .i64 sp), .v (.int .i64 (getN A.1 p).1), .v (.string (getN A.1 p).2), .v (.int .i64 (getN A.2.1 p).1), .v (.string (getN A.2.1 p).2), .v (.int .i64 (getN A.2.2 p).1), .v (.string (getN A.2.2 p).2), .v (.int .i64 (getN B.1 p).1), .v (.string (getN B.1 p).2), .v (.int .i64 (getN B.2.1 p).1), .v (.string (getN B.2.1 p).2), .v (.int .i64 (getN B.2.2 p).1), .v (.string (getN B.2.2 p).2)]] = chs (out ++ [chgAt sp A B p]) := chs_snoc out (chgAt sp A B p)
theorem catT_len {A B : Tri} (ha : ∀ i, i < 3 → (tr A i).length ≤ 200) (hb : ∀ i, i < 3 → (tr B i).length ≤ 200) : ∀ k, k ≤ 3 → (catT A B k).length ≤ k * 400
 | 0, _ => Nat.le_refl _
 | k + 1, h => by
  have := catT_len ha hb k (by omega)
  have := ha k (by omega)
  have := hb k (by omega)
  rw [catT, List.length_append, List.length_append]
  omega
end Go.Tr
namespace Go.Proofs.YtkonlklieacjoaaDoor
open Go Go.Eng Go.RowKit Go.Tr
set_option maxHeartbeats 16000000 in
theorem changes_H (sp : Int) (A B : Tri) (ha : ∀ i, i < 3 → (tr A i).length ≤ 200) (hb : ∀ i, i < 3 → (tr B i).length ≤ 200) : HFun Tryd.prog 49 [.v (.int .i64 sp), triH A, triH B] (fun h st => h = .own 0 ∧ st = [(0, rowC (changesS sp A B))]) := by
 refine hfun (N := 86) Tryd.func49 rfl Tryd.ntmps49 Tryd.results49 (by simp) ?_
 (repeat first | refine zE ?_ | refine zA ?_ | refine zC ?_ | refine zB ?_ | refine zD ?_); refine zJ (fun K hK => ?_); simp (maxSteps := 2000000) (disch := omega) only [push_cast, ↓Int.cast_ofNat_Int, simprocAttr, Int.toNat_natCast]; refine hK _ ?_; clear hK K
 (repeat first | refine zE ?_ | refine zA ?_ | refine zC ?_ | refine zB ?_ | refine zD ?_); refine zJ (fun K hK => ?_); simp (maxSteps := 2000000) (disch := omega) only [push_cast, ↓Int.cast_ofNat_Int, simprocAttr, Int.toNat_natCast]; refine hK _ ?_; clear hK K
 refine HW_ownS 7 9000 68 3 rfl (by simp only [kill_eq, row_eq, rep_eq, ekill_nil, ekill_cons, skill_nil, skill_cons, hkill_v, hkill_lst, hkill_own, hkill_ptr, hkill_vw, hkill_agg, hkill_tup, hkill_junk, rkill_sl, rkill_bx, rkill_hl, only_eq, hrep_nil, hrep_cons, Nat.reduceBEq, Nat.reduceEqDiff, reduceIte, cond_true, cond_false, List.map_cons, List.map_nil]; exact rfl) ?_
 (repeat first | refine zE ?_ | refine zA ?_ | refine zC ?_ | refine zB ?_ | refine zD ?_); refine zJ (fun K hK => ?_); simp (maxSteps := 2000000) (disch := omega) only [push_cast, ↓Int.cast_ofNat_Int, simprocAttr, Int.toNat_natCast]; refine hK _ ?_; clear hK K
 (repeat first | refine zE ?_ | refine zA ?_ | refine zC ?_ | refine zB ?_ | refine zD ?_)
 refine HW_loop (fun k : Nat => ⟨[(0, .v (.int .i64 sp)), (4, .ptr 32 3 0 0), (5, .ptr 40 3 0 0), (7, .own 9000), (8, .v (.int .i64 k))], [(32, .bx true 53 (triL A)), (40, .bx true 53 (triL B)), (9000, rowE (catT A B k))]⟩) (fun k => k ≤ 3) (fun k => 3 - k) [0, 4, 5, 7, 8] [32, 40, 9000] 0 (by simp only [zZ, zR, zP, zQ, zN, zS, zM, zX, zU, Nat.reduceEqDiff, reduceIte]; try rfl) (Nat.zero_le _) ?_
 intro k hk
 by_cases hlt : k < 3
 ·have la := ha k hlt
  have lb := hb k hlt
  have lc := catT_len ha hb k hk
  have ta := tri_getD A hlt
  have tb := tri_getD B hlt
  have hcat : catT A B (k + 1) = catT A B k ++ tr A k ++ tr B k := rfl
  (repeat first | refine zE ?_ | refine zA ?_ | refine zC ?_ | refine zB ?_ | refine zD ?_); refine zJ (fun K hK => ?_); simp (maxSteps := 2000000) (disch := omega) only [push_cast, ↓Int.cast_ofNat_Int, simprocAttr, Int.toNat_natCast]; refine hK _ ?_; clear hK K
  (repeat first | refine zE ?_ | refine zA ?_ | refine zC ?_ | refine zB ?_ | refine zD ?_)
  refine yD rfl ?_
  (repeat first | refine zK ?_ | refine zG ?_ | refine zH ?_ | refine zF rfl ?_ | refine zL ?_ | refine zB ?_ | refine zE ?_ | refine zA ?_ | refine zC ?_ | refine zT ?_ | refine zW ?_)
  (repeat first | refine zE ?_ | refine zA ?_ | refine zC ?_ | refine zB ?_ | refine zD ?_); refine zJ (fun K hK => ?_); simp (maxSteps := 2000000) (disch := omega) only [push_cast, ↓Int.cast_ofNat_Int, simprocAttr, Int.toNat_natCast, ta, yV, yU, ents_app]; (repeat refine ⟨by first | omega | decide | ((repeat' apply And.intro) <;> first | omega | decide), ?_⟩); refine hK _ ?_; clear hK K
  (repeat first | refine zE ?_ | refine zA ?_ | refine zC ?_ | refine zB ?_ | refine zD ?_); refine zJ (fun K hK => ?_); simp (maxSteps := 2000000) (disch := omega) only [push_cast, ↓Int.cast_ofNat_Int, simprocAttr, Int.toNat_natCast, tb, yV, yU, ents_app, List.length_append]; (repeat refine ⟨by first | omega | decide | ((repeat' apply And.intro) <;> first | omega | decide), ?_⟩); refine hK _ ?_; clear hK K
  (repeat first | refine zK ?_ | refine zG ?_ | refine zH ?_ | refine zF rfl ?_ | refine zL ?_ | refine zB ?_ | refine zE ?_ | refine zA ?_ | refine zC ?_ | refine zT ?_ | refine zW ?_)
  (repeat first | refine zE ?_ | refine zA ?_ | refine zC ?_ | refine zB ?_ | refine zD ?_); refine zJ (fun K hK => ?_); simp (maxSteps := 2000000) (disch := omega) only [push_cast, ↓Int.cast_ofNat_Int, simprocAttr, Int.toNat_natCast]; refine hK _ ?_; clear hK K
  (repeat first | refine zK ?_ | refine zG ?_ | refine zH ?_ | refine zF rfl ?_ | refine zL ?_ | refine zB ?_ | refine zE ?_ | refine zA ?_ | refine zC ?_ | refine zT ?_ | refine zW ?_)
  exact ⟨k + 1, by simp only [zZ, zR, zP, zQ, zN, zS, zM, zX, zU, Nat.reduceEqDiff, reduceIte, hcat]; try rfl, hlt, by omega⟩
 ·have hk3 : k = 3 := by omega
  subst hk3
  have lc := catT_len ha hb 3 (Nat.le_refl _)
  (repeat first | refine zE ?_ | refine zA ?_ | refine zC ?_ | refine zB ?_ | refine zD ?_); refine zJ (fun K hK => ?_); simp (maxSteps := 2000000) (disch := omega) only [push_cast, ↓Int.cast_ofNat_Int, simprocAttr, Int.toNat_natCast]; refine hK _ ?_; clear hK K
  (repeat first | refine zE ?_ | refine zA ?_ | refine zC ?_ | refine zB ?_ | refine zD ?_)
  refine yC rfl ?_
  (repeat first | refine zK ?_ | refine zG ?_ | refine zH ?_ | refine zF rfl ?_ | refine zL ?_ | refine zB ?_ | refine zE ?_ | refine zA ?_ | refine zC ?_ | refine zT ?_ | refine zW ?_)
  refine yB [0, 4, 5, 7] [32, 40, 9000] (by simp only [zZ, zR, zP, zQ, zN, zS, zM, zX, zU, Nat.reduceEqDiff, reduceIte]; exact rfl) ?_
  have cs := sort_H (catT A B 3) (by omega)
  have sl : (sortS (catT A B 3)).length = (catT A B 3).length := (sortS_perm (catT A B 3)).length_eq
  unfold changesS
  generalize sortS (catT A B 3) = S at *
  generalize hF : difAt A B = f
  (repeat first | refine zE ?_ | refine zA ?_ | refine zC ?_ | refine zB ?_ | refine zD ?_); refine zJ (fun K hK => ?_); simp (maxSteps := 2000000) (disch := omega) only [push_cast, ↓Int.cast_ofNat_Int, simprocAttr, Int.toNat_natCast]
  refine hat 232 cl57 cs (.cons (lendO (yT _) rfl) .nil) ?_
  rintro _ _ ⟨rfl, rfl⟩
  with_reducible refine hstop ?_; simp (maxSteps := 2000000) (disch := omega) only [push_cast, ↓Int.cast_ofNat_Int, simprocAttr, Int.toNat_natCast]
  refine hK _ ?_; clear hK K
  (repeat first | refine zE ?_ | refine zA ?_ | refine zC ?_ | refine zB ?_ | refine zD ?_); refine zJ (fun K hK => ?_); simp (maxSteps := 2000000) (disch := omega) only [push_cast, ↓Int.cast_ofNat_Int, simprocAttr, Int.toNat_natCast]; refine hK _ ?_; clear hK K
  (repeat first | refine zE ?_ | refine zA ?_ | refine zC ?_ | refine zB ?_ | refine zD ?_)
  refine HW_ownS 9 9001 58 14 rfl (by simp only [kill_eq, row_eq, rep_eq, ekill_nil, ekill_cons, skill_nil, skill_cons, hkill_v, hkill_lst, hkill_own, hkill_ptr, hkill_vw, hkill_agg, hkill_tup, hkill_junk, rkill_sl, rkill_bx, rkill_hl, only_eq, hrep_nil, hrep_cons, Nat.reduceBEq, Nat.reduceEqDiff, reduceIte, cond_true, cond_false, List.map_cons, List.map_nil]; exact rfl) ?_
  (repeat first | refine zE ?_ | refine zA ?_ | refine zC ?_ | refine zB ?_ | refine zD ?_); refine zJ (fun K hK => ?_); simp (maxSteps := 2000000) (disch := omega) only [push_cast, ↓Int.cast_ofNat_Int, simprocAttr, Int.toNat_natCast]; refine hK _ ?_; clear hK K
  (repeat first | refine zE ?_ | refine zA ?_ | refine zC ?_ | refine zB ?_ | refine zD ?_)
  refine yB [0, 4, 5, 7, 9, 10] [32, 40, 232, 9001] (by simp only [zZ, zR, zP, zQ, zN, zS, zM, zX, zU, Nat.reduceEqDiff, reduceIte]; exact rfl) ?_
  refine HW_loop (fun x : Nat × List Chg => ⟨[(0, .v (.int .i64 sp)), (4, .ptr 32 3 0 0), (5, .ptr 40 3 0 0), (7, .own 232), (9, .own 9001), (10, .v (.int .i64 x.1))], [(32, .bx true 53 (triL A)), (40, .bx true 53 (triL B)), (232, rowE S), (9001, rowC x.2)]⟩) (fun x => x.1 ≤ S.length ∧ x.2.length ≤ x.1 ∧ x.2 ++ (picks f (prevE S x.1) (S.drop x.1)).map (chgAt sp A B) = (picks f none S).map (chgAt sp A B)) (fun x => S.length - x.1) [0, 4, 5, 7, 9, 10] [32, 40, 232, 9001] (0, []) (by simp only [zZ, zR, zP, zQ, zN, zS, zM, zX, zU, Nat.reduceEqDiff, reduceIte]; try rfl) ⟨Nat.zero_le _, Nat.le_refl _, rfl⟩ ?_
  clear hlt hk cs
  rintro ⟨i, out⟩ ⟨hi, hol, ho⟩
  dsimp only at hi hol ho
  by_cases hlt : i < S.length
  ·rw [List.drop_eq_getElem_cons hlt, picks] at ho
   have hnx : prevE S (i + 1) = some S[i].1 := by simp [prevE, prevE.atE0, List.getD_eq_getElem?_getD, hlt]
   have hk0 : ∀ (m : Nat), (m : Int) + 1 - 1 = m := fun m => by omega
   obtain ⟨p, hp⟩ : ∃ p, S[i].1 = p := ⟨_, rfl⟩
   rw [hp] at ho hnx
   (repeat first | refine zE ?_ | refine zA ?_ | refine zC ?_ | refine zB ?_ | refine zD ?_); refine zJ (fun K hK => ?_); simp (maxSteps := 2000000) (disch := omega) only [push_cast, ↓Int.cast_ofNat_Int, simprocAttr, Int.toNat_natCast, yV]; refine hK _ ?_; clear hK K
   (repeat first | refine zE ?_ | refine zA ?_ | refine zC ?_ | refine zB ?_ | refine zD ?_)
   refine yD rfl ?_
   (repeat first | refine zK ?_ | refine zG ?_ | refine zH ?_ | refine zF rfl ?_ | refine zL ?_ | refine zB ?_ | refine zE ?_ | refine zA ?_ | refine zC ?_ | refine zT ?_ | refine zW ?_)
   (repeat first | refine zE ?_ | refine zA ?_ | refine zC ?_ | refine zB ?_ | refine zD ?_); refine zJ (fun K hK => ?_); simp (maxSteps := 2000000) (disch := omega) only [push_cast, ↓Int.cast_ofNat_Int, simprocAttr, Int.toNat_natCast, yV, yU, yW hlt, hp]; refine hK _ ?_; clear hK K
   (repeat first | refine zE ?_ | refine zA ?_ | refine zC ?_ | refine zB ?_ | refine zD ?_)
   refine HW_meet (fun _ : Unit => ⟨[(0, .v (.int .i64 sp)), (4, .ptr 32 3 0 0), (5, .ptr 40 3 0 0), (7, .own 232), (9, .own 9001), (10, .v (.int .i64 i)), (11, .v (.string p)), (52, .v (.bool (decide (prevE S i = some p))))], [(32, .bx true 53 (triL A)), (40, .bx true 53 (triL B)), (232, rowE S), (9001, rowC out)]⟩) (fun _ => True) [0, 4, 5, 7, 9, 10, 11, 52] [32, 40, 232, 9001] ?_ ?_
   ·rcases Nat.eq_zero_or_pos i with rfl | hpos
    ·have hg : decide (prevE S 0 = some p) = false := by simp [prevE]
     (repeat first | refine zE ?_ | refine zA ?_ | refine zC ?_ | refine zB ?_ | refine zD ?_); refine zJ (fun K hK => ?_); simp (maxSteps := 2000000) (disch := omega) only [push_cast, ↓Int.cast_ofNat_Int, simprocAttr, Int.toNat_natCast, yV, yU, hk0]; refine hK _ ?_; clear hK K
     exact ⟨(), by simp only [zZ, zR, zP, zQ, zN, zS, zM, zX, zU, Nat.reduceEqDiff, reduceIte, hg]; try rfl, trivial⟩
    ·obtain ⟨m, rfl⟩ : ∃ m, i = m + 1 := ⟨i - 1, by omega⟩
     have hm : m < S.length := by omega
     have hpm : prevE S (m + 1) = some S[m].1 := by simp [prevE, prevE.atE0, List.getD_eq_getElem?_getD, hm]
     have hg : decide (prevE S (m + 1) = some p) = decide (S[m].1 = p) := by rw [hpm, decide_eq_decide]; simp
     (repeat first | refine zE ?_ | refine zA ?_ | refine zC ?_ | refine zB ?_ | refine zD ?_); refine zJ (fun K hK => ?_); simp (maxSteps := 2000000) (disch := omega) only [push_cast, ↓Int.cast_ofNat_Int, simprocAttr, Int.toNat_natCast, yV, yU, hk0, yW hm]; refine hK _ ?_; clear hK K
     exact ⟨(), by simp only [zZ, zR, zP, zQ, zN, zS, zM, zX, zU, Nat.reduceEqDiff, reduceIte, hg]; try rfl, trivial⟩
   intro S' _ hE _
   (repeat first | refine zK ?_ | refine zG ?_ | refine zH ?_ | refine zF rfl ?_ | refine zL ?_ | refine zB ?_ | refine zE ?_ | refine zA ?_ | refine zC ?_ | refine zT ?_ | refine zW ?_)
   refine yB [0, 4, 5, 7, 9, 10, 11, 52] [32, 40, 232, 9001] hE ?_
   clear hE
   by_cases hq : prevE S i = some p
   ·rw [if_neg (fun h => h.1 hq)] at ho
    rw [decide_eq_true hq]
    refine yD rfl ?_
    (repeat first | refine zK ?_ | refine zG ?_ | refine zH ?_ | refine zF rfl ?_ | refine zL ?_ | refine zB ?_ | refine zE ?_ | refine zA ?_ | refine zC ?_ | refine zT ?_ | refine zW ?_)
    (repeat first | refine zE ?_ | refine zA ?_ | refine zC ?_ | refine zB ?_ | refine zD ?_); refine zJ (fun K hK => ?_); simp (maxSteps := 2000000) (disch := omega) only [push_cast, ↓Int.cast_ofNat_Int, simprocAttr, Int.toNat_natCast]; refine hK _ ?_; clear hK K
    (repeat first | refine zK ?_ | refine zG ?_ | refine zH ?_ | refine zF rfl ?_ | refine zL ?_ | refine zB ?_ | refine zE ?_ | refine zA ?_ | refine zC ?_ | refine zT ?_ | refine zW ?_)
    exact ⟨(i + 1, out), by simp only [zZ, zR, zP, zQ, zN, zS, zM, zX, zU, Nat.reduceEqDiff, reduceIte]; try rfl, ⟨hlt, by dsimp only; omega, by dsimp only; rw [hnx]; exact ho⟩, by dsimp only; omega⟩
   ·rw [decide_eq_false hq]
    refine yC rfl ?_
    (repeat first | refine zE ?_ | refine zA ?_ | refine zC ?_ | refine zB ?_ | refine zD ?_)
    (repeat first | refine zE ?_ | refine zA ?_ | refine zC ?_ | refine zB ?_ | refine zD ?_); refine zJ (fun K hK => ?_); simp (maxSteps := 2000000) (disch := omega) only [push_cast, ↓Int.cast_ofNat_Int, simprocAttr, Int.toNat_natCast]; refine hK _ ?_; clear hK K
    (repeat first | refine zE ?_ | refine zA ?_ | refine zC ?_ | refine zB ?_ | refine zD ?_); refine zJ (fun K hK => ?_); simp (maxSteps := 2000000) (disch := omega) only [push_cast, ↓Int.cast_ofNat_Int, simprocAttr, Int.toNat_natCast]; refine hK _ ?_; clear hK K
    (repeat first | refine zE ?_ | refine zA ?_ | refine zC ?_ | refine zB ?_ | refine zD ?_)
    refine HW_loop (fun k : Nat => ⟨[(0, .v (.int .i64 sp)), (4, .ptr 32 3 0 0), (5, .ptr 40 3 0 0), (7, .own 232), (9, .own 9001), (10, .v (.int .i64 i)), (11, .v (.string p)), (12, .ptr 96 14 0 0), (13, .v (.int .i64 k))], [(96, .bx true 58 (cellsK sp A B p k)), (32, .bx true 53 (triL A)), (40, .bx true 53 (triL B)), (232, rowE S), (9001, rowC out)]⟩) (fun k => k ≤ 3) (fun k => 3 - k) [0, 4, 5, 7, 9, 10, 11, 12, 13] [96, 32, 40, 232, 9001] 0 (by simp only [zZ, zR, zP, zQ, zN, zS, zM, zX, zU, Nat.reduceEqDiff, reduceIte]; try rfl) (Nat.zero_le _) ?_
    intro k hk
    by_cases hk3 : k < 3
    ·rcases three hk3 with rfl | rfl | rfl
     ·rw [cellsK_0]
      have gA := rget_H A.1 p (by have := ha 0 (by decide); simp only [tr] at this; omega)
      have gB := rget_H B.1 p (by have := hb 0 (by decide); simp only [tr] at this; omega)
      (repeat first | refine zE ?_ | refine zA ?_ | refine zC ?_ | refine zB ?_ | refine zD ?_); refine zJ (fun K hK => ?_); simp (maxSteps := 2000000) (disch := omega) only [push_cast, ↓Int.cast_ofNat_Int, simprocAttr, Int.toNat_natCast]; refine hK _ ?_; clear hK K
      (repeat first | refine zE ?_ | refine zA ?_ | refine zC ?_ | refine zB ?_ | refine zD ?_)
      refine yD rfl ?_
      (repeat first | refine zK ?_ | refine zG ?_ | refine zH ?_ | refine zF rfl ?_ | refine zL ?_ | refine zB ?_ | refine zE ?_ | refine zA ?_ | refine zC ?_ | refine zT ?_ | refine zW ?_)
      (repeat first | refine zE ?_ | refine zA ?_ | refine zC ?_ | refine zB ?_ | refine zD ?_); refine zJ (fun K hK => ?_); simp (maxSteps := 2000000) (disch := omega) only [push_cast, ↓Int.cast_ofNat_Int, simprocAttr, Int.toNat_natCast]
      refine hat 520 cl26 gA (.cons (lendL (yT _)) (.cons (.v _) .nil)) ?_
      rintro _ _ ⟨rfl, rfl⟩
      with_reducible refine hstop ?_; simp (maxSteps := 2000000) (disch := omega) only [push_cast, ↓Int.cast_ofNat_Int, simprocAttr, Int.toNat_natCast]
      refine hK _ ?_; clear hK K
      (repeat first | refine zE ?_ | refine zA ?_ | refine zC ?_ | refine zB ?_ | refine zD ?_); refine zJ (fun K hK => ?_); simp (maxSteps := 2000000) (disch := omega) only [push_cast, ↓Int.cast_ofNat_Int, simprocAttr, Int.toNat_natCast]
      refine hat 584 cl26 gB (.cons (lendL (yT _)) (.cons (.v _) .nil)) ?_
      rintro _ _ ⟨rfl, rfl⟩
      with_reducible refine hstop ?_; simp (maxSteps := 2000000) (disch := omega) only [push_cast, ↓Int.cast_ofNat_Int, simprocAttr, Int.toNat_natCast]
      refine hK _ ?_; clear hK K
      (repeat first | refine zK ?_ | refine zG ?_ | refine zH ?_ | refine zF rfl ?_ | refine zL ?_ | refine zB ?_ | refine zE ?_ | refine zA ?_ | refine zC ?_ | refine zT ?_ | refine zW ?_)
      (repeat first | refine zE ?_ | refine zA ?_ | refine zC ?_ | refine zB ?_ | refine zD ?_); refine zJ (fun K hK => ?_); simp (maxSteps := 2000000) (disch := omega) only [push_cast, ↓Int.cast_ofNat_Int, simprocAttr, Int.toNat_natCast]; refine hK _ ?_; clear hK K
      (repeat first | refine zK ?_ | refine zG ?_ | refine zH ?_ | refine zF rfl ?_ | refine zL ?_ | refine zB ?_ | refine zE ?_ | refine zA ?_ | refine zC ?_ | refine zT ?_ | refine zW ?_)
      exact ⟨1, by simp only [zZ, zR, zP, zQ, zN, zS, zM, zX, zU, Nat.reduceEqDiff, reduceIte, cellsK_1]; try rfl, by decide, by decide⟩
     ·rw [cellsK_1]
      have gA := rget_H A.2.1 p (by have := ha 1 (by decide); simp only [tr] at this; omega)
      have gB := rget_H B.2.1 p (by have := hb 1 (by decide); simp only [tr] at this; omega)
      (repeat first | refine zE ?_ | refine zA ?_ | refine zC ?_ | refine zB ?_ | refine zD ?_); refine zJ (fun K hK => ?_); simp (maxSteps := 2000000) (disch := omega) only [push_cast, ↓Int.cast_ofNat_Int, simprocAttr, Int.toNat_natCast]; refine hK _ ?_; clear hK K
      (repeat first | refine zE ?_ | refine zA ?_ | refine zC ?_ | refine zB ?_ | refine zD ?_)
      refine yD rfl ?_
      (repeat first | refine zK ?_ | refine zG ?_ | refine zH ?_ | refine zF rfl ?_ | refine zL ?_ | refine zB ?_ | refine zE ?_ | refine zA ?_ | refine zC ?_ | refine zT ?_ | refine zW ?_)
      (repeat first | refine zE ?_ | refine zA ?_ | refine zC ?_ | refine zB ?_ | refine zD ?_); refine zJ (fun K hK => ?_); simp (maxSteps := 2000000) (disch := omega) only [push_cast, ↓Int.cast_ofNat_Int, simprocAttr, Int.toNat_natCast]
      refine hat 520 cl26 gA (.cons (lendL (yT _)) (.cons (.v _) .nil)) ?_
      rintro _ _ ⟨rfl, rfl⟩
      with_reducible refine hstop ?_; simp (maxSteps := 2000000) (disch := omega) only [push_cast, ↓Int.cast_ofNat_Int, simprocAttr, Int.toNat_natCast]
      refine hK _ ?_; clear hK K
      (repeat first | refine zE ?_ | refine zA ?_ | refine zC ?_ | refine zB ?_ | refine zD ?_); refine zJ (fun K hK => ?_); simp (maxSteps := 2000000) (disch := omega) only [push_cast, ↓Int.cast_ofNat_Int, simprocAttr, Int.toNat_natCast]
      refine hat 584 cl26 gB (.cons (lendL (yT _)) (.cons (.v _) .nil)) ?_
      rintro _ _ ⟨rfl, rfl⟩
      with_reducible refine hstop ?_; simp (maxSteps := 2000000) (disch := omega) only [push_cast, ↓Int.cast_ofNat_Int, simprocAttr, Int.toNat_natCast]
      refine hK _ ?_; clear hK K
      (repeat first | refine zK ?_ | refine zG ?_ | refine zH ?_ | refine zF rfl ?_ | refine zL ?_ | refine zB ?_ | refine zE ?_ | refine zA ?_ | refine zC ?_ | refine zT ?_ | refine zW ?_)
      (repeat first | refine zE ?_ | refine zA ?_ | refine zC ?_ | refine zB ?_ | refine zD ?_); refine zJ (fun K hK => ?_); simp (maxSteps := 2000000) (disch := omega) only [push_cast, ↓Int.cast_ofNat_Int, simprocAttr, Int.toNat_natCast]; refine hK _ ?_; clear hK K
      (repeat first | refine zK ?_ | refine zG ?_ | refine zH ?_ | refine zF rfl ?_ | refine zL ?_ | refine zB ?_ | refine zE ?_ | refine zA ?_ | refine zC ?_ | refine zT ?_ | refine zW ?_)
      exact ⟨2, by simp only [zZ, zR, zP, zQ, zN, zS, zM, zX, zU, Nat.reduceEqDiff, reduceIte, cellsK_2]; try rfl, by decide, by decide⟩
     ·rw [cellsK_2]
      have gA := rget_H A.2.2 p (by have := ha 2 (by decide); simp only [tr] at this; omega)
      have gB := rget_H B.2.2 p (by have := hb 2 (by decide); simp only [tr] at this; omega)
      (repeat first | refine zE ?_ | refine zA ?_ | refine zC ?_ | refine zB ?_ | refine zD ?_); refine zJ (fun K hK => ?_); simp (maxSteps := 2000000) (disch := omega) only [push_cast, ↓Int.cast_ofNat_Int, simprocAttr, Int.toNat_natCast]; refine hK _ ?_; clear hK K
      (repeat first | refine zE ?_ | refine zA ?_ | refine zC ?_ | refine zB ?_ | refine zD ?_)
      refine yD rfl ?_
      (repeat first | refine zK ?_ | refine zG ?_ | refine zH ?_ | refine zF rfl ?_ | refine zL ?_ | refine zB ?_ | refine zE ?_ | refine zA ?_ | refine zC ?_ | refine zT ?_ | refine zW ?_)
      (repeat first | refine zE ?_ | refine zA ?_ | refine zC ?_ | refine zB ?_ | refine zD ?_); refine zJ (fun K hK => ?_); simp (maxSteps := 2000000) (disch := omega) only [push_cast, ↓Int.cast_ofNat_Int, simprocAttr, Int.toNat_natCast]
      refine hat 520 cl26 gA (.cons (lendL (yT _)) (.cons (.v _) .nil)) ?_
      rintro _ _ ⟨rfl, rfl⟩
      with_reducible refine hstop ?_; simp (maxSteps := 2000000) (disch := omega) only [push_cast, ↓Int.cast_ofNat_Int, simprocAttr, Int.toNat_natCast]
      refine hK _ ?_; clear hK K
      (repeat first | refine zE ?_ | refine zA ?_ | refine zC ?_ | refine zB ?_ | refine zD ?_); refine zJ (fun K hK => ?_); simp (maxSteps := 2000000) (disch := omega) only [push_cast, ↓Int.cast_ofNat_Int, simprocAttr, Int.toNat_natCast]
      refine hat 584 cl26 gB (.cons (lendL (yT _)) (.cons (.v _) .nil)) ?_
      rintro _ _ ⟨rfl, rfl⟩
      with_reducible refine hstop ?_; simp (maxSteps := 2000000) (disch := omega) only [push_cast, ↓Int.cast_ofNat_Int, simprocAttr, Int.toNat_natCast]
      refine hK _ ?_; clear hK K
      (repeat first | refine zK ?_ | refine zG ?_ | refine zH ?_ | refine zF rfl ?_ | refine zL ?_ | refine zB ?_ | refine zE ?_ | refine zA ?_ | refine zC ?_ | refine zT ?_ | refine zW ?_)
      (repeat first | refine zE ?_ | refine zA ?_ | refine zC ?_ | refine zB ?_ | refine zD ?_); refine zJ (fun K hK => ?_); simp (maxSteps := 2000000) (disch := omega) only [push_cast, ↓Int.cast_ofNat_Int, simprocAttr, Int.toNat_natCast]; refine hK _ ?_; clear hK K
      (repeat first | refine zK ?_ | refine zG ?_ | refine zH ?_ | refine zF rfl ?_ | refine zL ?_ | refine zB ?_ | refine zE ?_ | refine zA ?_ | refine zC ?_ | refine zT ?_ | refine zW ?_)
      exact ⟨3, by simp only [zZ, zR, zP, zQ, zN, zS, zM, zX, zU, Nat.reduceEqDiff, reduceIte, cellsK_3]; try rfl, by decide, by decide⟩
    ·have hk3' : k = 3 := by omega
     subst hk3'
     rw [cellsK_3]
     have hfp : f p = !decide (((getN A.1 p).1, (getN A.1 p).2) = ((getN B.1 p).1, (getN B.1 p).2) ∧ ((getN A.2.1 p).1, (getN A.2.1 p).2) = ((getN B.2.1 p).1, (getN B.2.1 p).2) ∧ ((getN A.2.2 p).1, (getN A.2.2 p).2) = ((getN B.2.2 p).1, (getN B.2.2 p).2)) := by rw [← hF]; rfl
     (repeat first | refine zE ?_ | refine zA ?_ | refine zC ?_ | refine zB ?_ | refine zD ?_); refine zJ (fun K hK => ?_); simp (maxSteps := 2000000) (disch := omega) only [push_cast, ↓Int.cast_ofNat_Int, simprocAttr, Int.toNat_natCast]; refine hK _ ?_; clear hK K
     (repeat first | refine zE ?_ | refine zA ?_ | refine zC ?_ | refine zB ?_ | refine zD ?_)
     refine yC rfl ?_
     (repeat first | refine zK ?_ | refine zG ?_ | refine zH ?_ | refine zF rfl ?_ | refine zL ?_ | refine zB ?_ | refine zE ?_ | refine zA ?_ | refine zC ?_ | refine zT ?_ | refine zW ?_)
     cases hfv : f p with
     | true =>
      rw [hfv] at hfp
      rw [if_pos ⟨hq, hfv⟩, List.map_cons] at ho
      (repeat first | refine zE ?_ | refine zA ?_ | refine zC ?_ | refine zB ?_ | refine zD ?_); refine zJ (fun K hK => ?_); simp (maxSteps := 2000000) (disch := omega) only [push_cast, ↓Int.cast_ofNat_Int, simprocAttr, Int.toNat_natCast]
      refine ⟨_, eq3N _ _ _ _ _ _ _ _ _ _ _ _, ?_⟩
      with_reducible refine hstop ?_; simp (maxSteps := 2000000) (disch := omega) only [push_cast, ↓Int.cast_ofNat_Int, simprocAttr, Int.toNat_natCast, hfp.symm]
      refine hK _ ?_; clear hK K
      refine yD rfl ?_
      (repeat first | refine zE ?_ | refine zA ?_ | refine zC ?_ | refine zB ?_ | refine zD ?_); refine zJ (fun K hK => ?_); simp (maxSteps := 2000000) (disch := omega) only [push_cast, ↓Int.cast_ofNat_Int, simprocAttr, Int.toNat_natCast, chs_len, chs_snocA]; (repeat refine ⟨by first | omega | decide | ((repeat' apply And.intro) <;> first | omega | decide), ?_⟩); refine hK _ ?_; clear hK K
      (repeat first | refine zK ?_ | refine zG ?_ | refine zH ?_ | refine zF rfl ?_ | refine zL ?_ | refine zB ?_ | refine zE ?_ | refine zA ?_ | refine zC ?_ | refine zT ?_ | refine zW ?_)
      (repeat first | refine zE ?_ | refine zA ?_ | refine zC ?_ | refine zB ?_ | refine zD ?_); refine zJ (fun K hK => ?_); simp (maxSteps := 2000000) (disch := omega) only [push_cast, ↓Int.cast_ofNat_Int, simprocAttr, Int.toNat_natCast]; refine hK _ ?_; clear hK K
      (repeat first | refine zK ?_ | refine zG ?_ | refine zH ?_ | refine zF rfl ?_ | refine zL ?_ | refine zB ?_ | refine zE ?_ | refine zA ?_ | refine zC ?_ | refine zT ?_ | refine zW ?_)
      exact ⟨(i + 1, out ++ [chgAt sp A B p]), by simp only [zZ, zR, zP, zQ, zN, zS, zM, zX, zU, Nat.reduceEqDiff, reduceIte]; try rfl, ⟨hlt, by simp only [List.length_append, List.length_singleton]; omega, by dsimp only; rw [hnx, ← ho]; simp⟩, by dsimp only; omega⟩
     | false =>
      rw [hfv] at hfp
      rw [if_neg (fun h => by rw [hfv] at h; cases h.2)] at ho
      (repeat first | refine zE ?_ | refine zA ?_ | refine zC ?_ | refine zB ?_ | refine zD ?_); refine zJ (fun K hK => ?_); simp (maxSteps := 2000000) (disch := omega) only [push_cast, ↓Int.cast_ofNat_Int, simprocAttr, Int.toNat_natCast]
      refine ⟨_, eq3N _ _ _ _ _ _ _ _ _ _ _ _, ?_⟩
      with_reducible refine hstop ?_; simp (maxSteps := 2000000) (disch := omega) only [push_cast, ↓Int.cast_ofNat_Int, simprocAttr, Int.toNat_natCast, hfp.symm]
      refine hK _ ?_; clear hK K
      refine yC rfl ?_
      (repeat first | refine zK ?_ | refine zG ?_ | refine zH ?_ | refine zF rfl ?_ | refine zL ?_ | refine zB ?_ | refine zE ?_ | refine zA ?_ | refine zC ?_ | refine zT ?_ | refine zW ?_)
      (repeat first | refine zE ?_ | refine zA ?_ | refine zC ?_ | refine zB ?_ | refine zD ?_); refine zJ (fun K hK => ?_); simp (maxSteps := 2000000) (disch := omega) only [push_cast, ↓Int.cast_ofNat_Int, simprocAttr, Int.toNat_natCast]; refine hK _ ?_; clear hK K
      (repeat first | refine zK ?_ | refine zG ?_ | refine zH ?_ | refine zF rfl ?_ | refine zL ?_ | refine zB ?_ | refine zE ?_ | refine zA ?_ | refine zC ?_ | refine zT ?_ | refine zW ?_)
      exact ⟨(i + 1, out), by simp only [zZ, zR, zP, zQ, zN, zS, zM, zX, zU, Nat.reduceEqDiff, reduceIte]; try rfl, ⟨hlt, by dsimp only; omega, by dsimp only; rw [hnx]; exact ho⟩, by dsimp only; omega⟩
  ·have hie : i = S.length := by omega
   subst hie
   rw [List.drop_length, show picks f (prevE S S.length) [] = [] from by rw [picks], List.map_nil, List.append_nil] at ho
   rw [← ho]
   (repeat first | refine zE ?_ | refine zA ?_ | refine zC ?_ | refine zB ?_ | refine zD ?_); refine zJ (fun K hK => ?_); simp (maxSteps := 2000000) (disch := omega) only [push_cast, ↓Int.cast_ofNat_Int, simprocAttr, Int.toNat_natCast, yV]; refine hK _ ?_; clear hK K
   (repeat first | refine zE ?_ | refine zA ?_ | refine zC ?_ | refine zB ?_ | refine zD ?_)
   refine yC rfl ?_
   (repeat first | refine zK ?_ | refine zG ?_ | refine zH ?_ | refine zF rfl ?_ | refine zL ?_ | refine zB ?_ | refine zE ?_ | refine zA ?_ | refine zC ?_ | refine zT ?_ | refine zW ?_)
   (repeat first | refine zE ?_ | refine zA ?_ | refine zC ?_ | refine zB ?_ | refine zD ?_); refine zJ (fun K hK => ?_); simp (maxSteps := 2000000) (disch := omega) only [push_cast, ↓Int.cast_ofNat_Int, simprocAttr, Int.toNat_natCast]; refine hK _ ?_; clear hK K
   (repeat first | refine zK ?_ | refine zG ?_ | refine zH ?_ | refine zF rfl ?_ | refine zL ?_ | refine zB ?_ | refine zE ?_ | refine zA ?_ | refine zC ?_ | refine zT ?_ | refine zW ?_)
   simp only [yA, yM, yH, yE, resH_cell, resC_go, yK, yJ, zS, zM, Nat.reduceEqDiff, reduceIte, reduceCtorEq]
   exact hres_o rfl (chs_fresh _) ⟨rfl, rfl⟩
end Go.Proofs.YtkonlklieacjoaaDoor
