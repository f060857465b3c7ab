/-
  undo.back.
-/
import Derived.Test.YtkonlklieacjoaaDoorUbA
import Derived.Test.YtkonlklieacjoaaDoorChn
set_option linter.unusedSimpArgs false
set_option linter.unusedVariables false
set_option maxRecDepth 20000
namespace Go.Proofs.YtkonlklieacjoaaDoor
open Go Go.Eng Go.RowKit Go.Tr
set_option maxHeartbeats 16000000 in
theorem back_H (L : List Chg) (T : Tri) (hT : Tree3 T) (hL : L.length ≤ 1048576) (hs : ∀ c ∈ L, c.p.size ≤ 1048576) : HFun Tryd.prog 71 [.lst false (chs L), triH T] (fun h st => ∃ (U : Tri) (i : Int), h = .tup [.agg [.own 0, .own 1, .own 2], .v (.int .i64 i)] ∧ st = triS U 0 1 2 ∧ (match backS L T with | .ok V => i = -1 ∧ U = V | .error j => i = (j : Nat))) := by
 refine hfun (N := 86) Tryd.func71 rfl Tryd.ntmps71 Tryd.results71 (by simp) ?_
 (repeat first | refine zE ?_ | refine zA ?_ | refine zC ?_ | refine zB ?_ | refine zD ?_); refine zJ (fun K hK => ?_); simp (maxSteps := 2000000) (disch := omega) only [push_cast, ↓Int.cast_ofNat_Int, simprocAttr, Int.toNat_natCast]; refine hK _ ?_; clear hK K
 (repeat first | refine zE ?_ | refine zA ?_ | refine zC ?_ | refine zB ?_ | refine zD ?_); refine zJ (fun K hK => ?_); simp (maxSteps := 2000000) (disch := omega) only [push_cast, ↓Int.cast_ofNat_Int, simprocAttr, Int.toNat_natCast]; refine hK _ ?_; clear hK K
 refine HW_ownB 48 0 9001 68 3 (by decide) rfl rfl (by simp only [push_cast, List.map_cons, List.map_nil, List.set_cons_succ, List.set_cons_zero, Nat.reduceEqDiff, reduceIte, Nat.reduceBEq, cond_false, cond_true]; exact rfl) ?_
 refine HW_ownB 48 1 9002 68 3 (by decide) rfl rfl (by simp only [push_cast, List.map_cons, List.map_nil, List.set_cons_succ, List.set_cons_zero, Nat.reduceEqDiff, reduceIte, Nat.reduceBEq, cond_false, cond_true]; exact rfl) ?_
 refine HW_ownB 48 2 9003 68 3 (by decide) rfl rfl (by simp only [push_cast, List.map_cons, List.map_nil, List.set_cons_succ, List.set_cons_zero, Nat.reduceEqDiff, reduceIte, Nat.reduceBEq, cond_false, cond_true]; exact rfl) ?_
 (repeat first | refine zE ?_ | refine zA ?_ | refine zC ?_ | refine zB ?_ | refine zD ?_); refine zJ (fun K hK => ?_); simp (maxSteps := 2000000) (disch := omega) only [push_cast, ↓Int.cast_ofNat_Int, simprocAttr, Int.toNat_natCast]; refine hK _ ?_; clear hK K
 (repeat first | refine zE ?_ | refine zA ?_ | refine zC ?_ | refine zB ?_ | refine zD ?_)
 refine HW_loop (fun x : Nat × Tri => ⟨[(0, .lst false (chs L)), (4, .ptr 32 3 0 0), (6, .ptr 48 3 0 0), (17, triH T), (18, .v (.int .i64 x.1))], [(9001, rowE x.2.1), (9002, rowE x.2.2.1), (9003, rowE x.2.2.2), (32, .bx true 53 [.v (.slice none 0 0), .v (.slice none 0 0), .v (.slice none 0 0)]), (48, .bx true 53 [.own 9001, .own 9002, .own 9003])]⟩) (fun x => x.1 ≤ 3 ∧ restK L T x.1 x.2 = backS L T) (fun x => 3 - x.1) [0, 4, 6, 17, 18] [9001, 9002, 9003, 32, 48] (0, ([], [], [])) (by simp only [zZ, zR, zP, zQ, zN, zS, zM, zX, zU, Nat.reduceEqDiff, reduceIte]; try rfl) ⟨Nat.zero_le _, restK_zero L T _⟩ ?_
 rintro ⟨k, U⟩ ⟨hk, hR⟩
 dsimp only at hk hR
 by_cases hlt : k < 3
 ·rw [restK_step L T U hlt] at hR
  have e3 := tri_get T hlt
  have hTk := hT.tr k
  (repeat first | refine zE ?_ | refine zA ?_ | refine zC ?_ | refine zB ?_ | refine zD ?_); refine zJ (fun K hK => ?_); simp (maxSteps := 2000000) (disch := omega) only [push_cast, ↓Int.cast_ofNat_Int, simprocAttr, Int.toNat_natCast]; refine hK _ ?_; clear hK K
  (repeat first | refine zE ?_ | refine zA ?_ | refine zC ?_ | refine zB ?_ | refine zD ?_)
  refine yD rfl ?_
  (repeat first | refine zK ?_ | refine zG ?_ | refine zH ?_ | refine zF rfl ?_ | refine zL ?_ | refine zB ?_ | refine zE ?_ | refine zA ?_ | refine zC ?_ | refine zT ?_ | refine zW ?_)
  (repeat first | refine zE ?_ | refine zA ?_ | refine zC ?_ | refine zB ?_ | refine zD ?_); refine zJ (fun K hK => ?_); simp (maxSteps := 2000000) (disch := omega) only [push_cast, ↓Int.cast_ofNat_Int, simprocAttr, Int.toNat_natCast, e3]; refine hK _ ?_; clear hK K
  (repeat first | refine zE ?_ | refine zA ?_ | refine zC ?_ | refine zB ?_ | refine zD ?_); refine zJ (fun K hK => ?_); simp (maxSteps := 2000000) (disch := omega) only [push_cast, ↓Int.cast_ofNat_Int, simprocAttr, Int.toNat_natCast]
  refine hat 184 cl54 (clone_H (tr T k) (by have := hTk.len; omega)) (.cons (lendL (yT _)) .nil) ?_
  rintro _ _ ⟨rfl, rfl⟩
  with_reducible refine hstop ?_; simp (maxSteps := 2000000) (disch := omega) only [push_cast, ↓Int.cast_ofNat_Int, simprocAttr, Int.toNat_natCast]
  refine hK _ ?_; clear hK K
  (repeat first | refine zE ?_ | refine zA ?_ | refine zC ?_ | refine zB ?_ | refine zD ?_); refine zJ (fun K hK => ?_); simp (maxSteps := 2000000) (disch := omega) only [push_cast, ↓Int.cast_ofNat_Int, simprocAttr, Int.toNat_natCast]; refine hK _ ?_; clear hK K
  (repeat first | refine zE ?_ | refine zA ?_ | refine zC ?_ | refine zB ?_ | refine zD ?_)
  refine yB [0, 4, 6, 7, 8, 17, 18, 24, 25] [9001, 9002, 9003, 32, 48, 184] (by simp only [zZ, zR, zP, zQ, zN, zS, zM, zX, zU, Nat.reduceEqDiff, reduceIte]; exact rfl) ?_
  refine HW_name 184 9100 (by decide) rfl rfl (by simp only [name_eq, nm_eq, eren_nil, eren_cons, sren_nil, sren_cons, hren_v, hren_lst, hren_own, hren_ptr, hren_vw, hren_agg, hren_tup, hren_junk, rren_sl, rren_bx, rren_hl, Nat.reduceMul, Nat.reduceAdd, Nat.reduceEqDiff, reduceIte, List.map_cons, List.map_nil]; exact rfl) ?_
  refine HW_loop (fun x : Nat × List Ent => ⟨[(0, .lst false (chs L)), (4, .ptr 32 3 0 0), (6, .ptr 48 3 0 0), (7, .v (.int .i64 k)), (8, .own 9100), (17, triH T), (18, .v (.int .i64 k)), (24, .agg [.v (.bool true), .v (.bool false)]), (25, .v (.int .i64 x.1))], [(9001, rowE U.1), (9002, rowE U.2.1), (9003, rowE U.2.2), (9100, rowE x.2), (32, .bx true 53 [.v (.slice none 0 0), .v (.slice none 0 0), .v (.slice none 0 0)]), (48, .bx true 53 [.own 9001, .own 9002, .own 9003])]⟩) (fun x => x.1 ≤ 2 ∧ Tree x.2 ∧ restP L k x.1 x.2 = oneG k yes (lab L) (tr T k)) (fun x => 2 - x.1) [0, 4, 6, 7, 8, 17, 18, 24, 25] [9001, 9002, 9003, 9100, 32, 48] (0, tr T k) (by simp only [zZ, zR, zP, zQ, zN, zS, zM, zX, zU, Nat.reduceEqDiff, reduceIte]; try rfl) ⟨Nat.zero_le _, hTk, rfl⟩ ?_
  rintro ⟨p, t⟩ ⟨hp, ht, hP⟩
  dsimp only at hp ht hP
  by_cases hlp : p < 2
  ·rw [restP_step L k hlp] at hP
   have e5 : ([.v (.bool true), .v (.bool false)] : List HV)[p]? = some (.v (.bool (decide (p = 0)))) := by
    have : p = 0 ∨ p = 1 := by omega
    rcases this with rfl | rfl <;> rfl
   (repeat first | refine zE ?_ | refine zA ?_ | refine zC ?_ | refine zB ?_ | refine zD ?_); refine zJ (fun K hK => ?_); simp (maxSteps := 2000000) (disch := omega) only [push_cast, ↓Int.cast_ofNat_Int, simprocAttr, Int.toNat_natCast]; refine hK _ ?_; clear hK K
   (repeat first | refine zE ?_ | refine zA ?_ | refine zC ?_ | refine zB ?_ | refine zD ?_)
   refine yD rfl ?_
   (repeat first | refine zK ?_ | refine zG ?_ | refine zH ?_ | refine zF rfl ?_ | refine zL ?_ | refine zB ?_ | refine zE ?_ | refine zA ?_ | refine zC ?_ | refine zT ?_ | refine zW ?_)
   (repeat first | refine zE ?_ | refine zA ?_ | refine zC ?_ | refine zB ?_ | refine zD ?_); refine zJ (fun K hK => ?_); simp (maxSteps := 2000000) (disch := omega) only [push_cast, ↓Int.cast_ofNat_Int, simprocAttr, Int.toNat_natCast, e5]; refine hK _ ?_; clear hK K
   generalize decide (p = 0) = pass at hP ⊢
   clear e5
   (repeat first | refine zE ?_ | refine zA ?_ | refine zC ?_ | refine zB ?_ | refine zD ?_); refine zJ (fun K hK => ?_); simp (maxSteps := 2000000) (disch := omega) only [push_cast, ↓Int.cast_ofNat_Int, simprocAttr, Int.toNat_natCast, chs_len]; refine hK _ ?_; clear hK K
   (repeat first | refine zE ?_ | refine zA ?_ | refine zC ?_ | refine zB ?_ | refine zD ?_)
   refine HW_loop (fun x : Nat × List Ent => ⟨[(0, .lst false (chs L)), (4, .ptr 32 3 0 0), (6, .ptr 48 3 0 0), (7, .v (.int .i64 k)), (8, .own 9100), (10, .v (.bool pass)), (17, triH T), (18, .v (.int .i64 k)), (24, .agg [.v (.bool true), .v (.bool false)]), (25, .v (.int .i64 p)), (29, .v (.int .i64 L.length)), (30, .v (.int .i64 x.1))], [(9001, rowE U.1), (9002, rowE U.2.1), (9003, rowE U.2.2), (9100, rowE x.2), (32, .bx true 53 [.v (.slice none 0 0), .v (.slice none 0 0), .v (.slice none 0 0)]), (48, .bx true 53 [.own 9001, .own 9002, .own 9003])]⟩) (fun x => x.1 ≤ L.length ∧ Tree x.2 ∧ bindX (passG k pass ((passL L pass).drop x.1) x.2) (restP L k (p + 1)) = oneG k yes (lab L) (tr T k)) (fun x => L.length - x.1) [0, 4, 6, 7, 8, 10, 17, 18, 24, 25, 29, 30] [9001, 9002, 9003, 9100, 32, 48] (0, t) (by simp only [zZ, zR, zP, zQ, zN, zS, zM, zX, zU, Nat.reduceEqDiff, reduceIte]; try rfl) ⟨Nat.zero_le _, ht, hP⟩ ?_
   clear hP ht
   rintro ⟨j, u⟩ ⟨hj, ht, hP⟩
   dsimp only at hj ht hP
   by_cases hlj : j < L.length
   ·rw [passL_get hlj] at hP
    obtain ⟨q, c, hq, hpi, hc, hP⟩ : ∃ q c, passI L pass j = q ∧ ∃ h : q < L.length, L[q] = c ∧ bindX (passG k pass ((q, c) :: (passL L pass).drop (j + 1)) u) (restP L k (p + 1)) = oneG k yes (lab L) (tr T k) := ⟨_, _, rfl, passI_lt hlj, rfl, hP⟩
    (repeat first | refine zE ?_ | refine zA ?_ | refine zC ?_ | refine zB ?_ | refine zD ?_); refine zJ (fun K hK => ?_); simp (maxSteps := 2000000) (disch := omega) only [push_cast, ↓Int.cast_ofNat_Int, simprocAttr, Int.toNat_natCast]; refine hK _ ?_; clear hK K
    (repeat first | refine zE ?_ | refine zA ?_ | refine zC ?_ | refine zB ?_ | refine zD ?_)
    refine yD rfl ?_
    (repeat first | refine zK ?_ | refine zG ?_ | refine zH ?_ | refine zF rfl ?_ | refine zL ?_ | refine zB ?_ | refine zE ?_ | refine zA ?_ | refine zC ?_ | refine zT ?_ | refine zW ?_)
    (repeat first | refine zE ?_ | refine zA ?_ | refine zC ?_ | refine zB ?_ | refine zD ?_); refine zJ (fun K hK => ?_); simp (maxSteps := 2000000) (disch := omega) only [push_cast, ↓Int.cast_ofNat_Int, simprocAttr, Int.toNat_natCast]; refine hK _ ?_; clear hK K
    (repeat first | refine zE ?_ | refine zA ?_ | refine zC ?_ | refine zB ?_ | refine zD ?_); refine zJ (fun K hK => ?_); simp (maxSteps := 2000000) (disch := omega) only [push_cast, ↓Int.cast_ofNat_Int, simprocAttr, Int.toNat_natCast]; refine hK _ ?_; clear hK K
    (repeat first | refine zE ?_ | refine zA ?_ | refine zC ?_ | refine zB ?_ | refine zD ?_); refine zJ (fun K hK => ?_); simp (maxSteps := 2000000) (disch := omega) only [push_cast, ↓Int.cast_ofNat_Int, simprocAttr, Int.toNat_natCast]; refine hK _ ?_; clear hK K
    refine HW_meet (fun _ : Unit => ⟨[(0, .lst false (chs L)), (4, .ptr 32 3 0 0), (6, .ptr 48 3 0 0), (7, .v (.int .i64 k)), (8, .own 9100), (10, .v (.bool pass)), (12, .v (.int .i64 q)), (17, triH T), (18, .v (.int .i64 k)), (24, .agg [.v (.bool true), .v (.bool false)]), (25, .v (.int .i64 p)), (29, .v (.int .i64 L.length)), (30, .v (.int .i64 j))], [(9001, rowE U.1), (9002, rowE U.2.1), (9003, rowE U.2.2), (9100, rowE u), (32, .bx true 53 [.v (.slice none 0 0), .v (.slice none 0 0), .v (.slice none 0 0)]), (48, .bx true 53 [.own 9001, .own 9002, .own 9003])]⟩) (fun _ => True) [0, 4, 6, 7, 8, 10, 12, 17, 18, 24, 25, 29, 30] [9001, 9002, 9003, 9100, 32, 48] ?_ ?_
    ·cases pass with
     | true =>
      have e6 : (L.length : Int) - 1 - j = ((L.length - 1 - j : Nat) : Int) := by omega
      refine yD rfl ?_
      (repeat first | refine zE ?_ | refine zA ?_ | refine zC ?_ | refine zB ?_ | refine zD ?_); refine zJ (fun K hK => ?_); simp (maxSteps := 2000000) (disch := omega) only [push_cast, ↓Int.cast_ofNat_Int, simprocAttr, Int.toNat_natCast, chs_len]; refine hK _ ?_; clear hK K
      (repeat first | refine hmeetQ_normal ?_ | refine hmeetQ_ret ?_ | refine hmeetQ_exit ?_ | refine hcutQ_exit ?_ | refine hcutQ_ret ?_ | refine hcutQ_other rfl ?_ | refine zK ?_ | refine zG ?_ | refine zH ?_ | refine zF rfl ?_ | refine zL ?_ | refine zB ?_ | refine zE ?_ | refine zA ?_ | refine zC ?_ | refine zT ?_ | refine zW ?_)
      have e7 : L.length - 1 - j = q := hq
      rw [e7] at e6
      exact ⟨(), by simp only [zZ, zR, zP, zQ, zN, zS, zM, zX, zU, Nat.reduceEqDiff, reduceIte, e6]; try rfl, trivial⟩
     | false =>
      refine yC rfl ?_
      refine zC ?_
      (repeat first | refine hmeetQ_normal ?_ | refine hmeetQ_ret ?_ | refine hmeetQ_exit ?_ | refine hcutQ_exit ?_ | refine hcutQ_ret ?_ | refine hcutQ_other rfl ?_ | refine zK ?_ | refine zG ?_ | refine zH ?_ | refine zF rfl ?_ | refine zL ?_ | refine zB ?_ | refine zE ?_ | refine zA ?_ | refine zC ?_ | refine zT ?_ | refine zW ?_)
      have e7 : j = q := hq
      exact ⟨(), by rw [e7]; simp only [zZ, zR, zP, zQ, zN, zS, zM, zX, zU, Nat.reduceEqDiff, reduceIte]; try rfl, trivial⟩
    intro S' _ hE _
    (repeat first | refine zK ?_ | refine zG ?_ | refine zH ?_ | refine zF rfl ?_ | refine zL ?_ | refine zB ?_ | refine zE ?_ | refine zA ?_ | refine zC ?_ | refine zT ?_ | refine zW ?_)
    refine yB [0, 4, 6, 7, 8, 10, 12, 17, 18, 24, 25, 29, 30] [9001, 9002, 9003, 9100, 32, 48] hE ?_
    clear hE
    (repeat first | refine zE ?_ | refine zA ?_ | refine zC ?_ | refine zB ?_ | refine zD ?_)
    (repeat first | refine zE ?_ | refine zA ?_ | refine zC ?_ | refine zB ?_ | refine zD ?_); refine zJ (fun K hK => ?_); simp (maxSteps := 2000000) (disch := omega) only [push_cast, ↓Int.cast_ofNat_Int, simprocAttr, Int.toNat_natCast, chs_len, chs_wid, chs_get hpi, hc]
    refine hK _ ?_; clear hK K
    have e1 := chg_b c hlt
    have e2 := chg_a c hlt
    obtain ⟨nb, hnb⟩ : ∃ n, c.b k = n := ⟨_, rfl⟩
    obtain ⟨na, hna⟩ : ∃ n, c.a k = n := ⟨_, rfl⟩
    have hact : act k pass c = (!decide (nb.1 = na.1 ∧ nb.2 = na.2) && (decide (nb.1 = 0) == pass)) := by
     rw [act, hnb, hna, decide_eq_decide.2 Prod.ext_iff]
    rw [hnb] at e1
    rw [hna] at e2
    obtain ⟨kb, db⟩ := nb
    obtain ⟨ka, da⟩ := na
    dsimp only at e1 e2 hact
    have e4 : (chgL c).getD (2 + k * 2) .junk = .v (.int .i64 kb) := by
     have := chg_b0 c hlt
     rw [this, hnb]
    (repeat first | refine zE ?_ | refine zA ?_ | refine zC ?_ | refine zB ?_ | refine zD ?_)
    refine HW_meet (fun _ : Unit => ⟨[(0, .lst false (chs L)), (4, .ptr 32 3 0 0), (6, .ptr 48 3 0 0), (7, .v (.int .i64 k)), (8, .own 9100), (10, .v (.bool pass)), (12, .v (.int .i64 q)), (13, .ptr 104 14 0 0), (17, triH T), (18, .v (.int .i64 k)), (24, .agg [.v (.bool true), .v (.bool false)]), (25, .v (.int .i64 p)), (29, .v (.int .i64 L.length)), (30, .v (.int .i64 j)), (62, .v (.bool (!act k pass c)))], [(104, .bx true 58 (chgL c)), (9001, rowE U.1), (9002, rowE U.2.1), (9003, rowE U.2.2), (9100, rowE u), (32, .bx true 53 [.v (.slice none 0 0), .v (.slice none 0 0), .v (.slice none 0 0)]), (48, .bx true 53 [.own 9001, .own 9002, .own 9003])]⟩) (fun _ => True) [0, 4, 6, 7, 8, 10, 12, 13, 17, 18, 24, 25, 29, 30, 62] [104, 9001, 9002, 9003, 9100, 32, 48] ?_ ?_
    ·cases hd : decide (kb = ka ∧ db = da) with
     | true =>
      rw [hd, Bool.not_true, Bool.false_and] at hact
      rw [hact]
      (repeat first | refine zE ?_ | refine zA ?_ | refine zC ?_ | refine zB ?_ | refine zD ?_); refine HW_drwR2 19 mixed (by kernel_rfl) (fun K hK K1 hK1 => ?_); simp (maxSteps := 2000000) (disch := omega) only [push_cast, ↓Int.cast_ofNat_Int, simprocAttr, Int.toNat_natCast, e1, e2]
      refine ⟨_, eqN _ _ _ _, ?_⟩
      with_reducible refine hstop ?_; simp (maxSteps := 2000000) (disch := omega) only [push_cast, ↓Int.cast_ofNat_Int, simprocAttr, Int.toNat_natCast, hd]
      refine hK1 _ ?_; clear hK1 K1; with_reducible refine hstop ?_; simp (maxSteps := 2000000) (disch := omega) only [push_cast, ↓Int.cast_ofNat_Int, simprocAttr, Int.toNat_natCast, hd]
      refine hK _ ?_; clear hK K
      exact ⟨(), by simp only [zZ, zR, zP, zQ, zN, zS, zM, zX, zU, Nat.reduceEqDiff, reduceIte]; try rfl, trivial⟩
     | false =>
      rw [hd, Bool.not_false, Bool.true_and] at hact
      rw [hact]
      (repeat first | refine zE ?_ | refine zA ?_ | refine zC ?_ | refine zB ?_ | refine zD ?_); refine HW_drwR2 19 mixed (by kernel_rfl) (fun K hK K1 hK1 => ?_); simp (maxSteps := 2000000) (disch := omega) only [push_cast, ↓Int.cast_ofNat_Int, simprocAttr, Int.toNat_natCast, e1, e2]
      refine ⟨_, eqN _ _ _ _, ?_⟩
      cases h0 : decide (kb = 0) with
      | true =>
       rw [h0] at hact
       have hx : (!(decide (kb = 0) == pass)) = !pass := by rw [h0]; cases pass <;> rfl
       with_reducible refine hstop ?_; simp (maxSteps := 2000000) (disch := omega) only [push_cast, ↓Int.cast_ofNat_Int, simprocAttr, Int.toNat_natCast, hd, e4, h0]
       refine hK1 _ ?_; clear hK1 K1; with_reducible refine hstop ?_; simp (maxSteps := 2000000) (disch := omega) only [push_cast, ↓Int.cast_ofNat_Int, simprocAttr, Int.toNat_natCast, hd]
       refine hK _ ?_; clear hK K
       exact ⟨(), by simp only [zZ, zR, zP, zQ, zN, zS, zM, zX, zU, Nat.reduceEqDiff, reduceIte, hx]; try rfl, trivial⟩
      | false =>
       rw [h0] at hact
       have hx : (!(decide (kb = 0) == pass)) = !!pass := by rw [h0]; cases pass <;> rfl
       with_reducible refine hstop ?_; simp (maxSteps := 2000000) (disch := omega) only [push_cast, ↓Int.cast_ofNat_Int, simprocAttr, Int.toNat_natCast, hd, e4, h0]
       refine hK1 _ ?_; clear hK1 K1; with_reducible refine hstop ?_; simp (maxSteps := 2000000) (disch := omega) only [push_cast, ↓Int.cast_ofNat_Int, simprocAttr, Int.toNat_natCast, hd]
       refine hK _ ?_; clear hK K
       exact ⟨(), by simp only [zZ, zR, zP, zQ, zN, zS, zM, zX, zU, Nat.reduceEqDiff, reduceIte, hx]; try rfl, trivial⟩
    intro S' _ hE _
    (repeat first | refine zK ?_ | refine zG ?_ | refine zH ?_ | refine zF rfl ?_ | refine zL ?_ | refine zB ?_ | refine zE ?_ | refine zA ?_ | refine zC ?_ | refine zT ?_ | refine zW ?_)
    refine yB [0, 4, 6, 7, 8, 10, 12, 13, 17, 18, 24, 25, 29, 30, 62] [104, 9001, 9002, 9003, 9100, 32, 48] hE ?_
    clear hE
    cases ha : act k pass c with
    | false =>
     rw [passG_skip ha] at hP
     refine yD rfl ?_
     (repeat first | refine zK ?_ | refine zG ?_ | refine zH ?_ | refine zF rfl ?_ | refine zL ?_ | refine zB ?_ | refine zE ?_ | refine zA ?_ | refine zC ?_ | refine zT ?_ | refine zW ?_)
     (repeat first | refine zE ?_ | refine zA ?_ | refine zC ?_ | refine zB ?_ | refine zD ?_); refine zJ (fun K hK => ?_); simp (maxSteps := 2000000) (disch := omega) only [push_cast, ↓Int.cast_ofNat_Int, simprocAttr, Int.toNat_natCast]; refine hK _ ?_; clear hK K
     (repeat first | refine zK ?_ | refine zG ?_ | refine zH ?_ | refine zF rfl ?_ | refine zL ?_ | refine zB ?_ | refine zE ?_ | refine zA ?_ | refine zC ?_ | refine zT ?_ | refine zW ?_)
     exact ⟨(j + 1, u), by simp only [zZ, zR, zP, zQ, zN, zS, zM, zX, zU, Nat.reduceEqDiff, reduceIte]; try rfl, ⟨hlj, ht, hP⟩, by dsimp only; omega⟩
    | true =>
     refine yC rfl ?_
     (repeat first | refine zE ?_ | refine zA ?_ | refine zC ?_ | refine zB ?_ | refine zD ?_)
     have hcs : c.p.size ≤ 1048576 := hs c (by rw [← hc]; exact List.getElem_mem hpi)
     have c20 := put_H u c.p (kb, db) ht.ri (by have := ht.len; omega) hcs ht.size
     by_cases hE : putE u c.p (kb, db) = 0
     ·rw [passG_ok ha (by rw [hnb]; exact hE)] at hP
      rw [hnb] at hP
      have hput := ht.put hE
      rw [hE] at c20
      generalize putT u c.p (kb, db) = u2 at c20 hP hput
      (repeat first | refine zE ?_ | refine zA ?_ | refine zC ?_ | refine zB ?_ | refine zD ?_); refine HW_drwC 12 [(7, some 568)] [[(104, .bx true 58 (chgL c)), (9001, rowE U.1), (9002, rowE U.2.1), (9003, rowE U.2.2), (9100, rowE u), (32, .bx true 53 [.v (.slice none 0 0), .v (.slice none 0 0), .v (.slice none 0 0)]), (48, .bx true 53 [.own 9001, .own 9002, .own 9003])], [(568, rowE u2), (104, .bx true 58 (chgL c)), (9001, rowE U.1), (9002, rowE U.2.1), (9003, rowE U.2.2), (9100, rowE u), (32, .bx true 53 [.v (.slice none 0 0), .v (.slice none 0 0), .v (.slice none 0 0)]), (48, .bx true 53 [.own 9001, .own 9002, .own 9003])]] [(2, 0, 0), (6, 0, 0), (8, 1, 1), (9, 1, 1), (10, 1, 1), (11, 1, 1)] mixed (by kernel_rfl) (by kernel_rfl) rfl (fun K hK K1 hK1 => ?_); simp (maxSteps := 2000000) (disch := omega) only [push_cast, ↓Int.cast_ofNat_Int, simprocAttr, Int.toNat_natCast, nextW_nil, nextW_cons, rgOf_nil, rgOf_cons, kf_some, kf_no, stays_nil, stays_cons, strongK_store, strongK_copy, strongK_app, strongK_build, strongK_alloc, hwr2_go, hwr2_call, hall_zero, hall_one, hall_two, hall_three, slotsW_store, slotsW_call, hvca_eq, hvcb_eq, hvce_eq, hvcw_some, hvcw_none, hvc1_none, hvc1_some, hvc_nil, hvcS_some, hvcS_none, hvc_cons, List.tail_cons, List.take_nil, List.drop_nil, implies_true, e1]
      refine hatW 568 cl20 c20 (.cons (lendO (yT _) rfl) (.cons (.v _) (.cons (lend_node (n := (kb, db))) .nil))) (by simp only [skill_nil, skill_cons, rkill_sl, rkill_bx, hkill_v, hkill_lst, hkill_own, hkill_ptr, only_eq, List.map_cons, List.map_nil, Nat.reduceBEq, Nat.reduceEqDiff, reduceIte, cond_false, cond_true]; try rfl) ?_
      simp (maxSteps := 2000000) (disch := omega) only [push_cast, ↓Int.cast_ofNat_Int, simprocAttr, Int.toNat_natCast, hren_v, hren_lst, hren_own, hren_tup, hren_agg, List.map_cons, List.map_nil, nextW_nil, nextW_cons, rgOf_nil, rgOf_cons, kf_some, kf_no, stays_nil, stays_cons, strongK_store, strongK_copy, strongK_app, strongK_build, strongK_alloc, hwr2_go, hwr2_call, hall_zero, hall_one, hall_two, hall_three, slotsW_store, slotsW_call, hvca_eq, hvcb_eq, hvce_eq, hvcw_some, hvcw_none, hvc1_none, hvc1_some, hvc_nil, hvcS_some, hvcS_none, hvc_cons, List.tail_cons, List.take_nil, List.drop_nil, implies_true]
      refine hK1 _ ?_; clear hK1 K1; with_reducible refine hstop ?_; simp (maxSteps := 2000000) (disch := omega) only [push_cast, ↓Int.cast_ofNat_Int, simprocAttr, Int.toNat_natCast]
      refine hK _ ?_; clear hK K
      (repeat first | refine zE ?_ | refine zA ?_ | refine zC ?_ | refine zB ?_ | refine zD ?_); refine zJ (fun K hK => ?_); simp (maxSteps := 2000000) (disch := omega) only [push_cast, ↓Int.cast_ofNat_Int, simprocAttr, Int.toNat_natCast]; refine hK _ ?_; clear hK K
      (repeat first | refine zE ?_ | refine zA ?_ | refine zC ?_ | refine zB ?_ | refine zD ?_)
      refine yC rfl ?_
      (repeat first | refine zK ?_ | refine zG ?_ | refine zH ?_ | refine zF rfl ?_ | refine zL ?_ | refine zB ?_ | refine zE ?_ | refine zA ?_ | refine zC ?_ | refine zT ?_ | refine zW ?_)
      (repeat first | refine zE ?_ | refine zA ?_ | refine zC ?_ | refine zB ?_ | refine zD ?_); refine zJ (fun K hK => ?_); simp (maxSteps := 2000000) (disch := omega) only [push_cast, ↓Int.cast_ofNat_Int, simprocAttr, Int.toNat_natCast]; refine hK _ ?_; clear hK K
      (repeat first | refine zK ?_ | refine zG ?_ | refine zH ?_ | refine zF rfl ?_ | refine zL ?_ | refine zB ?_ | refine zE ?_ | refine zA ?_ | refine zC ?_ | refine zT ?_ | refine zW ?_)
      refine yB [0, 4, 6, 7, 8, 10, 12, 17, 18, 24, 25, 29, 30] [568, 9001, 9002, 9003, 32, 48] (by simp only [zZ, zR, zP, zQ, zN, zS, zM, zX, zU, Nat.reduceEqDiff, reduceIte]; exact rfl) ?_
      refine HW_name 568 9100 (by decide) rfl rfl (by simp only [name_eq, nm_eq, eren_nil, eren_cons, sren_nil, sren_cons, hren_v, hren_lst, hren_own, hren_ptr, hren_vw, hren_agg, hren_tup, hren_junk, rren_sl, rren_bx, rren_hl, Nat.reduceMul, Nat.reduceAdd, Nat.reduceEqDiff, reduceIte, List.map_cons, List.map_nil]; exact rfl) ?_
      (repeat first | refine zE ?_ | refine zA ?_ | refine zC ?_ | refine zB ?_ | refine zD ?_); refine zJ (fun K hK => ?_); simp (maxSteps := 2000000) (disch := omega) only [push_cast, ↓Int.cast_ofNat_Int, simprocAttr, Int.toNat_natCast]; refine hK _ ?_; clear hK K
      (repeat first | refine zK ?_ | refine zG ?_ | refine zH ?_ | refine zF rfl ?_ | refine zL ?_ | refine zB ?_ | refine zE ?_ | refine zA ?_ | refine zC ?_ | refine zT ?_ | refine zW ?_)
      exact ⟨(j + 1, u2), by simp only [zZ, zR, zP, zQ, zN, zS, zM, zX, zU, Nat.reduceEqDiff, reduceIte]; try rfl, ⟨hlj, hput, hP⟩, by dsimp only; omega⟩
     ·rw [passG_err ha (by rw [hnb]; exact hE), bindX_err'] at hP
      rw [← hP, bindX_err'] at hR
      rw [← hR]
      have hne : decide (putE u c.p (kb, db) = 0) = false := decide_eq_false hE
      generalize putE u c.p (kb, db) = er at c20 hne
      generalize putT u c.p (kb, db) = u2 at c20
      (repeat first | refine zE ?_ | refine zA ?_ | refine zC ?_ | refine zB ?_ | refine zD ?_); refine HW_drwC 12 [(7, some 568)] [[(104, .bx true 58 (chgL c)), (9001, rowE U.1), (9002, rowE U.2.1), (9003, rowE U.2.2), (9100, rowE u), (32, .bx true 53 [.v (.slice none 0 0), .v (.slice none 0 0), .v (.slice none 0 0)]), (48, .bx true 53 [.own 9001, .own 9002, .own 9003])], [(568, rowE u2), (104, .bx true 58 (chgL c)), (9001, rowE U.1), (9002, rowE U.2.1), (9003, rowE U.2.2), (9100, rowE u), (32, .bx true 53 [.v (.slice none 0 0), .v (.slice none 0 0), .v (.slice none 0 0)]), (48, .bx true 53 [.own 9001, .own 9002, .own 9003])]] [(2, 0, 0), (6, 0, 0), (8, 1, 1), (9, 1, 1), (10, 1, 1), (11, 1, 1)] mixed (by kernel_rfl) (by kernel_rfl) rfl (fun K hK K1 hK1 => ?_); simp (maxSteps := 2000000) (disch := omega) only [push_cast, ↓Int.cast_ofNat_Int, simprocAttr, Int.toNat_natCast, nextW_nil, nextW_cons, rgOf_nil, rgOf_cons, kf_some, kf_no, stays_nil, stays_cons, strongK_store, strongK_copy, strongK_app, strongK_build, strongK_alloc, hwr2_go, hwr2_call, hall_zero, hall_one, hall_two, hall_three, slotsW_store, slotsW_call, hvca_eq, hvcb_eq, hvce_eq, hvcw_some, hvcw_none, hvc1_none, hvc1_some, hvc_nil, hvcS_some, hvcS_none, hvc_cons, List.tail_cons, List.take_nil, List.drop_nil, implies_true, e1]
      refine hatW 568 cl20 c20 (.cons (lendO (yT _) rfl) (.cons (.v _) (.cons (lend_node (n := (kb, db))) .nil))) (by simp only [skill_nil, skill_cons, rkill_sl, rkill_bx, hkill_v, hkill_lst, hkill_own, hkill_ptr, only_eq, List.map_cons, List.map_nil, Nat.reduceBEq, Nat.reduceEqDiff, reduceIte, cond_false, cond_true]; try rfl) ?_
      simp (maxSteps := 2000000) (disch := omega) only [push_cast, ↓Int.cast_ofNat_Int, simprocAttr, Int.toNat_natCast, hren_v, hren_lst, hren_own, hren_tup, hren_agg, List.map_cons, List.map_nil, nextW_nil, nextW_cons, rgOf_nil, rgOf_cons, kf_some, kf_no, stays_nil, stays_cons, strongK_store, strongK_copy, strongK_app, strongK_build, strongK_alloc, hwr2_go, hwr2_call, hall_zero, hall_one, hall_two, hall_three, slotsW_store, slotsW_call, hvca_eq, hvcb_eq, hvce_eq, hvcw_some, hvcw_none, hvc1_none, hvc1_some, hvc_nil, hvcS_some, hvcS_none, hvc_cons, List.tail_cons, List.take_nil, List.drop_nil, implies_true]
      refine hK1 _ ?_; clear hK1 K1; with_reducible refine hstop ?_; simp (maxSteps := 2000000) (disch := omega) only [push_cast, ↓Int.cast_ofNat_Int, simprocAttr, Int.toNat_natCast]
      refine hK _ ?_; clear hK K
      (repeat first | refine zE ?_ | refine zA ?_ | refine zC ?_ | refine zB ?_ | refine zD ?_); refine zJ (fun K hK => ?_); simp (maxSteps := 2000000) (disch := omega) only [push_cast, ↓Int.cast_ofNat_Int, simprocAttr, Int.toNat_natCast, hne]; refine hK _ ?_; clear hK K
      (repeat first | refine zE ?_ | refine zA ?_ | refine zC ?_ | refine zB ?_ | refine zD ?_)
      refine yD rfl ?_
      (repeat first | refine zE ?_ | refine zA ?_ | refine zC ?_ | refine zB ?_ | refine zD ?_); refine zJ (fun K hK => ?_); simp (maxSteps := 2000000) (disch := omega) only [push_cast, ↓Int.cast_ofNat_Int, simprocAttr, Int.toNat_natCast]; refine hK _ ?_; clear hK K
      (repeat first | refine zK ?_ | refine zG ?_ | refine zH ?_ | refine zF rfl ?_ | refine zL ?_ | refine zB ?_ | refine zE ?_ | refine zA ?_ | refine zC ?_ | refine zT ?_ | refine zW ?_)
      simp (maxSteps := 2000000) (disch := omega) only [yA, yM, yH, yE, resH_cell, resC_go, yK, yJ, push_cast, ↓Int.cast_ofNat_Int, Nat.reduceBEq, Nat.reduceAdd, Nat.reduceLT, Nat.reduceEqDiff, reduceIte, reduceCtorEq, Nat.reduceLeDiff, Nat.reduceSub, List.reduceReplicate, Nat.reduceMul, Int.reduceToNat, Int.toNat_natCast, Nat.reducePow, reduceIte]
      exact hres_tri rfl rfl rfl (by decide) (by decide) (by decide) ⟨U, q, rfl, rfl, rfl⟩
   ·have hje : j = L.length := by omega
    subst hje
    rw [List.drop_of_length_le (by rw [passL_len]; exact Nat.le_refl _), passG_nil, bindX_ok'] at hP
    (repeat first | refine zE ?_ | refine zA ?_ | refine zC ?_ | refine zB ?_ | refine zD ?_); refine zJ (fun K hK => ?_); simp (maxSteps := 2000000) (disch := omega) only [push_cast, ↓Int.cast_ofNat_Int, simprocAttr, Int.toNat_natCast]; refine hK _ ?_; clear hK K
    (repeat first | refine zE ?_ | refine zA ?_ | refine zC ?_ | refine zB ?_ | refine zD ?_)
    refine yC rfl ?_
    (repeat first | refine zK ?_ | refine zG ?_ | refine zH ?_ | refine zF rfl ?_ | refine zL ?_ | refine zB ?_ | refine zE ?_ | refine zA ?_ | refine zC ?_ | refine zT ?_ | refine zW ?_)
    (repeat first | refine zE ?_ | refine zA ?_ | refine zC ?_ | refine zB ?_ | refine zD ?_); refine zJ (fun K hK => ?_); simp (maxSteps := 2000000) (disch := omega) only [push_cast, ↓Int.cast_ofNat_Int, simprocAttr, Int.toNat_natCast]; refine hK _ ?_; clear hK K
    (repeat first | refine zK ?_ | refine zG ?_ | refine zH ?_ | refine zF rfl ?_ | refine zL ?_ | refine zB ?_ | refine zE ?_ | refine zA ?_ | refine zC ?_ | refine zT ?_ | refine zW ?_)
    exact ⟨(p + 1, u), by simp only [zZ, zR, zP, zQ, zN, zS, zM, zX, zU, Nat.reduceEqDiff, reduceIte]; try rfl, ⟨hlp, ht, hP⟩, by dsimp only; omega⟩
  ·have hp2 : p = 2 := by omega
   subst hp2
   have hk0 : oneG k yes (lab L) (tr T k) = .ok t := hP.symm
   rw [hk0, bindX_ok'] at hR
   (repeat first | refine zE ?_ | refine zA ?_ | refine zC ?_ | refine zB ?_ | refine zD ?_); refine zJ (fun K hK => ?_); simp (maxSteps := 2000000) (disch := omega) only [push_cast, ↓Int.cast_ofNat_Int, simprocAttr, Int.toNat_natCast]; refine hK _ ?_; clear hK K
   (repeat first | refine zE ?_ | refine zA ?_ | refine zC ?_ | refine zB ?_ | refine zD ?_)
   refine yC rfl ?_
   (repeat first | refine zK ?_ | refine zG ?_ | refine zH ?_ | refine zF rfl ?_ | refine zL ?_ | refine zB ?_ | refine zE ?_ | refine zA ?_ | refine zC ?_ | refine zT ?_ | refine zW ?_)
   rcases three hlt with rfl | rfl | rfl
   ·(repeat first | refine zE ?_ | refine zA ?_ | refine zC ?_ | refine zB ?_ | refine zD ?_); refine zJ (fun K hK => ?_); simp (maxSteps := 2000000) (disch := omega) only [push_cast, ↓Int.cast_ofNat_Int, simprocAttr, Int.toNat_natCast]; refine hK _ ?_; clear hK K
    refine yB [0, 4, 6, 17, 18] [9100, 9002, 9003, 32, 48] (by simp only [zZ, zR, zP, zQ, zN, zS, zM, zX, zU, Nat.reduceEqDiff, reduceIte]; exact rfl) ?_
    refine HW_name 9100 9001 (by decide) rfl rfl (by simp only [name_eq, nm_eq, eren_nil, eren_cons, sren_nil, sren_cons, hren_v, hren_lst, hren_own, hren_ptr, hren_vw, hren_agg, hren_tup, hren_junk, rren_sl, rren_bx, rren_hl, Nat.reduceMul, Nat.reduceAdd, Nat.reduceEqDiff, reduceIte, List.map_cons, List.map_nil]; exact rfl) ?_
    (repeat first | refine zE ?_ | refine zA ?_ | refine zC ?_ | refine zB ?_ | refine zD ?_); refine zJ (fun K hK => ?_); simp (maxSteps := 2000000) (disch := omega) only [push_cast, ↓Int.cast_ofNat_Int, simprocAttr, Int.toNat_natCast]; refine hK _ ?_; clear hK K
    (repeat first | refine zK ?_ | refine zG ?_ | refine zH ?_ | refine zF rfl ?_ | refine zL ?_ | refine zB ?_ | refine zE ?_ | refine zA ?_ | refine zC ?_ | refine zT ?_ | refine zW ?_)
    exact ⟨(1, setT U 0 t), by simp only [zZ, zR, zP, zQ, zN, zS, zM, zX, zU, Nat.reduceEqDiff, reduceIte]; try rfl, ⟨by dsimp only; omega, hR⟩, by dsimp only; omega⟩
   ·(repeat first | refine zE ?_ | refine zA ?_ | refine zC ?_ | refine zB ?_ | refine zD ?_); refine zJ (fun K hK => ?_); simp (maxSteps := 2000000) (disch := omega) only [push_cast, ↓Int.cast_ofNat_Int, simprocAttr, Int.toNat_natCast]; refine hK _ ?_; clear hK K
    refine yB [0, 4, 6, 17, 18] [9001, 9100, 9003, 32, 48] (by simp only [zZ, zR, zP, zQ, zN, zS, zM, zX, zU, Nat.reduceEqDiff, reduceIte]; exact rfl) ?_
    refine HW_name 9100 9002 (by decide) rfl rfl (by simp only [name_eq, nm_eq, eren_nil, eren_cons, sren_nil, sren_cons, hren_v, hren_lst, hren_own, hren_ptr, hren_vw, hren_agg, hren_tup, hren_junk, rren_sl, rren_bx, rren_hl, Nat.reduceMul, Nat.reduceAdd, Nat.reduceEqDiff, reduceIte, List.map_cons, List.map_nil]; exact rfl) ?_
    (repeat first | refine zE ?_ | refine zA ?_ | refine zC ?_ | refine zB ?_ | refine zD ?_); refine zJ (fun K hK => ?_); simp (maxSteps := 2000000) (disch := omega) only [push_cast, ↓Int.cast_ofNat_Int, simprocAttr, Int.toNat_natCast]; refine hK _ ?_; clear hK K
    (repeat first | refine zK ?_ | refine zG ?_ | refine zH ?_ | refine zF rfl ?_ | refine zL ?_ | refine zB ?_ | refine zE ?_ | refine zA ?_ | refine zC ?_ | refine zT ?_ | refine zW ?_)
    exact ⟨(2, setT U 1 t), by simp only [zZ, zR, zP, zQ, zN, zS, zM, zX, zU, Nat.reduceEqDiff, reduceIte]; try rfl, ⟨by dsimp only; omega, hR⟩, by dsimp only; omega⟩
   ·(repeat first | refine zE ?_ | refine zA ?_ | refine zC ?_ | refine zB ?_ | refine zD ?_); refine zJ (fun K hK => ?_); simp (maxSteps := 2000000) (disch := omega) only [push_cast, ↓Int.cast_ofNat_Int, simprocAttr, Int.toNat_natCast]; refine hK _ ?_; clear hK K
    refine yB [0, 4, 6, 17, 18] [9001, 9002, 9100, 32, 48] (by simp only [zZ, zR, zP, zQ, zN, zS, zM, zX, zU, Nat.reduceEqDiff, reduceIte]; exact rfl) ?_
    refine HW_name 9100 9003 (by decide) rfl rfl (by simp only [name_eq, nm_eq, eren_nil, eren_cons, sren_nil, sren_cons, hren_v, hren_lst, hren_own, hren_ptr, hren_vw, hren_agg, hren_tup, hren_junk, rren_sl, rren_bx, rren_hl, Nat.reduceMul, Nat.reduceAdd, Nat.reduceEqDiff, reduceIte, List.map_cons, List.map_nil]; exact rfl) ?_
    (repeat first | refine zE ?_ | refine zA ?_ | refine zC ?_ | refine zB ?_ | refine zD ?_); refine zJ (fun K hK => ?_); simp (maxSteps := 2000000) (disch := omega) only [push_cast, ↓Int.cast_ofNat_Int, simprocAttr, Int.toNat_natCast]; refine hK _ ?_; clear hK K
    (repeat first | refine zK ?_ | refine zG ?_ | refine zH ?_ | refine zF rfl ?_ | refine zL ?_ | refine zB ?_ | refine zE ?_ | refine zA ?_ | refine zC ?_ | refine zT ?_ | refine zW ?_)
    exact ⟨(3, setT U 2 t), by simp only [zZ, zR, zP, zQ, zN, zS, zM, zX, zU, Nat.reduceEqDiff, reduceIte]; try rfl, ⟨by dsimp only; omega, hR⟩, by dsimp only; omega⟩
 ·have hk3 : k = 3 := by omega
  subst hk3
  have hk0 : backS L T = .ok U := hR.symm
  rw [hk0]
  (repeat first | refine zE ?_ | refine zA ?_ | refine zC ?_ | refine zB ?_ | refine zD ?_); refine zJ (fun K hK => ?_); simp (maxSteps := 2000000) (disch := omega) only [push_cast, ↓Int.cast_ofNat_Int, simprocAttr, Int.toNat_natCast]; refine hK _ ?_; clear hK K
  (repeat first | refine zE ?_ | refine zA ?_ | refine zC ?_ | refine zB ?_ | refine zD ?_)
  refine yC rfl ?_
  (repeat first | refine zK ?_ | refine zG ?_ | refine zH ?_ | refine zF rfl ?_ | refine zL ?_ | refine zB ?_ | refine zE ?_ | refine zA ?_ | refine zC ?_ | refine zT ?_ | refine zW ?_)
  (repeat first | refine zE ?_ | refine zA ?_ | refine zC ?_ | refine zB ?_ | refine zD ?_); refine zJ (fun K hK => ?_); simp (maxSteps := 2000000) (disch := omega) only [push_cast, ↓Int.cast_ofNat_Int, simprocAttr, Int.toNat_natCast]; refine hK _ ?_; clear hK K
  (repeat first | refine zK ?_ | refine zG ?_ | refine zH ?_ | refine zF rfl ?_ | refine zL ?_ | refine zB ?_ | refine zE ?_ | refine zA ?_ | refine zC ?_ | refine zT ?_ | refine zW ?_)
  simp (maxSteps := 2000000) (disch := omega) only [yA, yM, yH, yE, resH_cell, resC_go, yK, yJ, push_cast, ↓Int.cast_ofNat_Int, Nat.reduceBEq, Nat.reduceAdd, Nat.reduceLT, Nat.reduceEqDiff, reduceIte, reduceCtorEq, Nat.reduceLeDiff, Nat.reduceSub, List.reduceReplicate, Nat.reduceMul, Int.reduceToNat, Int.toNat_natCast, Nat.reducePow, reduceIte]
  exact hres_tri rfl rfl rfl (by decide) (by decide) (by decide) ⟨U, -1, rfl, rfl, rfl, rfl⟩
end Go.Proofs.YtkonlklieacjoaaDoor
