/-
  undo.back.
-/
import Derived.Test.YtkonlklieacjoaaDoorUbA
import Derived.Test.YtkonlklieacjoaaDoorChn
set_option linter.unusedSimpArgs false
set_option linter.unusedVariables false
set_option maxRecDepth 20000
namespace Go.Proofs.YtkonlklieacjoaaDoor
open Go Go.Eng Go.RowKit Go.Tr
set_option maxHeartbeats 16000000 in
theorem zPg (L : List Chg) (T : Tri) (hT : Tree3 T) (hL : L.length ≤ 1048576) (hs : ∀ c ∈ L, c.p.size ≤ 1048576) : HFun Tryd.prog 71 [.lst false (chs L), uY T] (fun h st => ∃ (U : Tri) (i : Int), h = .tup [.agg [.own 0, .own 1, .own 2], .v (.int .i64 i)] ∧ st = zDa U 0 1 2 ∧ (match rN L T with | .ok V => i = -1 ∧ U = V | .error j => i = (j : Nat))) := by
 refine eK (N := 86) Tryd.func71 rfl Tryd.ntmps71 Tryd.results71 (by simp) ?_
 refine zE ?_; refine zJ (fun K hK => ?_); simp (maxSteps := 2000000) (disch := omega) only [push_cast, ↓Int.cast_ofNat_Int, simprocAttr]; refine hK _ ?_; clear hK K
 refine zE ?_; refine zJ (fun K hK => ?_); simp (maxSteps := 2000000) (disch := omega) only [push_cast, ↓Int.cast_ofNat_Int, simprocAttr]; refine hK _ ?_; clear hK K
 refine qTk 48 0 9001 68 3 (by decide) rfl rfl (by simp only [push_cast, List.map_cons, List.map_nil, List.set_cons_succ, List.set_cons_zero, Nat.reduceEqDiff, reduceIte, Nat.reduceBEq, cond_false, cond_true]; exact rfl) ?_
 refine qTk 48 1 9002 68 3 (by decide) rfl rfl (by simp only [push_cast, List.map_cons, List.map_nil, List.set_cons_succ, List.set_cons_zero, Nat.reduceEqDiff, reduceIte, Nat.reduceBEq, cond_false, cond_true]; exact rfl) ?_
 refine qTk 48 2 9003 68 3 (by decide) rfl rfl (by simp only [push_cast, List.map_cons, List.map_nil, List.set_cons_succ, List.set_cons_zero, Nat.reduceEqDiff, reduceIte, Nat.reduceBEq, cond_false, cond_true]; exact rfl) ?_
 refine zE ?_; refine zE ?_; refine zJ (fun K hK => ?_); simp (maxSteps := 2000000) (disch := omega) only [push_cast, ↓Int.cast_ofNat_Int, simprocAttr]; refine hK _ ?_; clear hK K
 refine zA ?_; refine zD ?_
 refine bM (fun x : Nat × Tri => ⟨[(0, .lst false (chs L)), (4, .ptr 32 3 0 0), (6, .ptr 48 3 0 0), (17, uY T), (18, .v (.int .i64 x.1))], [(9001, aY x.2.1), (9002, aY x.2.2.1), (9003, aY x.2.2.2), (32, .bx true 53 [.v (.slice none 0 0), .v (.slice none 0 0), .v (.slice none 0 0)]), (48, .bx true 53 [.own 9001, .own 9002, .own 9003])]⟩) (fun x => x.1 ≤ 3 ∧ qZx L T x.1 x.2 = rN L T) (fun x => 3 - x.1) [0, 4, 6, 17, 18] [9001, 9002, 9003, 32, 48] (0, ([], [], [])) (by simp only [zZ, zR, zP, zQ, zN, zS, zM, zX, zU, Nat.reduceEqDiff, reduceIte]; try rfl) ⟨Nat.zero_le _, qYb L T _⟩ ?_
 rintro ⟨k, U⟩ ⟨hk, hR⟩
 dsimp only at hk hR
 by_cases hlt : k < 3
 ·rw [qYc L T U hlt] at hR
  have e3 := qZp T hlt
  have hTk := hT.tr k
  refine zE ?_; refine zJ (fun K hK => ?_); simp (maxSteps := 2000000) (disch := omega) only [push_cast, ↓Int.cast_ofNat_Int, simprocAttr]; refine hK _ ?_; clear hK K
  refine zE ?_
  refine yD rfl ?_
  refine zC ?_; refine zE ?_
  refine zD ?_; refine zE ?_; refine zJ (fun K hK => ?_); simp (maxSteps := 2000000) (disch := omega) only [push_cast, ↓Int.cast_ofNat_Int, simprocAttr, e3]; refine hK _ ?_; clear hK K
  refine zE ?_; refine zJ (fun K hK => ?_); simp (maxSteps := 2000000) (disch := omega) only [push_cast, ↓Int.cast_ofNat_Int, simprocAttr]
  refine hat 184 zQv (zCu (tr T k) (by have := hTk.len; omega)) (.cons (aN (yT _)) .nil) ?_
  rintro _ _ ⟨rfl, rfl⟩
  with_reducible refine aB ?_; simp (maxSteps := 2000000) (disch := omega) only [push_cast, ↓Int.cast_ofNat_Int, simprocAttr]
  refine hK _ ?_; clear hK K
  refine zE ?_; refine zE ?_; refine zJ (fun K hK => ?_); simp (maxSteps := 2000000) (disch := omega) only [push_cast, ↓Int.cast_ofNat_Int, simprocAttr]; refine hK _ ?_; clear hK K
  refine zA ?_; refine zD ?_
  refine yB [0, 4, 6, 7, 8, 17, 18, 24, 25] [9001, 9002, 9003, 32, 48, 184] (by simp only [zZ, zR, zP, zQ, zN, zS, zM, zX, zU, Nat.reduceEqDiff, reduceIte]; exact rfl) ?_
  refine lF 184 9100 (by decide) rfl rfl (by simp only [kU, wD, iM, gA, iH, fX, dG, bQ, bP, fZ, fV, bR, bN, eV, dT, dV, dU, Nat.reduceMul, Nat.reduceAdd, Nat.reduceEqDiff, reduceIte, List.map_cons, List.map_nil]; exact rfl) ?_
  refine bM (fun x : Nat × List Ent => ⟨[(0, .lst false (chs L)), (4, .ptr 32 3 0 0), (6, .ptr 48 3 0 0), (7, .v (.int .i64 k)), (8, .own 9100), (17, uY T), (18, .v (.int .i64 k)), (24, .agg [.v (.bool true), .v (.bool false)]), (25, .v (.int .i64 x.1))], [(9001, aY U.1), (9002, aY U.2.1), (9003, aY U.2.2), (9100, aY x.2), (32, .bx true 53 [.v (.slice none 0 0), .v (.slice none 0 0), .v (.slice none 0 0)]), (48, .bx true 53 [.own 9001, .own 9002, .own 9003])]⟩) (fun x => x.1 ≤ 2 ∧ Tree x.2 ∧ qUb L k x.1 x.2 = iU k yes (lab L) (tr T k)) (fun x => 2 - x.1) [0, 4, 6, 7, 8, 17, 18, 24, 25] [9001, 9002, 9003, 9100, 32, 48] (0, tr T k) (by simp only [zZ, zR, zP, zQ, zN, zS, zM, zX, zU, Nat.reduceEqDiff, reduceIte]; try rfl) ⟨Nat.zero_le _, hTk, rfl⟩ ?_
  rintro ⟨p, t⟩ ⟨hp, ht, hP⟩
  dsimp only at hp ht hP
  by_cases hlp : p < 2
  ·rw [qYa L k hlp] at hP
   have e5 : ([.v (.bool true), .v (.bool false)] : List HV)[p]? = some (.v (.bool (decide (p = 0)))) := by
    have : p = 0 ∨ p = 1 := by omega
    rcases this with rfl | rfl <;> rfl
   refine zE ?_; refine zJ (fun K hK => ?_); simp (maxSteps := 2000000) (disch := omega) only [push_cast, ↓Int.cast_ofNat_Int, simprocAttr]; refine hK _ ?_; clear hK K
   refine zE ?_
   refine yD rfl ?_
   refine zC ?_; refine zE ?_
   refine zD ?_; refine zE ?_; refine zJ (fun K hK => ?_); simp (maxSteps := 2000000) (disch := omega) only [push_cast, ↓Int.cast_ofNat_Int, simprocAttr, e5]; refine hK _ ?_; clear hK K
   generalize decide (p = 0) = pass at hP ⊢
   clear e5
   refine zE ?_; refine zJ (fun K hK => ?_); simp (maxSteps := 2000000) (disch := omega) only [push_cast, ↓Int.cast_ofNat_Int, simprocAttr, aJ]; refine hK _ ?_; clear hK K
   refine zA ?_; refine zD ?_
   refine bM (fun x : Nat × List Ent => ⟨[(0, .lst false (chs L)), (4, .ptr 32 3 0 0), (6, .ptr 48 3 0 0), (7, .v (.int .i64 k)), (8, .own 9100), (10, .v (.bool pass)), (17, uY T), (18, .v (.int .i64 k)), (24, .agg [.v (.bool true), .v (.bool false)]), (25, .v (.int .i64 p)), (29, .v (.int .i64 L.length)), (30, .v (.int .i64 x.1))], [(9001, aY U.1), (9002, aY U.2.1), (9003, aY U.2.2), (9100, aY x.2), (32, .bx true 53 [.v (.slice none 0 0), .v (.slice none 0 0), .v (.slice none 0 0)]), (48, .bx true 53 [.own 9001, .own 9002, .own 9003])]⟩) (fun x => x.1 ≤ L.length ∧ Tree x.2 ∧ iZ (nK k pass ((qCn L pass).drop x.1) x.2) (qUb L k (p + 1)) = iU k yes (lab L) (tr T k)) (fun x => L.length - x.1) [0, 4, 6, 7, 8, 10, 17, 18, 24, 25, 29, 30] [9001, 9002, 9003, 9100, 32, 48] (0, t) (by simp only [zZ, zR, zP, zQ, zN, zS, zM, zX, zU, Nat.reduceEqDiff, reduceIte]; try rfl) ⟨Nat.zero_le _, ht, hP⟩ ?_
   clear hP ht
   rintro ⟨j, u⟩ ⟨hj, ht, hP⟩
   dsimp only at hj ht hP
   by_cases hlj : j < L.length
   ·rw [zDx hlj] at hP
    obtain ⟨q, c, hq, hpi, hc, hP⟩ : ∃ q c, qJc L pass j = q ∧ ∃ h : q < L.length, L[q] = c ∧ iZ (nK k pass ((q, c) :: (qCn L pass).drop (j + 1)) u) (qUb L k (p + 1)) = iU k yes (lab L) (tr T k) := ⟨_, _, rfl, qUg hlj, rfl, hP⟩
    refine zE ?_; refine zJ (fun K hK => ?_); simp (maxSteps := 2000000) (disch := omega) only [push_cast, ↓Int.cast_ofNat_Int, simprocAttr]; refine hK _ ?_; clear hK K
    refine zE ?_
    refine yD rfl ?_
    refine zC ?_; refine zE ?_
    refine zD ?_; refine zE ?_; refine zJ (fun K hK => ?_); simp (maxSteps := 2000000) (disch := omega) only [push_cast, ↓Int.cast_ofNat_Int, simprocAttr]; refine hK _ ?_; clear hK K
    refine zE ?_; refine zJ (fun K hK => ?_); simp (maxSteps := 2000000) (disch := omega) only [push_cast, ↓Int.cast_ofNat_Int, simprocAttr]; refine hK _ ?_; clear hK K
    refine zE ?_; refine zE ?_; refine zJ (fun K hK => ?_); simp (maxSteps := 2000000) (disch := omega) only [push_cast, ↓Int.cast_ofNat_Int, simprocAttr]; refine hK _ ?_; clear hK K
    refine jR (fun _ : Unit => ⟨[(0, .lst false (chs L)), (4, .ptr 32 3 0 0), (6, .ptr 48 3 0 0), (7, .v (.int .i64 k)), (8, .own 9100), (10, .v (.bool pass)), (12, .v (.int .i64 q)), (17, uY T), (18, .v (.int .i64 k)), (24, .agg [.v (.bool true), .v (.bool false)]), (25, .v (.int .i64 p)), (29, .v (.int .i64 L.length)), (30, .v (.int .i64 j))], [(9001, aY U.1), (9002, aY U.2.1), (9003, aY U.2.2), (9100, aY u), (32, .bx true 53 [.v (.slice none 0 0), .v (.slice none 0 0), .v (.slice none 0 0)]), (48, .bx true 53 [.own 9001, .own 9002, .own 9003])]⟩) (fun _ => True) [0, 4, 6, 7, 8, 10, 12, 17, 18, 24, 25, 29, 30] [9001, 9002, 9003, 9100, 32, 48] ?_ ?_
    ·cases pass with
     | true =>
      have e6 : (L.length : Int) - 1 - j = ((L.length - 1 - j : Nat) : Int) := by omega
      refine yD rfl ?_
      refine zJ (fun K hK => ?_); simp (maxSteps := 2000000) (disch := omega) only [push_cast, ↓Int.cast_ofNat_Int, simprocAttr, aJ]; refine hK _ ?_; clear hK K
      refine jJ ?_
      have e7 : L.length - 1 - j = q := hq
      rw [e7] at e6
      exact ⟨(), by simp only [zZ, zR, zP, zQ, zN, zS, zM, zX, zU, Nat.reduceEqDiff, reduceIte, e6]; try rfl, trivial⟩
     | false =>
      refine yC rfl ?_
      refine zC ?_
      refine jJ ?_
      have e7 : j = q := hq
      exact ⟨(), by rw [e7]; simp only [zZ, zR, zP, zQ, zN, zS, zM, zX, zU, Nat.reduceEqDiff, reduceIte]; try rfl, trivial⟩
    intro S' _ hE _
    refine zE ?_
    refine yB [0, 4, 6, 7, 8, 10, 12, 17, 18, 24, 25, 29, 30] [9001, 9002, 9003, 9100, 32, 48] hE ?_
    clear hE
    skip
    refine zJ (fun K hK => ?_); simp (maxSteps := 2000000) (disch := omega) only [push_cast, ↓Int.cast_ofNat_Int, simprocAttr, aJ, bF, bJ hpi, hc]
    refine hK _ ?_; clear hK K
    have e1 := qMn c hlt
    have e2 := qMo c hlt
    obtain ⟨nb, hnb⟩ : ∃ n, c.b k = n := ⟨_, rfl⟩
    obtain ⟨na, hna⟩ : ∃ n, c.a k = n := ⟨_, rfl⟩
    have hact : act k pass c = (!decide (nb.1 = na.1 ∧ nb.2 = na.2) && (decide (nb.1 = 0) == pass)) := by
     rw [act, hnb, hna, decide_eq_decide.2 Prod.ext_iff]
    rw [hnb] at e1
    rw [hna] at e2
    obtain ⟨kb, db⟩ := nb
    obtain ⟨ka, da⟩ := na
    dsimp only at e1 e2 hact
    have e4 : (lJ c).getD (2 + k * 2) .junk = .v (.int .i64 kb) := by
     have := qMm c hlt
     rw [this, hnb]
    refine zE ?_; refine zE ?_
    refine jR (fun _ : Unit => ⟨[(0, .lst false (chs L)), (4, .ptr 32 3 0 0), (6, .ptr 48 3 0 0), (7, .v (.int .i64 k)), (8, .own 9100), (10, .v (.bool pass)), (12, .v (.int .i64 q)), (13, .ptr 104 14 0 0), (17, uY T), (18, .v (.int .i64 k)), (24, .agg [.v (.bool true), .v (.bool false)]), (25, .v (.int .i64 p)), (29, .v (.int .i64 L.length)), (30, .v (.int .i64 j)), (62, .v (.bool (!act k pass c)))], [(104, .bx true 58 (lJ c)), (9001, aY U.1), (9002, aY U.2.1), (9003, aY U.2.2), (9100, aY u), (32, .bx true 53 [.v (.slice none 0 0), .v (.slice none 0 0), .v (.slice none 0 0)]), (48, .bx true 53 [.own 9001, .own 9002, .own 9003])]⟩) (fun _ => True) [0, 4, 6, 7, 8, 10, 12, 13, 17, 18, 24, 25, 29, 30, 62] [104, 9001, 9002, 9003, 9100, 32, 48] ?_ ?_
    ·cases hd : decide (kb = ka ∧ db = da) with
     | true =>
      rw [hd, Bool.not_true, Bool.false_and] at hact
      rw [hact]
      refine dQ 19 mixed (by kernel_rfl) (fun K hK K1 hK1 => ?_); simp (maxSteps := 2000000) (disch := omega) only [push_cast, ↓Int.cast_ofNat_Int, simprocAttr, e1, e2]
      refine ⟨_, eqN _ _ _ _, ?_⟩
      with_reducible refine aB ?_; simp (maxSteps := 2000000) (disch := omega) only [push_cast, ↓Int.cast_ofNat_Int, simprocAttr, hd]
      refine hK1 _ ?_; clear hK1 K1; with_reducible refine aB ?_; simp (maxSteps := 2000000) (disch := omega) only [push_cast, ↓Int.cast_ofNat_Int, simprocAttr, hd]
      refine hK _ ?_; clear hK K
      exact ⟨(), by simp only [zZ, zR, zP, zQ, zN, zS, zM, zX, zU, Nat.reduceEqDiff, reduceIte]; try rfl, trivial⟩
     | false =>
      rw [hd, Bool.not_false, Bool.true_and] at hact
      rw [hact]
      refine dQ 19 mixed (by kernel_rfl) (fun K hK K1 hK1 => ?_); simp (maxSteps := 2000000) (disch := omega) only [push_cast, ↓Int.cast_ofNat_Int, simprocAttr, e1, e2]
      refine ⟨_, eqN _ _ _ _, ?_⟩
      cases h0 : decide (kb = 0) with
      | true =>
       rw [h0] at hact
       have hx : (!(decide (kb = 0) == pass)) = !pass := by rw [h0]; cases pass <;> rfl
       with_reducible refine aB ?_; simp (maxSteps := 2000000) (disch := omega) only [push_cast, ↓Int.cast_ofNat_Int, simprocAttr, hd, e4, h0]
       refine hK1 _ ?_; clear hK1 K1; with_reducible refine aB ?_; simp (maxSteps := 2000000) (disch := omega) only [push_cast, ↓Int.cast_ofNat_Int, simprocAttr, hd]
       refine hK _ ?_; clear hK K
       exact ⟨(), by simp only [zZ, zR, zP, zQ, zN, zS, zM, zX, zU, Nat.reduceEqDiff, reduceIte, hx]; try rfl, trivial⟩
      | false =>
       rw [h0] at hact
       have hx : (!(decide (kb = 0) == pass)) = !!pass := by rw [h0]; cases pass <;> rfl
       with_reducible refine aB ?_; simp (maxSteps := 2000000) (disch := omega) only [push_cast, ↓Int.cast_ofNat_Int, simprocAttr, hd, e4, h0]
       refine hK1 _ ?_; clear hK1 K1; with_reducible refine aB ?_; simp (maxSteps := 2000000) (disch := omega) only [push_cast, ↓Int.cast_ofNat_Int, simprocAttr, hd]
       refine hK _ ?_; clear hK K
       exact ⟨(), by simp only [zZ, zR, zP, zQ, zN, zS, zM, zX, zU, Nat.reduceEqDiff, reduceIte, hx]; try rfl, trivial⟩
    intro S' _ hE _
    refine zA ?_
    refine yB [0, 4, 6, 7, 8, 10, 12, 13, 17, 18, 24, 25, 29, 30, 62] [104, 9001, 9002, 9003, 9100, 32, 48] hE ?_
    clear hE
    cases ha : act k pass c with
    | false =>
     rw [qYj ha] at hP
     refine yD rfl ?_
     refine zT ?_; refine zG ?_; refine zH ?_; refine zA ?_
     refine zJ (fun K hK => ?_); simp (maxSteps := 2000000) (disch := omega) only [push_cast, ↓Int.cast_ofNat_Int, simprocAttr]; refine hK _ ?_; clear hK K
     refine zA ?_
     exact ⟨(j + 1, u), by simp only [zZ, zR, zP, zQ, zN, zS, zM, zX, zU, Nat.reduceEqDiff, reduceIte]; try rfl, ⟨hlj, ht, hP⟩, by dsimp only; omega⟩
    | true =>
     refine yC rfl ?_
     refine zC ?_; refine zE ?_
     have hcs : c.p.size ≤ 1048576 := hs c (by rw [← hc]; exact List.getElem_mem hpi)
     have c20 := zP9 u c.p (kb, db) ht.ri (by have := ht.len; omega) hcs ht.size
     by_cases hE : eW u c.p (kb, db) = 0
     ·rw [zGp ha (by rw [hnb]; exact hE)] at hP
      rw [hnb] at hP
      have hput := ht.put hE
      rw [hE] at c20
      generalize jB u c.p (kb, db) = u2 at c20 hP hput
      refine eQ 12 [(7, some 568)] [[(104, .bx true 58 (lJ c)), (9001, aY U.1), (9002, aY U.2.1), (9003, aY U.2.2), (9100, aY u), (32, .bx true 53 [.v (.slice none 0 0), .v (.slice none 0 0), .v (.slice none 0 0)]), (48, .bx true 53 [.own 9001, .own 9002, .own 9003])], [(568, aY u2), (104, .bx true 58 (lJ c)), (9001, aY U.1), (9002, aY U.2.1), (9003, aY U.2.2), (9100, aY u), (32, .bx true 53 [.v (.slice none 0 0), .v (.slice none 0 0), .v (.slice none 0 0)]), (48, .bx true 53 [.own 9001, .own 9002, .own 9003])]] [(2, 0, 0), (6, 0, 0), (8, 1, 1), (9, 1, 1), (10, 1, 1), (11, 1, 1)] mixed (by kernel_rfl) (by kernel_rfl) rfl (fun K hK K1 hK1 => ?_); simp (maxSteps := 2000000) (disch := omega) only [push_cast, ↓Int.cast_ofNat_Int, simprocAttr, e1]
      refine qNf 568 zQ2 c20 (.cons (mU (yT _) rfl) (.cons (.v _) (.cons (bB (n := (kb, db))) .nil))) (by simp only [aR, aP, bC, bD, cF, aU, aT, aS, cD, List.map_cons, List.map_nil, Nat.reduceBEq, Nat.reduceEqDiff, reduceIte, cond_false, cond_true]; try rfl) ?_
      simp (maxSteps := 2000000) (disch := omega) only [push_cast, ↓Int.cast_ofNat_Int, simprocAttr, dG, bQ, bP, bN, bR, List.map_cons, List.map_nil]
      refine hK1 _ ?_; clear hK1 K1; with_reducible refine aB ?_; simp (maxSteps := 2000000) (disch := omega) only [push_cast, ↓Int.cast_ofNat_Int, simprocAttr]
      refine hK _ ?_; clear hK K
      refine zE ?_; refine zE ?_; refine zJ (fun K hK => ?_); simp (maxSteps := 2000000) (disch := omega) only [push_cast, ↓Int.cast_ofNat_Int, simprocAttr]; refine hK _ ?_; clear hK K
      refine zA ?_
      refine yC rfl ?_
      refine zC ?_; refine zA ?_
      refine zJ (fun K hK => ?_); simp (maxSteps := 2000000) (disch := omega) only [push_cast, ↓Int.cast_ofNat_Int, simprocAttr]; refine hK _ ?_; clear hK K
      refine zB ?_; refine zA ?_
      refine yB [0, 4, 6, 7, 8, 10, 12, 17, 18, 24, 25, 29, 30] [568, 9001, 9002, 9003, 32, 48] (by simp only [zZ, zR, zP, zQ, zN, zS, zM, zX, zU, Nat.reduceEqDiff, reduceIte]; exact rfl) ?_
      refine lF 568 9100 (by decide) rfl rfl (by simp only [kU, wD, iM, gA, iH, fX, dG, bQ, bP, fZ, fV, bR, bN, eV, dT, dV, dU, Nat.reduceMul, Nat.reduceAdd, Nat.reduceEqDiff, reduceIte, List.map_cons, List.map_nil]; exact rfl) ?_
      refine zJ (fun K hK => ?_); simp (maxSteps := 2000000) (disch := omega) only [push_cast, ↓Int.cast_ofNat_Int, simprocAttr]; refine hK _ ?_; clear hK K
      refine zA ?_
      exact ⟨(j + 1, u2), by simp only [zZ, zR, zP, zQ, zN, zS, zM, zX, zU, Nat.reduceEqDiff, reduceIte]; try rfl, ⟨hlj, hput, hP⟩, by dsimp only; omega⟩
     ·rw [zDz ha (by rw [hnb]; exact hE), qBt] at hP
      rw [← hP, qBt] at hR
      rw [← hR]
      have hne : decide (eW u c.p (kb, db) = 0) = false := decide_eq_false hE
      generalize eW u c.p (kb, db) = er at c20 hne
      generalize jB u c.p (kb, db) = u2 at c20
      refine eQ 12 [(7, some 568)] [[(104, .bx true 58 (lJ c)), (9001, aY U.1), (9002, aY U.2.1), (9003, aY U.2.2), (9100, aY u), (32, .bx true 53 [.v (.slice none 0 0), .v (.slice none 0 0), .v (.slice none 0 0)]), (48, .bx true 53 [.own 9001, .own 9002, .own 9003])], [(568, aY u2), (104, .bx true 58 (lJ c)), (9001, aY U.1), (9002, aY U.2.1), (9003, aY U.2.2), (9100, aY u), (32, .bx true 53 [.v (.slice none 0 0), .v (.slice none 0 0), .v (.slice none 0 0)]), (48, .bx true 53 [.own 9001, .own 9002, .own 9003])]] [(2, 0, 0), (6, 0, 0), (8, 1, 1), (9, 1, 1), (10, 1, 1), (11, 1, 1)] mixed (by kernel_rfl) (by kernel_rfl) rfl (fun K hK K1 hK1 => ?_); simp (maxSteps := 2000000) (disch := omega) only [push_cast, ↓Int.cast_ofNat_Int, simprocAttr, e1]
      refine qNf 568 zQ2 c20 (.cons (mU (yT _) rfl) (.cons (.v _) (.cons (bB (n := (kb, db))) .nil))) (by simp only [aR, aP, bC, bD, cF, aU, aT, aS, cD, List.map_cons, List.map_nil, Nat.reduceBEq, Nat.reduceEqDiff, reduceIte, cond_false, cond_true]; try rfl) ?_
      simp (maxSteps := 2000000) (disch := omega) only [push_cast, ↓Int.cast_ofNat_Int, simprocAttr, dG, bQ, bP, bN, bR, List.map_cons, List.map_nil]
      refine hK1 _ ?_; clear hK1 K1; with_reducible refine aB ?_; simp (maxSteps := 2000000) (disch := omega) only [push_cast, ↓Int.cast_ofNat_Int, simprocAttr]
      refine hK _ ?_; clear hK K
      refine zE ?_; refine zE ?_; refine zJ (fun K hK => ?_); simp (maxSteps := 2000000) (disch := omega) only [push_cast, ↓Int.cast_ofNat_Int, simprocAttr, hne]; refine hK _ ?_; clear hK K
      refine zA ?_
      refine yD rfl ?_
      refine zE ?_; refine zJ (fun K hK => ?_); simp (maxSteps := 2000000) (disch := omega) only [push_cast, ↓Int.cast_ofNat_Int, simprocAttr]; refine hK _ ?_; clear hK K
      refine zA ?_; refine zW ?_; refine zK ?_; refine zL ?_; refine zK ?_; refine zK ?_; refine zL ?_; refine zL ?_; refine zK ?_; refine zK ?_; refine zL ?_; refine zK ?_; refine zL ?_; refine zK ?_; refine zK ?_; refine zL ?_; refine zK ?_
      simp (maxSteps := 2000000) (disch := omega) only [yA, yM, yH, yE, aA, aC, yK, yJ, push_cast, ↓Int.cast_ofNat_Int, Nat.reduceBEq, Nat.reduceAdd, Nat.reduceLT, Nat.reduceEqDiff, reduceIte, reduceCtorEq, Nat.reduceLeDiff, Nat.reduceSub, List.reduceReplicate, Nat.reduceMul, Int.reduceToNat, Int.toNat_natCast, Nat.reducePow, reduceIte]
      exact qVn rfl rfl rfl (by decide) (by decide) (by decide) ⟨U, q, rfl, rfl, rfl⟩
   ·have hje : j = L.length := by omega
    subst hje
    rw [List.drop_of_length_le (by rw [qPh]; exact Nat.le_refl _), zDy, kJ] at hP
    refine zE ?_; refine zJ (fun K hK => ?_); simp (maxSteps := 2000000) (disch := omega) only [push_cast, ↓Int.cast_ofNat_Int, simprocAttr]; refine hK _ ?_; clear hK K
    refine zE ?_
    refine yC rfl ?_
    refine zT ?_; refine zG ?_; refine zG ?_; refine zH ?_; refine zB ?_; refine zA ?_
    refine zJ (fun K hK => ?_); simp (maxSteps := 2000000) (disch := omega) only [push_cast, ↓Int.cast_ofNat_Int, simprocAttr]; refine hK _ ?_; clear hK K
    refine zA ?_
    exact ⟨(p + 1, u), by simp only [zZ, zR, zP, zQ, zN, zS, zM, zX, zU, Nat.reduceEqDiff, reduceIte]; try rfl, ⟨hlp, ht, hP⟩, by dsimp only; omega⟩
  ·have hp2 : p = 2 := by omega
   subst hp2
   have hk0 : iU k yes (lab L) (tr T k) = .ok t := hP.symm
   rw [hk0, kJ] at hR
   refine zE ?_; refine zJ (fun K hK => ?_); simp (maxSteps := 2000000) (disch := omega) only [push_cast, ↓Int.cast_ofNat_Int, simprocAttr]; refine hK _ ?_; clear hK K
   refine zE ?_
   refine yC rfl ?_
   refine zT ?_; refine zG ?_; refine zG ?_; refine zH ?_; refine zA ?_
   rcases oG hlt with rfl | rfl | rfl
   ·refine zJ (fun K hK => ?_); simp (maxSteps := 2000000) (disch := omega) only [push_cast, ↓Int.cast_ofNat_Int, simprocAttr]; refine hK _ ?_; clear hK K
    refine yB [0, 4, 6, 17, 18] [9100, 9002, 9003, 32, 48] (by simp only [zZ, zR, zP, zQ, zN, zS, zM, zX, zU, Nat.reduceEqDiff, reduceIte]; exact rfl) ?_
    refine lF 9100 9001 (by decide) rfl rfl (by simp only [kU, wD, iM, gA, iH, fX, dG, bQ, bP, fZ, fV, bR, bN, eV, dT, dV, dU, Nat.reduceMul, Nat.reduceAdd, Nat.reduceEqDiff, reduceIte, List.map_cons, List.map_nil]; exact rfl) ?_
    refine zJ (fun K hK => ?_); simp (maxSteps := 2000000) (disch := omega) only [push_cast, ↓Int.cast_ofNat_Int, simprocAttr]; refine hK _ ?_; clear hK K
    refine zA ?_
    exact ⟨(1, zKk U 0 t), by simp only [zZ, zR, zP, zQ, zN, zS, zM, zX, zU, Nat.reduceEqDiff, reduceIte]; try rfl, ⟨by dsimp only; omega, hR⟩, by dsimp only; omega⟩
   ·refine zJ (fun K hK => ?_); simp (maxSteps := 2000000) (disch := omega) only [push_cast, ↓Int.cast_ofNat_Int, simprocAttr]; refine hK _ ?_; clear hK K
    refine yB [0, 4, 6, 17, 18] [9001, 9100, 9003, 32, 48] (by simp only [zZ, zR, zP, zQ, zN, zS, zM, zX, zU, Nat.reduceEqDiff, reduceIte]; exact rfl) ?_
    refine lF 9100 9002 (by decide) rfl rfl (by simp only [kU, wD, iM, gA, iH, fX, dG, bQ, bP, fZ, fV, bR, bN, eV, dT, dV, dU, Nat.reduceMul, Nat.reduceAdd, Nat.reduceEqDiff, reduceIte, List.map_cons, List.map_nil]; exact rfl) ?_
    refine zJ (fun K hK => ?_); simp (maxSteps := 2000000) (disch := omega) only [push_cast, ↓Int.cast_ofNat_Int, simprocAttr]; refine hK _ ?_; clear hK K
    refine zA ?_
    exact ⟨(2, zKk U 1 t), by simp only [zZ, zR, zP, zQ, zN, zS, zM, zX, zU, Nat.reduceEqDiff, reduceIte]; try rfl, ⟨by dsimp only; omega, hR⟩, by dsimp only; omega⟩
   ·refine zJ (fun K hK => ?_); simp (maxSteps := 2000000) (disch := omega) only [push_cast, ↓Int.cast_ofNat_Int, simprocAttr]; refine hK _ ?_; clear hK K
    refine yB [0, 4, 6, 17, 18] [9001, 9002, 9100, 32, 48] (by simp only [zZ, zR, zP, zQ, zN, zS, zM, zX, zU, Nat.reduceEqDiff, reduceIte]; exact rfl) ?_
    refine lF 9100 9003 (by decide) rfl rfl (by simp only [kU, wD, iM, gA, iH, fX, dG, bQ, bP, fZ, fV, bR, bN, eV, dT, dV, dU, Nat.reduceMul, Nat.reduceAdd, Nat.reduceEqDiff, reduceIte, List.map_cons, List.map_nil]; exact rfl) ?_
    refine zJ (fun K hK => ?_); simp (maxSteps := 2000000) (disch := omega) only [push_cast, ↓Int.cast_ofNat_Int, simprocAttr]; refine hK _ ?_; clear hK K
    refine zA ?_
    exact ⟨(3, zKk U 2 t), by simp only [zZ, zR, zP, zQ, zN, zS, zM, zX, zU, Nat.reduceEqDiff, reduceIte]; try rfl, ⟨by dsimp only; omega, hR⟩, by dsimp only; omega⟩
 ·have hk3 : k = 3 := by omega
  subst hk3
  have hk0 : rN L T = .ok U := hR.symm
  rw [hk0]
  refine zE ?_; refine zJ (fun K hK => ?_); simp (maxSteps := 2000000) (disch := omega) only [push_cast, ↓Int.cast_ofNat_Int, simprocAttr]; refine hK _ ?_; clear hK K
  refine zE ?_
  refine yC rfl ?_
  refine zT ?_; refine zG ?_; refine zG ?_; refine zH ?_; refine zE ?_
  refine zJ (fun K hK => ?_); simp (maxSteps := 2000000) (disch := omega) only [push_cast, ↓Int.cast_ofNat_Int, simprocAttr]; refine hK _ ?_; clear hK K
  refine zA ?_; refine zW ?_
  simp (maxSteps := 2000000) (disch := omega) only [yA, yM, yH, yE, aA, aC, yK, yJ, push_cast, ↓Int.cast_ofNat_Int, Nat.reduceBEq, Nat.reduceAdd, Nat.reduceLT, Nat.reduceEqDiff, reduceIte, reduceCtorEq, Nat.reduceLeDiff, Nat.reduceSub, List.reduceReplicate, Nat.reduceMul, Int.reduceToNat, Int.toNat_natCast, Nat.reducePow, reduceIte]
  exact qVn rfl rfl rfl (by decide) (by decide) (by decide) ⟨U, -1, rfl, rfl, rfl, rfl⟩
end Go.Proofs.YtkonlklieacjoaaDoor
