/-
  ref22.one, where something is to be done.
-/
import Derived.Test.YtkonlklieacjoaaDoorUon
set_option linter.unusedSimpArgs false
set_option linter.unusedVariables false
set_option maxRecDepth 20000
namespace Go.Proofs.YtkonlklieacjoaaDoor
open Go Go.Eng Go.RowKit Go.Tr
set_option maxHeartbeats 16000000 in
theorem zNp (k : Nat) (hk : k < 3) (out : List Bool) (L : List Chg) (t : List Ent) (hT : Tree t) (hL : L.length ≤ 1048576) (hs : ∀ c ∈ L, c.p.size ≤ 1048576) (ho : out.length = L.length) (hid : ¬ qVe k out L) : HFun Tryd.prog 74 [.lst false (chs L), .lst false (bls out), .lst false (aH t), .v (.int .i64 k)] (fun h st => h = qYq k out L t) := by
 refine eK (N := 116) Tryd.func74 rfl Tryd.ntmps74 Tryd.results74 (by simp) ?_
 unfold qYq
 obtain ⟨Z, hZ⟩ : ∃ Z, iU k (dN out) (lab L) t = Z := ⟨_, rfl⟩
 rw [hZ]
 have hk0 : ∀ (m : Nat), (m : Int) + 1 - 1 = m := fun m => by omega
 refine zE ?_; refine zJ (fun K hK => ?_); simp (maxSteps := 2000000) (disch := omega) only [push_cast, ↓Int.cast_ofNat_Int, simprocAttr]; refine hK _ ?_; clear hK K
 refine zE ?_; refine zE ?_; refine zJ (fun K hK => ?_); simp (maxSteps := 2000000) (disch := omega) only [push_cast, ↓Int.cast_ofNat_Int, simprocAttr, aJ]; refine hK _ ?_; clear hK K
 refine zA ?_; refine zD ?_
 refine bM (fun x : Nat × Bool × List Ent => ⟨[(0, .lst false (chs L)), (1, .lst false (bls out)), (2, .lst x.2.1 (aH x.2.2)), (3, .v (.int .i64 k)), (10, .v (.int .i64 ((x.1 : Int) - 1)))], []⟩) (fun x => x.1 ≤ L.length ∧ Tree x.2.2 ∧ (x.2.1 = false → ∀ i (hi : i < L.length), x.1 ≤ i → (dN out (i, L[i]) && act k true L[i]) = false) ∧ iZ (dW k (fun x => dN out x && act k true x.2) (qY7 L x.1) x.2.2) (fun u => dW k (fun x => dN out x && act k false x.2) (lab L) u) = Z) (fun x => x.1) [0, 1, 2, 3, 10] [] (L.length, false, t) (by simp only [zZ, zR, zP, zQ, zN, zS, zM, zX, zU, Nat.reduceEqDiff, reduceIte]; try rfl) ⟨Nat.le_refl _, hT, fun _ i hi h => by dsimp only at h; omega, by rw [zH2]; exact hZ⟩ ?_
 clear hZ hT t
 rintro ⟨q, fr, t⟩ ⟨hq, hT, hF, hZ⟩
 dsimp only at hq hT hF hZ
 by_cases hlq : 0 < q
 ·obtain ⟨m, rfl⟩ : ∃ m, q = m + 1 := ⟨q - 1, by omega⟩
  have hm : m < L.length := by omega
  have hmo : m < out.length := by omega
  refine zE ?_; refine zE ?_; refine zJ (fun K hK => ?_); simp (maxSteps := 2000000) (disch := omega) only [push_cast, ↓Int.cast_ofNat_Int, simprocAttr, hk0]; refine hK _ ?_; clear hK K
  refine zA ?_
  refine yD rfl ?_
  refine zC ?_; refine zE ?_
  refine zD ?_; refine zE ?_; refine zJ (fun K hK => ?_); simp (maxSteps := 2000000) (disch := omega) only [push_cast, ↓Int.cast_ofNat_Int, simprocAttr, hk0, aJ, bF, bJ hm]; refine hK _ ?_; clear hK K
  have hkg : dN out (m, L[m]) = !out[m] := qCu hmo
  rw [zEt hm] at hZ
  have hsz : L[m].p.size ≤ 1048576 := hs _ (List.getElem_mem hm)
  have hcm : L[m] ∈ L := List.getElem_mem hm
  obtain ⟨ob, hob⟩ : ∃ b, out[m] = b := ⟨_, rfl⟩
  obtain ⟨c, hc⟩ : ∃ c, L[m] = c := ⟨_, rfl⟩
  rw [hob, hc] at hkg
  rw [hc] at hZ hsz
  have bg : ∀ {d : List FV}, (bls out).getD m d = [.v (.bool ob)] := fun {d} => by rw [uQ hmo, hob]
  rw [hc]
  have e1 := qMn c hk
  have e2 := qMo c hk
  have e4 : (lJ c).getD (2 + k * 2) .junk = .v (.int .i64 (c.b k).1) := qMm c hk
  obtain ⟨nb, hnb⟩ : ∃ n, c.b k = n := ⟨_, rfl⟩
  obtain ⟨na, hna⟩ : ∃ n, c.a k = n := ⟨_, rfl⟩
  have hact : act k true c = (!decide (nb.1 = na.1 ∧ nb.2 = na.2) && (decide (nb.1 = 0) == true)) := by rw [act, hnb, hna, decide_eq_decide.2 Prod.ext_iff]
  rw [hnb] at e1 e4
  rw [hna] at e2
  obtain ⟨kb, db⟩ := nb
  obtain ⟨ka, da⟩ := na
  dsimp only at e1 e2 e4 hact
  refine zE ?_; refine zE ?_
  refine jR (fun _ : Unit => ⟨[(0, .lst false (chs L)), (1, .lst false (bls out)), (2, .lst fr (aH t)), (3, .v (.int .i64 k)), (10, .v (.int .i64 m)), (11, .ptr 88 14 0 0), (51, .v (.bool (ob || !act k true c)))], [(88, .bx true 58 (lJ c))]⟩) (fun _ => True) [0, 1, 2, 3, 10, 11, 51] [88] ?_ ?_
  ·cases ob with
   | true =>
    refine jS 23 mixed (by kernel_rfl) (fun K hK K1 hK1 => ?_); simp (maxSteps := 2000000) (disch := omega) only [push_cast, ↓Int.cast_ofNat_Int, simprocAttr, hk0, gL, gK, bg, e1, e2]
    refine hK1 _ ?_; clear hK1 K1; with_reducible refine aB ?_; simp (maxSteps := 2000000) (disch := omega) only [push_cast, ↓Int.cast_ofNat_Int, simprocAttr]
    refine hK _ ?_; clear hK K
    exact ⟨(), by simp only [zZ, zR, zP, zQ, zN, zS, zM, zX, zU, Nat.reduceEqDiff, reduceIte, Bool.true_or]; try rfl, trivial⟩
   | false =>
    cases hd : decide (kb = ka ∧ db = da) with
    | true =>
     rw [hd, Bool.not_true, Bool.false_and] at hact
     rw [hact]
     refine dQ 23 mixed (by kernel_rfl) (fun K hK K1 hK1 => ?_); simp (maxSteps := 2000000) (disch := omega) only [push_cast, ↓Int.cast_ofNat_Int, simprocAttr, hk0, gL, gK, bg, e1, e2]
     refine ⟨_, eqN _ _ _ _, ?_⟩
     with_reducible refine aB ?_; simp (maxSteps := 2000000) (disch := omega) only [push_cast, ↓Int.cast_ofNat_Int, simprocAttr, hd]
     refine hK1 _ ?_; clear hK1 K1; with_reducible refine aB ?_; simp (maxSteps := 2000000) (disch := omega) only [push_cast, ↓Int.cast_ofNat_Int, simprocAttr, hd]
     refine hK _ ?_; clear hK K
     exact ⟨(), by simp only [zZ, zR, zP, zQ, zN, zS, zM, zX, zU, Nat.reduceEqDiff, reduceIte, Bool.false_or, Bool.not_false]; try rfl, trivial⟩
    | false =>
     rw [hd, Bool.not_false, Bool.true_and] at hact
     rw [hact]
     refine dQ 23 mixed (by kernel_rfl) (fun K hK K1 hK1 => ?_); simp (maxSteps := 2000000) (disch := omega) only [push_cast, ↓Int.cast_ofNat_Int, simprocAttr, hk0, gL, gK, bg, e1, e2]
     refine ⟨_, eqN _ _ _ _, ?_⟩
     cases h0 : decide (kb = 0) with
     | true =>
      with_reducible refine aB ?_; simp (maxSteps := 2000000) (disch := omega) only [push_cast, ↓Int.cast_ofNat_Int, simprocAttr, hd, e4, h0]
      refine hK1 _ ?_; clear hK1 K1; with_reducible refine aB ?_; simp (maxSteps := 2000000) (disch := omega) only [push_cast, ↓Int.cast_ofNat_Int, simprocAttr, hd]
      refine hK _ ?_; clear hK K
      exact ⟨(), by simp only [zZ, zR, zP, zQ, zN, zS, zM, zX, zU, Nat.reduceEqDiff, reduceIte, h0, Bool.false_or]; try rfl, trivial⟩
     | false =>
      with_reducible refine aB ?_; simp (maxSteps := 2000000) (disch := omega) only [push_cast, ↓Int.cast_ofNat_Int, simprocAttr, hd, e4, h0]
      refine hK1 _ ?_; clear hK1 K1; with_reducible refine aB ?_; simp (maxSteps := 2000000) (disch := omega) only [push_cast, ↓Int.cast_ofNat_Int, simprocAttr, hd]
      refine hK _ ?_; clear hK K
      exact ⟨(), by simp only [zZ, zR, zP, zQ, zN, zS, zM, zX, zU, Nat.reduceEqDiff, reduceIte, h0, Bool.false_or]; try rfl, trivial⟩
  intro S' _ hE _
  refine zA ?_
  refine yB [0, 1, 2, 3, 10, 11, 51] [88] hE ?_
  clear hE
  cases hx : (ob || !act k true c) with
  | true =>
   have hf : (dN out (m, c) && act k true c) = false := by
    rw [hkg]; cases ob <;> cases hh : act k true c <;> simp_all
   rw [qNm hf] at hZ
   refine yD rfl ?_
   refine zT ?_; refine zG ?_; refine zH ?_; refine zA ?_
   refine zJ (fun K hK => ?_); simp (maxSteps := 2000000) (disch := omega) only [push_cast, ↓Int.cast_ofNat_Int, simprocAttr, hk0]; refine hK _ ?_; clear hK K
   refine zA ?_
   refine ⟨(m, fr, t), by simp only [zZ, zR, zP, zQ, zN, zS, zM, zX, zU, Nat.reduceEqDiff, reduceIte]; try rfl, ⟨by omega, hT, fun hfr i hi h => ?_, hZ⟩, by dsimp only; omega⟩
   dsimp only at hfr h
   by_cases e : i = m
   ·subst e; rw [hc]; exact hf
   ·exact hF hfr i hi (by omega)
  | false =>
   have hf : (dN out (m, c) && act k true c) = true := by
    rw [hkg]; cases ob <;> cases hh : act k true c <;> simp_all
   refine yC rfl ?_
   refine zC ?_; refine zE ?_
   have c21 := zFz t c.p (kb, db) (qA3 hT.okT c.p) (by have := hT.len; omega) hsz hT.size
   rw [qZy hT.ri] at c21
   by_cases hE : eW t c.p (kb, db) = 0
   ·rw [qZm hf (by rw [hnb]; exact hE)] at hZ
    dsimp only at hZ
    rw [hnb] at hZ
    have hput := hT.put hE
    rw [hE] at c21
    generalize jB t c.p (kb, db) = u2 at c21 hZ hput
    refine eQ 12 [(7, some 480)] [[(88, .bx true 58 (lJ c))], [(480, aY u2), (88, .bx true 58 (lJ c))]] [(2, 0, 0), (6, 0, 0), (8, 1, 1), (9, 1, 1), (10, 1, 1), (11, 1, 1)] mixed (by kernel_rfl) (by kernel_rfl) rfl (fun K hK K1 hK1 => ?_); simp (maxSteps := 2000000) (disch := omega) only [push_cast, ↓Int.cast_ofNat_Int, simprocAttr, e1]
    refine qNf 480 zLn c21 (.cons (aN (yT _)) (.cons (.v _) (.cons (bB (n := (kb, db))) .nil))) (by simp only [aR, aP, bC, bD, cF, aU, aT, aS, cD, List.map_cons, List.map_nil, Nat.reduceBEq, Nat.reduceEqDiff, reduceIte, cond_false, cond_true]; try rfl) ?_
    simp (maxSteps := 2000000) (disch := omega) only [push_cast, ↓Int.cast_ofNat_Int, simprocAttr, dG, bQ, bP, bN, bR, List.map_cons, List.map_nil]
    refine hK1 _ ?_; clear hK1 K1; with_reducible refine aB ?_; simp (maxSteps := 2000000) (disch := omega) only [push_cast, ↓Int.cast_ofNat_Int, simprocAttr]
    refine hK _ ?_; clear hK K
    refine zE ?_; refine zE ?_; refine zJ (fun K hK => ?_); simp (maxSteps := 2000000) (disch := omega) only [push_cast, ↓Int.cast_ofNat_Int, simprocAttr]; refine hK _ ?_; clear hK K
    refine zA ?_
    refine yC rfl ?_
    refine zC ?_; refine zA ?_
    refine zJ (fun K hK => ?_); simp (maxSteps := 2000000) (disch := omega) only [push_cast, ↓Int.cast_ofNat_Int, simprocAttr]; refine hK _ ?_; clear hK K
    refine zB ?_; refine zA ?_
    refine yB [0, 1, 2, 3, 10] [480] (by simp only [zZ, zR, zP, zQ, zN, zS, zM, zX, zU, Nat.reduceEqDiff, reduceIte]; exact rfl) ?_
    refine gR 480 rfl (by simp only [gZ, fQ, eB, fE, dX, kX, fL, fM, dZ, fK, fJ, hD, fN, fH, gW, gX, gY, Nat.reduceEqDiff, reduceIte, List.map_cons, List.map_nil, List.map_append]; exact rfl) ?_
    refine zJ (fun K hK => ?_); simp (maxSteps := 2000000) (disch := omega) only [push_cast, ↓Int.cast_ofNat_Int, simprocAttr, hk0]; refine hK _ ?_; clear hK K
    refine zA ?_
    exact ⟨(m, true, u2), by simp only [zZ, zR, zP, zQ, zN, zS, zM, zX, zU, Nat.reduceEqDiff, reduceIte]; try rfl, ⟨by omega, hput, fun h => (by cases h), hZ⟩, by dsimp only; omega⟩
   ·rw [qTm hf (by rw [hnb]; exact hE)] at hZ
    rw [qBt] at hZ
    dsimp only at hZ
    rw [← hZ]
    have hne : decide (eW t c.p (kb, db) = 0) = false := decide_eq_false hE
    generalize eW t c.p (kb, db) = er at c21 hne
    generalize jB t c.p (kb, db) = u2 at c21
    refine eQ 12 [(7, some 480)] [[(88, .bx true 58 (lJ c))], [(480, aY u2), (88, .bx true 58 (lJ c))]] [(2, 0, 0), (6, 0, 0), (8, 1, 1), (9, 1, 1), (10, 1, 1), (11, 1, 1)] mixed (by kernel_rfl) (by kernel_rfl) rfl (fun K hK K1 hK1 => ?_); simp (maxSteps := 2000000) (disch := omega) only [push_cast, ↓Int.cast_ofNat_Int, simprocAttr, e1]
    refine qNf 480 zLn c21 (.cons (aN (yT _)) (.cons (.v _) (.cons (bB (n := (kb, db))) .nil))) (by simp only [aR, aP, bC, bD, cF, aU, aT, aS, cD, List.map_cons, List.map_nil, Nat.reduceBEq, Nat.reduceEqDiff, reduceIte, cond_false, cond_true]; try rfl) ?_
    simp (maxSteps := 2000000) (disch := omega) only [push_cast, ↓Int.cast_ofNat_Int, simprocAttr, dG, bQ, bP, bN, bR, List.map_cons, List.map_nil]
    refine hK1 _ ?_; clear hK1 K1; with_reducible refine aB ?_; simp (maxSteps := 2000000) (disch := omega) only [push_cast, ↓Int.cast_ofNat_Int, simprocAttr]
    refine hK _ ?_; clear hK K
    refine zE ?_; refine zE ?_; refine zJ (fun K hK => ?_); simp (maxSteps := 2000000) (disch := omega) only [push_cast, ↓Int.cast_ofNat_Int, simprocAttr, hne]; refine hK _ ?_; clear hK K
    refine zA ?_
    refine yD rfl ?_
    refine zE ?_; refine zJ (fun K hK => ?_); simp (maxSteps := 2000000) (disch := omega) only [push_cast, ↓Int.cast_ofNat_Int, simprocAttr, hk0]; refine hK _ ?_; clear hK K
    refine zA ?_; refine zW ?_; refine zK ?_; refine zL ?_; refine zK ?_; refine zK ?_; refine zL ?_; refine zK ?_
    simp only [yA, yM, yH, yE, aA, aC, yK, yJ, zS, zM, Nat.reduceEqDiff, reduceIte, reduceCtorEq]
    exact uH rfl
 ·have hq0 : q = 0 := by omega
  subst hq0
  rw [show qY7 L 0 = [] from rfl, show dW k (fun x => dN out x && act k true x.2) [] t = .ok t from rfl, kJ] at hZ
  refine zE ?_; refine zE ?_; refine zJ (fun K hK => ?_); simp (maxSteps := 2000000) (disch := omega) only [push_cast, ↓Int.cast_ofNat_Int, simprocAttr]; refine hK _ ?_; clear hK K
  refine zA ?_
  refine yC rfl ?_
  refine zT ?_; refine zG ?_; refine zG ?_; refine zH ?_; refine zE ?_; refine zE ?_
  refine zJ (fun K hK => ?_); simp (maxSteps := 2000000) (disch := omega) only [push_cast, ↓Int.cast_ofNat_Int, simprocAttr]; refine hK _ ?_; clear hK K
  refine zA ?_; refine zD ?_
  refine bM (fun x : Nat × Bool × List Ent => ⟨[(0, .lst false (chs L)), (1, .lst false (bls out)), (2, .lst x.2.1 (aH x.2.2)), (3, .v (.int .i64 k)), (14, .v (.int .i64 x.1))], []⟩) (fun x => x.1 ≤ L.length ∧ Tree x.2.2 ∧ (x.2.1 = false → ∀ i (hi : i < L.length), i < x.1 → (dN out (i, L[i]) && act k false L[i]) = false) ∧ (x.2.1 = false → ∀ i (hi : i < L.length), 0 ≤ i → (dN out (i, L[i]) && act k true L[i]) = false) ∧ dW k (fun x => dN out x && act k false x.2) ((lab L).drop x.1) x.2.2 = Z) (fun x => L.length - x.1) [0, 1, 2, 3, 14] [] (0, fr, t) (by simp only [zZ, zR, zP, zQ, zN, zS, zM, zX, zU, Nat.reduceEqDiff, reduceIte]; try rfl) ⟨Nat.zero_le _, hT, fun _ i hi h => by dsimp only at h; omega, hF, hZ⟩ ?_
  clear hlq hq hT hF hZ fr t
  rintro ⟨m, fr, t⟩ ⟨hq, hT, hF, hF1, hZ⟩
  dsimp only at hq hT hF hF1 hZ
  by_cases hlq : m < L.length
  ·have hm : m < L.length := by omega
   have hmo : m < out.length := by omega
   refine zE ?_; refine zE ?_; refine zJ (fun K hK => ?_); simp (maxSteps := 2000000) (disch := omega) only [push_cast, ↓Int.cast_ofNat_Int, simprocAttr, aJ]; refine hK _ ?_; clear hK K
   refine zA ?_
   refine yD rfl ?_
   refine zC ?_; refine zE ?_
   refine zD ?_; refine zE ?_; refine zJ (fun K hK => ?_); simp (maxSteps := 2000000) (disch := omega) only [push_cast, ↓Int.cast_ofNat_Int, simprocAttr, hk0, aJ, bF, bJ hm]; refine hK _ ?_; clear hK K
   have hkg : dN out (m, L[m]) = !out[m] := qCu hmo
   rw [zDk hm] at hZ
   have hsz : L[m].p.size ≤ 1048576 := hs _ (List.getElem_mem hm)
   have hcm : L[m] ∈ L := List.getElem_mem hm
   obtain ⟨ob, hob⟩ : ∃ b, out[m] = b := ⟨_, rfl⟩
   obtain ⟨c, hc⟩ : ∃ c, L[m] = c := ⟨_, rfl⟩
   rw [hob, hc] at hkg
   rw [hc] at hZ hsz
   have bg : ∀ {d : List FV}, (bls out).getD m d = [.v (.bool ob)] := fun {d} => by rw [uQ hmo, hob]
   rw [hc]
   have e1 := qMn c hk
   have e2 := qMo c hk
   have e4 : (lJ c).getD (2 + k * 2) .junk = .v (.int .i64 (c.b k).1) := qMm c hk
   obtain ⟨nb, hnb⟩ : ∃ n, c.b k = n := ⟨_, rfl⟩
   obtain ⟨na, hna⟩ : ∃ n, c.a k = n := ⟨_, rfl⟩
   have hact : act k false c = (!decide (nb.1 = na.1 ∧ nb.2 = na.2) && (decide (nb.1 = 0) == false)) := by rw [act, hnb, hna, decide_eq_decide.2 Prod.ext_iff]
   rw [hnb] at e1 e4
   rw [hna] at e2
   obtain ⟨kb, db⟩ := nb
   obtain ⟨ka, da⟩ := na
   dsimp only at e1 e2 e4 hact
   refine zE ?_; refine zE ?_
   refine jR (fun _ : Unit => ⟨[(0, .lst false (chs L)), (1, .lst false (bls out)), (2, .lst fr (aH t)), (3, .v (.int .i64 k)), (14, .v (.int .i64 m)), (15, .ptr 120 14 0 0), (99, .v (.bool (ob || !act k false c)))], [(120, .bx true 58 (lJ c))]⟩) (fun _ => True) [0, 1, 2, 3, 14, 15, 99] [120] ?_ ?_
   ·cases ob with
    | true =>
     refine jS 23 mixed (by kernel_rfl) (fun K hK K1 hK1 => ?_); simp (maxSteps := 2000000) (disch := omega) only [push_cast, ↓Int.cast_ofNat_Int, simprocAttr, hk0, gL, gK, bg, e1, e2]
     refine hK1 _ ?_; clear hK1 K1; with_reducible refine aB ?_; simp (maxSteps := 2000000) (disch := omega) only [push_cast, ↓Int.cast_ofNat_Int, simprocAttr]
     refine hK _ ?_; clear hK K
     exact ⟨(), by simp only [zZ, zR, zP, zQ, zN, zS, zM, zX, zU, Nat.reduceEqDiff, reduceIte, Bool.true_or]; try rfl, trivial⟩
    | false =>
     cases hd : decide (kb = ka ∧ db = da) with
     | true =>
      rw [hd, Bool.not_true, Bool.false_and] at hact
      rw [hact]
      refine dQ 23 mixed (by kernel_rfl) (fun K hK K1 hK1 => ?_); simp (maxSteps := 2000000) (disch := omega) only [push_cast, ↓Int.cast_ofNat_Int, simprocAttr, hk0, gL, gK, bg, e1, e2]
      refine ⟨_, eqN _ _ _ _, ?_⟩
      with_reducible refine aB ?_; simp (maxSteps := 2000000) (disch := omega) only [push_cast, ↓Int.cast_ofNat_Int, simprocAttr, hd]
      refine hK1 _ ?_; clear hK1 K1; with_reducible refine aB ?_; simp (maxSteps := 2000000) (disch := omega) only [push_cast, ↓Int.cast_ofNat_Int, simprocAttr, hd]
      refine hK _ ?_; clear hK K
      exact ⟨(), by simp only [zZ, zR, zP, zQ, zN, zS, zM, zX, zU, Nat.reduceEqDiff, reduceIte, Bool.false_or, Bool.not_false]; try rfl, trivial⟩
     | false =>
      rw [hd, Bool.not_false, Bool.true_and] at hact
      rw [hact]
      refine dQ 23 mixed (by kernel_rfl) (fun K hK K1 hK1 => ?_); simp (maxSteps := 2000000) (disch := omega) only [push_cast, ↓Int.cast_ofNat_Int, simprocAttr, hk0, gL, gK, bg, e1, e2]
      refine ⟨_, eqN _ _ _ _, ?_⟩
      cases h0 : decide (kb = 0) with
      | true =>
       with_reducible refine aB ?_; simp (maxSteps := 2000000) (disch := omega) only [push_cast, ↓Int.cast_ofNat_Int, simprocAttr, hd, e4, h0]
       refine hK1 _ ?_; clear hK1 K1; with_reducible refine aB ?_; simp (maxSteps := 2000000) (disch := omega) only [push_cast, ↓Int.cast_ofNat_Int, simprocAttr, hd]
       refine hK _ ?_; clear hK K
       exact ⟨(), by simp only [zZ, zR, zP, zQ, zN, zS, zM, zX, zU, Nat.reduceEqDiff, reduceIte, h0, Bool.false_or]; try rfl, trivial⟩
      | false =>
       with_reducible refine aB ?_; simp (maxSteps := 2000000) (disch := omega) only [push_cast, ↓Int.cast_ofNat_Int, simprocAttr, hd, e4, h0]
       refine hK1 _ ?_; clear hK1 K1; with_reducible refine aB ?_; simp (maxSteps := 2000000) (disch := omega) only [push_cast, ↓Int.cast_ofNat_Int, simprocAttr, hd]
       refine hK _ ?_; clear hK K
       exact ⟨(), by simp only [zZ, zR, zP, zQ, zN, zS, zM, zX, zU, Nat.reduceEqDiff, reduceIte, h0, Bool.false_or]; try rfl, trivial⟩
   intro S' _ hE _
   refine zA ?_
   refine yB [0, 1, 2, 3, 14, 15, 99] [120] hE ?_
   clear hE
   cases hx : (ob || !act k false c) with
   | true =>
    have hf : (dN out (m, c) && act k false c) = false := by
     rw [hkg]; cases ob <;> cases hh : act k false c <;> simp_all
    rw [qNm hf] at hZ
    refine yD rfl ?_
    refine zT ?_; refine zG ?_; refine zH ?_; refine zA ?_
    refine zJ (fun K hK => ?_); simp (maxSteps := 2000000) (disch := omega) only [push_cast, ↓Int.cast_ofNat_Int, simprocAttr, hk0]; refine hK _ ?_; clear hK K
    refine zA ?_
    refine ⟨(m + 1, fr, t), by simp only [zZ, zR, zP, zQ, zN, zS, zM, zX, zU, Nat.reduceEqDiff, reduceIte]; try rfl, ⟨hm, hT, fun hfr i hi h => ?_, hF1, hZ⟩, by dsimp only; omega⟩
    dsimp only at hfr h
    by_cases e : i = m
    ·subst e; rw [hc]; exact hf
    ·exact hF hfr i hi (by omega)
   | false =>
    have hf : (dN out (m, c) && act k false c) = true := by
     rw [hkg]; cases ob <;> cases hh : act k false c <;> simp_all
    refine yC rfl ?_
    refine zC ?_; refine zE ?_
    have c21 := zFz t c.p (kb, db) (qA3 hT.okT c.p) (by have := hT.len; omega) hsz hT.size
    rw [qZy hT.ri] at c21
    by_cases hE : eW t c.p (kb, db) = 0
    ·rw [qZm hf (by rw [hnb]; exact hE)] at hZ
     dsimp only at hZ
     rw [hnb] at hZ
     have hput := hT.put hE
     rw [hE] at c21
     generalize jB t c.p (kb, db) = u2 at c21 hZ hput
     refine eQ 12 [(7, some 864)] [[(120, .bx true 58 (lJ c))], [(864, aY u2), (120, .bx true 58 (lJ c))]] [(2, 0, 0), (6, 0, 0), (8, 1, 1), (9, 1, 1), (10, 1, 1), (11, 1, 1)] mixed (by kernel_rfl) (by kernel_rfl) rfl (fun K hK K1 hK1 => ?_); simp (maxSteps := 2000000) (disch := omega) only [push_cast, ↓Int.cast_ofNat_Int, simprocAttr, e1]
     refine qNf 864 zLn c21 (.cons (aN (yT _)) (.cons (.v _) (.cons (bB (n := (kb, db))) .nil))) (by simp only [aR, aP, bC, bD, cF, aU, aT, aS, cD, List.map_cons, List.map_nil, Nat.reduceBEq, Nat.reduceEqDiff, reduceIte, cond_false, cond_true]; try rfl) ?_
     simp (maxSteps := 2000000) (disch := omega) only [push_cast, ↓Int.cast_ofNat_Int, simprocAttr, dG, bQ, bP, bN, bR, List.map_cons, List.map_nil]
     refine hK1 _ ?_; clear hK1 K1; with_reducible refine aB ?_; simp (maxSteps := 2000000) (disch := omega) only [push_cast, ↓Int.cast_ofNat_Int, simprocAttr]
     refine hK _ ?_; clear hK K
     refine zE ?_; refine zE ?_; refine zJ (fun K hK => ?_); simp (maxSteps := 2000000) (disch := omega) only [push_cast, ↓Int.cast_ofNat_Int, simprocAttr]; refine hK _ ?_; clear hK K
     refine zA ?_
     refine yC rfl ?_
     refine zC ?_; refine zA ?_
     refine zJ (fun K hK => ?_); simp (maxSteps := 2000000) (disch := omega) only [push_cast, ↓Int.cast_ofNat_Int, simprocAttr]; refine hK _ ?_; clear hK K
     refine zB ?_; refine zA ?_
     refine yB [0, 1, 2, 3, 14] [864] (by simp only [zZ, zR, zP, zQ, zN, zS, zM, zX, zU, Nat.reduceEqDiff, reduceIte]; exact rfl) ?_
     refine gR 864 rfl (by simp only [gZ, fQ, eB, fE, dX, kX, fL, fM, dZ, fK, fJ, hD, fN, fH, gW, gX, gY, Nat.reduceEqDiff, reduceIte, List.map_cons, List.map_nil, List.map_append]; exact rfl) ?_
     refine zJ (fun K hK => ?_); simp (maxSteps := 2000000) (disch := omega) only [push_cast, ↓Int.cast_ofNat_Int, simprocAttr, hk0]; refine hK _ ?_; clear hK K
     refine zA ?_
     exact ⟨(m + 1, true, u2), by simp only [zZ, zR, zP, zQ, zN, zS, zM, zX, zU, Nat.reduceEqDiff, reduceIte]; try rfl, ⟨hm, hput, fun h => (by cases h), fun h => (by cases h), hZ⟩, by dsimp only; omega⟩
    ·rw [qTm hf (by rw [hnb]; exact hE)] at hZ
     dsimp only at hZ
     rw [← hZ]
     have hne : decide (eW t c.p (kb, db) = 0) = false := decide_eq_false hE
     generalize eW t c.p (kb, db) = er at c21 hne
     generalize jB t c.p (kb, db) = u2 at c21
     refine eQ 12 [(7, some 864)] [[(120, .bx true 58 (lJ c))], [(864, aY u2), (120, .bx true 58 (lJ c))]] [(2, 0, 0), (6, 0, 0), (8, 1, 1), (9, 1, 1), (10, 1, 1), (11, 1, 1)] mixed (by kernel_rfl) (by kernel_rfl) rfl (fun K hK K1 hK1 => ?_); simp (maxSteps := 2000000) (disch := omega) only [push_cast, ↓Int.cast_ofNat_Int, simprocAttr, e1]
     refine qNf 864 zLn c21 (.cons (aN (yT _)) (.cons (.v _) (.cons (bB (n := (kb, db))) .nil))) (by simp only [aR, aP, bC, bD, cF, aU, aT, aS, cD, List.map_cons, List.map_nil, Nat.reduceBEq, Nat.reduceEqDiff, reduceIte, cond_false, cond_true]; try rfl) ?_
     simp (maxSteps := 2000000) (disch := omega) only [push_cast, ↓Int.cast_ofNat_Int, simprocAttr, dG, bQ, bP, bN, bR, List.map_cons, List.map_nil]
     refine hK1 _ ?_; clear hK1 K1; with_reducible refine aB ?_; simp (maxSteps := 2000000) (disch := omega) only [push_cast, ↓Int.cast_ofNat_Int, simprocAttr]
     refine hK _ ?_; clear hK K
     refine zE ?_; refine zE ?_; refine zJ (fun K hK => ?_); simp (maxSteps := 2000000) (disch := omega) only [push_cast, ↓Int.cast_ofNat_Int, simprocAttr, hne]; refine hK _ ?_; clear hK K
     refine zA ?_
     refine yD rfl ?_
     refine zE ?_; refine zJ (fun K hK => ?_); simp (maxSteps := 2000000) (disch := omega) only [push_cast, ↓Int.cast_ofNat_Int, simprocAttr, hk0]; refine hK _ ?_; clear hK K
     refine zA ?_; refine zW ?_; refine zK ?_; refine zL ?_; refine zK ?_; refine zK ?_; refine zL ?_; refine zK ?_
     simp only [yA, yM, yH, yE, aA, aC, yK, yJ, zS, zM, Nat.reduceEqDiff, reduceIte, reduceCtorEq]
     exact uH rfl
  ·have hqe : m = L.length := by omega
   subst hqe
   rw [List.drop_of_length_le (by rw [fU]; exact Nat.le_refl _)] at hZ
   have hZ2 : Z = .ok t := hZ.symm
   rw [hZ2]
   have hfr : fr = true := by
    cases fr with
    | true => rfl
    | false =>
     refine absurd (fun y hy hkp => ?_) hid
     obtain ⟨i, hi, rfl⟩ := List.getElem_of_mem hy
     have hi' : i < L.length := by rwa [fU] at hi
     rw [kV] at hkp ⊢
     have a1 := hF rfl i hi' hi'
     have a2 := hF1 rfl i hi' (Nat.zero_le _)
     rw [hkp, Bool.true_and] at a1 a2
     apply Classical.byContradiction
     intro hne
     dsimp only at hne
     rw [act, decide_eq_false hne] at a1 a2
     cases hz : decide ((L[i].b k).1 = 0) <;> rw [hz] at a1 a2 <;> simp at a1 a2
   subst hfr
   refine zE ?_; refine zE ?_; refine zJ (fun K hK => ?_); simp (maxSteps := 2000000) (disch := omega) only [push_cast, ↓Int.cast_ofNat_Int, simprocAttr, aJ]; refine hK _ ?_; clear hK K
   refine zA ?_
   refine yC rfl ?_
   refine zT ?_; refine zG ?_; refine zG ?_; refine zH ?_; refine zE ?_
   refine zJ (fun K hK => ?_); simp (maxSteps := 2000000) (disch := omega) only [push_cast, ↓Int.cast_ofNat_Int, simprocAttr]; refine hK _ ?_; clear hK K
   refine zA ?_; refine zW ?_
   simp only [yA, yM, yH, yE, aA, aC, yK, yJ, zS, zM, Nat.reduceEqDiff, reduceIte, reduceCtorEq]
   exact zLb (aV _) rfl
end Go.Proofs.YtkonlklieacjoaaDoor
