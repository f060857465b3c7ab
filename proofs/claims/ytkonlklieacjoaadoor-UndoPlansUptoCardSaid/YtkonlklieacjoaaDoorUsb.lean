/-
  ref22.sorted, walked.
-/
import Derived.Test.YtkonlklieacjoaaDoorUsA
import Derived.Test.YtkonlklieacjoaaDoorChn
import Derived.Test.YtkonlklieacjoaaDoorTrO
set_option linter.unusedSimpArgs false
set_option linter.unusedVariables false
set_option maxRecDepth 20000
namespace Go.Tr
open Go Go.Eng
theorem zK1 {out : List ByteArray} {e : ByteArray} {i : Nat} (hi : i ≤ out.length) (h1 : ∀ j (h : j < out.length), j < i → blt e out[j] = false) (h2 : i = out.length ∨ ∃ h : i < out.length, blt e out[i] = true) : qCv out e = out.take i ++ [e] ++ out.drop i := by
 have key : ∀ (out : List ByteArray) (i : Nat), i ≤ out.length → (∀ j (h : j < out.length), j < i → blt e out[j] = false) → (i = out.length ∨ ∃ h : i < out.length, blt e out[i] = true) →
   out.takeWhile (fun x => !blt e x) = out.take i ∧ out.dropWhile (fun x => !blt e x) = out.drop i := by
  intro out
  induction out with
  | nil => intro i hi _ _; simp
  | cons x r ih =>
   intro i hi h1 h2
   cases i with
   | zero =>
    rcases h2 with h2 | ⟨h, h2⟩
    ·simp at h2
    ·simp only [List.getElem_cons_zero] at h2
     simp [List.takeWhile_cons, List.dropWhile_cons, h2]
   | succ i =>
    have hx := h1 0 (by simp) (by omega)
    simp only [List.getElem_cons_zero] at hx
    obtain ⟨a, b⟩ := ih i (by simpa using hi) (fun j hj hji => by have := h1 (j + 1) (by simpa using hj) (by omega); simpa using this) (by
     rcases h2 with h2 | ⟨h, h2⟩
     ·left; simpa using h2
     ·right; exact ⟨by simpa using h, by simpa using h2⟩)
    simp [List.takeWhile_cons, List.dropWhile_cons, hx, a, b]
 obtain ⟨a, b⟩ := key out i hi h1 h2
 rw [qCv, a, b]; simp
theorem zEu (t out : List ByteArray) : (t.foldl qCv out).length = out.length + t.length := by rw [(qBi t out).length_eq, List.length_append]
theorem zQc {a b : ByteArray} (h : blt b a = false) : (Op.bytesLess a.toList b.toList || decide (a = b)) = true := by
 rcases rM a b with h1 | h1 | h1
 ·rw [show Op.bytesLess a.toList b.toList = true from h1]; rfl
 ·rw [decide_eq_true h1, Bool.or_true]
 ·rw [h1] at h; cases h
theorem zQp {a b : ByteArray} (h : blt b a = true) : (Op.bytesLess a.toList b.toList || decide (a = b)) = false := by
 rw [show Op.bytesLess a.toList b.toList = false from mA h, decide_eq_false (fun e => by rw [e, mE] at h; cases h)]; rfl
abbrev iE (l : List ByteArray) : Row := .sl true 9 1 (dH l)
end Go.Tr
namespace Go.Proofs.YtkonlklieacjoaaDoor
open Go Go.Eng Go.RowKit Go.Tr
set_option maxHeartbeats 8000000 in
theorem zFq (t : List ByteArray) (hl : t.length ≤ 4194304) : HFun Tryd.prog 75 [.lst false (dH t)] (fun h st => h = .own 0 ∧ st = [(0, iE (nJ t))]) := by
 refine eK (N := 49) Tryd.func75 rfl Tryd.ntmps75 Tryd.results75 (by simp) ?_
 refine zE ?_; refine zJ (fun K hK => ?_); simp (maxSteps := 2000000) (disch := omega) only [push_cast, ↓Int.cast_ofNat_Int, simprocAttr]; refine hK _ ?_; clear hK K
 refine zE ?_; refine zJ (fun K hK => ?_); simp (maxSteps := 2000000) (disch := omega) only [push_cast, ↓Int.cast_ofNat_Int, simprocAttr]; refine hK _ ?_; clear hK K
 refine zE ?_; refine zE ?_; refine zJ (fun K hK => ?_); simp (maxSteps := 2000000) (disch := omega) only [push_cast, ↓Int.cast_ofNat_Int, simprocAttr]; refine hK _ ?_; clear hK K
 refine zA ?_; refine zD ?_
 refine eD 3 280 9 1 rfl (by simp only [dR, eZ, fA, cB, bH, aR, aP, cF, aU, aT, aS, cJ, cA, bZ, bG, bC, bD, cQ, cD, dA, cP, Nat.reduceBEq, Nat.reduceEqDiff, reduceIte, cond_true, cond_false, List.map_cons, List.map_nil]; exact rfl) ?_
 refine bM (fun x : Nat × List ByteArray => ⟨[(0, .lst false (dH t)), (3, .own 280), (4, .v (.int .i64 x.1))], [(280, iE x.2)]⟩) (fun x => x.1 ≤ t.length ∧ x.2 = (t.take x.1).foldl qCv []) (fun x => t.length - x.1) [0, 3, 4] [280] (0, []) (by simp only [zZ, zR, zP, zQ, zN, zS, zM, zX, zU, Nat.reduceEqDiff, reduceIte]; rfl) ⟨Nat.zero_le _, rfl⟩ ?_
 rintro ⟨i, out⟩ ⟨hi, ho⟩
 simp only at hi ho
 have hol : out.length = i := by rw [ho, zEu, List.length_take]; simp; omega
 by_cases hlt : i < t.length
 ·refine zE ?_; refine zE ?_; refine zJ (fun K hK => ?_); simp (maxSteps := 2000000) (disch := omega) only [push_cast, ↓Int.cast_ofNat_Int, simprocAttr, aX]; refine hK _ ?_; clear hK K
  refine zA ?_
  refine yD rfl ?_
  refine zC ?_; refine zE ?_
  refine zD ?_; refine zE ?_; refine zJ (fun K hK => ?_); simp (maxSteps := 2000000) (disch := omega) only [push_cast, ↓Int.cast_ofNat_Int, simprocAttr]; refine hK _ ?_; clear hK K
  refine zE ?_; refine zD ?_
  refine bM (fun x : Nat => ⟨[(0, .lst false (dH t)), (3, .own 280), (4, .v (.int .i64 i)), (5, .v (.int .i64 x))], [(280, iE out)]⟩) (fun x => x ≤ out.length ∧ ∀ j (h : j < out.length), j < x → blt t[i] out[j] = false) (fun x => out.length - x) [0, 3, 4, 5] [280] 0 (by simp only [zZ, zR, zP, zQ, zN, zS, zM, zX, zU, Nat.reduceEqDiff, reduceIte]; try rfl) ⟨Nat.zero_le _, fun j _ h => absurd h (Nat.not_lt_zero _)⟩ ?_
  rintro k ⟨hk, hb⟩
  have fin : (k = out.length ∨ ∃ h : k < out.length, blt t[i] out[k] = true) → qCv out t[i] = out.take k ++ [t[i]] ++ out.drop k := zK1 hk hb
  by_cases hkl : k < out.length
  ·cases hb2 : blt t[i] out[k] with
   | false =>
    have hb3 := zQc hb2
    refine zE ?_; refine zE ?_; refine jS 15 mixed (by kernel_rfl) (fun K hK K1 hK1 => ?_); simp (maxSteps := 2000000) (disch := omega) only [push_cast, ↓Int.cast_ofNat_Int, simprocAttr, aX, eH, fD hkl, fD hlt, hb3]
    refine hK1 _ ?_; clear hK1 K1; with_reducible refine aB ?_; simp (maxSteps := 2000000) (disch := omega) only [push_cast, ↓Int.cast_ofNat_Int, simprocAttr, aX, eH, fD hkl, fD hlt, hb3]
    refine hK _ ?_; clear hK K
    refine yD rfl ?_
    refine zC ?_; refine zA ?_
    refine zD ?_; refine zJ (fun K hK => ?_); simp (maxSteps := 2000000) (disch := omega) only [push_cast, ↓Int.cast_ofNat_Int, simprocAttr]; refine hK _ ?_; clear hK K
    refine zB ?_; refine zA ?_
    refine ⟨k + 1, by simp only [zZ, zR, zP, zQ, zN, zS, zM, zX, zU, Nat.reduceEqDiff, reduceIte]; try rfl, ⟨hkl, fun j hj h => ?_⟩, by omega⟩
    by_cases e : j = k
    ·subst e; exact hb2
    ·exact hb j hj (by omega)
   | true =>
    have hb3 := zQp hb2
    have he := fin (.inr ⟨hkl, hb2⟩)
    refine zE ?_; refine zE ?_; refine jS 15 mixed (by kernel_rfl) (fun K hK K1 hK1 => ?_); simp (maxSteps := 2000000) (disch := omega) only [push_cast, ↓Int.cast_ofNat_Int, simprocAttr, aX, eH, fD hkl, fD hlt, hb3]
    refine hK1 _ ?_; clear hK1 K1; with_reducible refine aB ?_; simp (maxSteps := 2000000) (disch := omega) only [push_cast, ↓Int.cast_ofNat_Int, simprocAttr, aX, eH, fD hkl, fD hlt, hb3]
    refine hK _ ?_; clear hK K
    refine yC rfl ?_
    refine zT ?_; refine zG ?_; refine zG ?_; refine zH ?_; refine zE ?_
    refine yB [0, 3, 4, 5] [280] (by simp only [zZ, zR, zP, zQ, zN, zS, zM, zX, zU, Nat.reduceEqDiff, reduceIte]; exact rfl) ?_
    refine gR 280 rfl (by simp only [gZ, fQ, eB, fE, dX, kX, fL, fM, dZ, fK, fJ, hD, fN, fH, gW, gX, gY, Nat.reduceEqDiff, reduceIte, List.map_cons, List.map_nil, List.map_append]; exact rfl) ?_
    have ht : (dH out).take out.length = dH out := List.take_of_length_le (by rw [aX]; exact Nat.le_refl _)
    refine zJ (fun K hK => ?_); simp (maxSteps := 2000000) (disch := omega) only [push_cast, ↓Int.cast_ofNat_Int, simprocAttr, aX, eH, ht, xP, List.length_drop]; (repeat refine ⟨by first | omega | decide | ((repeat' apply And.intro) <;> first | omega | decide), ?_⟩); refine hK _ ?_; clear hK K
    refine yB [0, 3, 4, 5, 6] [240] (by simp only [zZ, zR, zP, zQ, zN, zS, zM, zX, zU, Nat.reduceEqDiff, reduceIte]; exact rfl) ?_
    refine gR 240 rfl (by simp only [gZ, fQ, eB, fE, dX, kX, fL, fM, dZ, fK, fJ, hD, fN, fH, gW, gX, gY, Nat.reduceEqDiff, reduceIte, List.map_cons, List.map_nil, List.map_append]; exact rfl) ?_
    refine eQ 13 [(0, some 280), (4, some 280), (10, some 280), (12, some 280)] [[], [(280, iE [])], [(280, iE (out.take k))], [(280, iE (out.take k ++ [t[i]]))], [(280, iE (out.take k ++ [t[i]] ++ out.drop k))]] [] mixed (by kernel_rfl) (by kernel_rfl) rfl (fun K hK K1 hK1 => ?_); simp (maxSteps := 2000000) (disch := omega) only [push_cast, ↓Int.cast_ofNat_Int, simprocAttr, aX, eH, qDw, xP, fD hlt, List.drop_zero]
    have l1 : (out.take k).length ≤ 4194304 := by rw [List.length_take]; omega
    have l2 : (out.take k).length + (out.drop k).length = out.length := by rw [List.length_take, List.length_drop]; omega
    refine ⟨rfl, by show _ * 16 ≤ _; omega, rfl, ⟨of_eq_true (eH [t[i]]), by show _ * 16 ≤ _; omega⟩, by rw [iS], by show _ * 16 ≤ _; omega, by rw [qTs], ?_⟩
    rw [← he]
    refine hK1 _ ?_; clear hK1 K1; with_reducible refine aB ?_; simp (maxSteps := 2000000) (disch := omega) only [push_cast, ↓Int.cast_ofNat_Int, simprocAttr]
    refine hK _ ?_; clear hK K
    refine zB ?_; refine zA ?_
    refine zJ (fun K hK => ?_); simp (maxSteps := 2000000) (disch := omega) only [push_cast, ↓Int.cast_ofNat_Int, simprocAttr]; refine hK _ ?_; clear hK K
    refine zA ?_
    refine ⟨(i + 1, qCv out t[i]), by simp only [zZ, zR, zP, zQ, zN, zS, zM, zX, zU, Nat.reduceEqDiff, reduceIte]; try rfl, ⟨hlt, ?_⟩, by dsimp only; omega⟩
    dsimp only
    rw [List.take_succ_eq_append_getElem hlt, List.foldl_append, ← ho]; rfl
  ·have hkk : k = out.length := by omega
   have he := fin (.inl hkk)
   refine zE ?_; refine zE ?_; refine jS 15 mixed (by kernel_rfl) (fun K hK K1 hK1 => ?_); simp (maxSteps := 2000000) (disch := omega) only [push_cast, ↓Int.cast_ofNat_Int, simprocAttr, aX]
   refine hK1 _ ?_; clear hK1 K1; with_reducible refine aB ?_; simp (maxSteps := 2000000) (disch := omega) only [push_cast, ↓Int.cast_ofNat_Int, simprocAttr, aX]
   refine hK _ ?_; clear hK K
   refine yC rfl ?_
   refine zT ?_; refine zG ?_; refine zG ?_; refine zH ?_; refine zE ?_
   refine yB [0, 3, 4, 5] [280] (by simp only [zZ, zR, zP, zQ, zN, zS, zM, zX, zU, Nat.reduceEqDiff, reduceIte]; exact rfl) ?_
   refine gR 280 rfl (by simp only [gZ, fQ, eB, fE, dX, kX, fL, fM, dZ, fK, fJ, hD, fN, fH, gW, gX, gY, Nat.reduceEqDiff, reduceIte, List.map_cons, List.map_nil, List.map_append]; exact rfl) ?_
   have ht : (dH out).take out.length = dH out := List.take_of_length_le (by rw [aX]; exact Nat.le_refl _)
   refine zJ (fun K hK => ?_); simp (maxSteps := 2000000) (disch := omega) only [push_cast, ↓Int.cast_ofNat_Int, simprocAttr, aX, eH, ht, xP, List.length_drop]; (repeat refine ⟨by first | omega | decide | ((repeat' apply And.intro) <;> first | omega | decide), ?_⟩); refine hK _ ?_; clear hK K
   refine yB [0, 3, 4, 5, 6] [240] (by simp only [zZ, zR, zP, zQ, zN, zS, zM, zX, zU, Nat.reduceEqDiff, reduceIte]; exact rfl) ?_
   refine gR 240 rfl (by simp only [gZ, fQ, eB, fE, dX, kX, fL, fM, dZ, fK, fJ, hD, fN, fH, gW, gX, gY, Nat.reduceEqDiff, reduceIte, List.map_cons, List.map_nil, List.map_append]; exact rfl) ?_
   refine eQ 13 [(0, some 280), (4, some 280), (10, some 280), (12, some 280)] [[], [(280, iE [])], [(280, iE (out.take k))], [(280, iE (out.take k ++ [t[i]]))], [(280, iE (out.take k ++ [t[i]] ++ out.drop k))]] [] mixed (by kernel_rfl) (by kernel_rfl) rfl (fun K hK K1 hK1 => ?_); simp (maxSteps := 2000000) (disch := omega) only [push_cast, ↓Int.cast_ofNat_Int, simprocAttr, aX, eH, qDw, xP, fD hlt, List.drop_zero]
   have l1 : (out.take k).length ≤ 4194304 := by rw [List.length_take]; omega
   have l2 : (out.take k).length + (out.drop k).length = out.length := by rw [List.length_take, List.length_drop]; omega
   refine ⟨rfl, by show _ * 16 ≤ _; omega, rfl, ⟨of_eq_true (eH [t[i]]), by show _ * 16 ≤ _; omega⟩, by rw [iS], by show _ * 16 ≤ _; omega, by rw [qTs], ?_⟩
   rw [← he]
   refine hK1 _ ?_; clear hK1 K1; with_reducible refine aB ?_; simp (maxSteps := 2000000) (disch := omega) only [push_cast, ↓Int.cast_ofNat_Int, simprocAttr]
   refine hK _ ?_; clear hK K
   refine zB ?_; refine zA ?_
   refine zJ (fun K hK => ?_); simp (maxSteps := 2000000) (disch := omega) only [push_cast, ↓Int.cast_ofNat_Int, simprocAttr]; refine hK _ ?_; clear hK K
   refine zA ?_
   refine ⟨(i + 1, qCv out t[i]), by simp only [zZ, zR, zP, zQ, zN, zS, zM, zX, zU, Nat.reduceEqDiff, reduceIte]; try rfl, ⟨hlt, ?_⟩, by dsimp only; omega⟩
   dsimp only
   rw [List.take_succ_eq_append_getElem hlt, List.foldl_append, ← ho]; rfl
 ·have hii : i = t.length := by omega
  subst hii
  rw [List.take_length] at ho
  rw [ho]
  refine zE ?_; refine zE ?_; refine zJ (fun K hK => ?_); simp (maxSteps := 2000000) (disch := omega) only [push_cast, ↓Int.cast_ofNat_Int, simprocAttr, aX]; refine hK _ ?_; clear hK K
  refine zA ?_
  refine yC rfl ?_
  refine zT ?_; refine zG ?_; refine zG ?_; refine zH ?_; refine zE ?_
  refine zJ (fun K hK => ?_); simp (maxSteps := 2000000) (disch := omega) only [push_cast, ↓Int.cast_ofNat_Int, simprocAttr]; refine hK _ ?_; clear hK K
  refine zA ?_; refine zW ?_
  simp only [yA, yM, yH, yE, aA, aC, yK, yJ, zS, zM, Nat.reduceEqDiff, reduceIte, reduceCtorEq]
  exact qBf rfl (oH _) ⟨rfl, rfl⟩
end Go.Proofs.YtkonlklieacjoaaDoor
