/-
  ref04.Sort, walked.
-/
import Derived.Test.YtkonlklieacjoaaDoorTrO
import Derived.Test.YtkonlklieacjoaaDoorChn
set_option linter.unusedSimpArgs false
set_option linter.unusedVariables false
set_option maxRecDepth 20000
namespace Go.Tr
open Go Go.Eng
def qAm (out : List Ent) (e : Ent) : List Ent := out.takeWhile (fun x => blt x.1 e.1) ++ e :: out.dropWhile (fun x => blt x.1 e.1)
def sortS (t : List Ent) : List Ent := t.foldl qAm []
theorem zNt {out : List Ent} {e : Ent} {i : Nat} (hi : i ≤ out.length) (h1 : ∀ j (h : j < out.length), j < i → blt out[j].1 e.1 = true) (h2 : i = out.length ∨ ∃ h : i < out.length, blt out[i].1 e.1 = false) : qAm out e = out.take i ++ [e] ++ out.drop i := by
 have key : ∀ (out : List Ent) (i : Nat), i ≤ out.length → (∀ j (h : j < out.length), j < i → blt out[j].1 e.1 = true) → (i = out.length ∨ ∃ h : i < out.length, blt out[i].1 e.1 = false) →
   out.takeWhile (fun x => blt x.1 e.1) = out.take i ∧ out.dropWhile (fun x => blt x.1 e.1) = out.drop i := by
  intro out
  induction out with
  | nil => intro i hi _ _; simp
  | cons x r ih =>
   intro i hi h1 h2
   cases i with
   | zero =>
    rcases h2 with h2 | ⟨h, h2⟩
    ·simp at h2
    ·simp only [List.getElem_cons_zero] at h2
     simp [List.takeWhile_cons, List.dropWhile_cons, h2]
   | succ i =>
    have hx := h1 0 (by simp) (by omega)
    simp only [List.getElem_cons_zero] at hx
    obtain ⟨a, b⟩ := ih i (by simpa using hi) (fun j hj hji => by have := h1 (j + 1) (by simpa using hj) (by omega); simpa using this) (by
     rcases h2 with h2 | ⟨h, h2⟩
     ·left; simpa using h2
     ·right; exact ⟨by simpa using h, by simpa using h2⟩)
    simp [List.takeWhile_cons, List.dropWhile_cons, hx, a, b]
 obtain ⟨a, b⟩ := key out i hi h1 h2
 rw [qAm, a, b]; simp
theorem zHg (out : List Ent) (e : Ent) : (qAm out e).length = out.length + 1 := by
 have := congrArg List.length (List.takeWhile_append_dropWhile (p := fun x : Ent => blt x.1 e.1) (l := out))
 rw [List.length_append] at this
 rw [qAm, List.length_append, List.length_cons]; omega
theorem qT1 : ∀ (t out : List Ent), (t.foldl qAm out).length = out.length + t.length
 | [], out => rfl
 | e :: t, out => by rw [List.foldl_cons, qT1 t, zHg, List.length_cons]; omega
end Go.Tr
namespace Go.Proofs.YtkonlklieacjoaaDoor
open Go Go.Eng Go.RowKit Go.Tr
set_option maxHeartbeats 8000000 in
theorem zFr (t : List Ent) (hl : t.length ≤ 2097152) : HFun Tryd.prog 57 [.lst false (aH t)] (fun h st => h = .own 0 ∧ st = [(0, aY (sortS t))]) := by
 refine eK (N := 51) Tryd.func57 rfl Tryd.ntmps57 Tryd.results57 (by simp) ?_
 refine zE ?_; refine zJ (fun K hK => ?_); simp (maxSteps := 2000000) (disch := omega) only [push_cast, ↓Int.cast_ofNat_Int, simprocAttr]; refine hK _ ?_; clear hK K
 refine zE ?_; refine zJ (fun K hK => ?_); simp (maxSteps := 2000000) (disch := omega) only [push_cast, ↓Int.cast_ofNat_Int, simprocAttr]; refine hK _ ?_; clear hK K
 refine zE ?_; refine zE ?_; refine zJ (fun K hK => ?_); simp (maxSteps := 2000000) (disch := omega) only [push_cast, ↓Int.cast_ofNat_Int, simprocAttr]; refine hK _ ?_; clear hK K
 refine zA ?_; refine zD ?_
 refine eD 3 296 68 3 rfl (by simp only [dR, eZ, fA, cB, bH, aR, aP, cF, aU, aT, aS, cJ, cA, bZ, bG, bC, bD, cQ, cD, dA, cP, Nat.reduceBEq, Nat.reduceEqDiff, reduceIte, cond_true, cond_false, List.map_cons, List.map_nil]; exact rfl) ?_
 refine bM (fun x : Nat × List Ent => ⟨[(0, .lst false (aH t)), (3, .own 296), (4, .v (.int .i64 x.1))], [(296, aY x.2)]⟩) (fun x => x.1 ≤ t.length ∧ x.2 = (t.take x.1).foldl qAm []) (fun x => t.length - x.1) [0, 3, 4] [296] (0, []) (by simp only [zZ, zR, zP, zQ, zN, zS, zM, zX, zU, Nat.reduceEqDiff, reduceIte]; rfl) ⟨Nat.zero_le _, rfl⟩ ?_
 rintro ⟨i, out⟩ ⟨hi, ho⟩
 simp only at hi ho
 have hol : out.length = i := by rw [ho, qT1, List.length_take]; simp; omega
 by_cases hlt : i < t.length
 ·refine zE ?_; refine zE ?_; refine zJ (fun K hK => ?_); simp (maxSteps := 2000000) (disch := omega) only [push_cast, ↓Int.cast_ofNat_Int, simprocAttr, yV]; refine hK _ ?_; clear hK K
  refine zA ?_
  refine yD rfl ?_
  refine zC ?_; refine zE ?_
  refine zD ?_; refine zE ?_; refine zJ (fun K hK => ?_); simp (maxSteps := 2000000) (disch := omega) only [push_cast, ↓Int.cast_ofNat_Int, simprocAttr]; refine hK _ ?_; clear hK K
  refine zE ?_; refine zD ?_
  refine bM (fun x : Nat => ⟨[(0, .lst false (aH t)), (3, .own 296), (4, .v (.int .i64 i)), (5, .v (.int .i64 x))], [(296, aY out)]⟩) (fun x => x ≤ out.length ∧ ∀ j (h : j < out.length), j < x → blt out[j].1 t[i].1 = true) (fun x => out.length - x) [0, 3, 4, 5] [296] 0 (by simp only [zZ, zR, zP, zQ, zN, zS, zM, zX, zU, Nat.reduceEqDiff, reduceIte]; try rfl) ⟨Nat.zero_le _, fun j _ h => absurd h (Nat.not_lt_zero _)⟩ ?_
  rintro k ⟨hk, hb⟩
  have fin : (k = out.length ∨ ∃ h : k < out.length, blt out[k].1 t[i].1 = false) → qAm out t[i] = out.take k ++ [t[i]] ++ out.drop k := zNt hk hb
  by_cases hkl : k < out.length
  ·cases hb2 : blt out[k].1 t[i].1 with
   | true =>
    have hb3 : Op.bytesLess out[k].1.toList t[i].1.toList = true := hb2
    refine zE ?_; refine zE ?_; refine jS 17 mixed (by kernel_rfl) (fun K hK K1 hK1 => ?_); simp (maxSteps := 2000000) (disch := omega) only [push_cast, ↓Int.cast_ofNat_Int, simprocAttr, yV, yU, yW hkl, yW hlt, hb3]
    refine hK1 _ ?_; clear hK1 K1; with_reducible refine aB ?_; simp (maxSteps := 2000000) (disch := omega) only [push_cast, ↓Int.cast_ofNat_Int, simprocAttr, yV, yU, yW hkl, yW hlt, hb3]
    refine hK _ ?_; clear hK K
    refine yD rfl ?_
    refine zC ?_; refine zA ?_
    refine zD ?_; refine zJ (fun K hK => ?_); simp (maxSteps := 2000000) (disch := omega) only [push_cast, ↓Int.cast_ofNat_Int, simprocAttr]; refine hK _ ?_; clear hK K
    refine zB ?_; refine zA ?_
    refine ⟨k + 1, by simp only [zZ, zR, zP, zQ, zN, zS, zM, zX, zU, Nat.reduceEqDiff, reduceIte]; try rfl, ⟨hkl, fun j hj h => ?_⟩, by omega⟩
    by_cases e : j = k
    ·subst e; exact hb2
    ·exact hb j hj (by omega)
   | false =>
    have hb3 : Op.bytesLess out[k].1.toList t[i].1.toList = false := hb2
    have he := fin (.inr ⟨hkl, hb2⟩)
    refine zE ?_; refine zE ?_; refine jS 17 mixed (by kernel_rfl) (fun K hK K1 hK1 => ?_); simp (maxSteps := 2000000) (disch := omega) only [push_cast, ↓Int.cast_ofNat_Int, simprocAttr, yV, yU, yW hkl, yW hlt, hb3]
    refine hK1 _ ?_; clear hK1 K1; with_reducible refine aB ?_; simp (maxSteps := 2000000) (disch := omega) only [push_cast, ↓Int.cast_ofNat_Int, simprocAttr, yV, yU, yW hkl, yW hlt, hb3]
    refine hK _ ?_; clear hK K
    refine yC rfl ?_
    refine zT ?_; refine zG ?_; refine zG ?_; refine zH ?_; refine zE ?_
    refine yB [0, 3, 4, 5] [296] (by simp only [zZ, zR, zP, zQ, zN, zS, zM, zX, zU, Nat.reduceEqDiff, reduceIte]; exact rfl) ?_
    refine gR 296 rfl (by simp only [gZ, fQ, eB, fE, dX, kX, fL, fM, dZ, fK, fJ, hD, fN, fH, gW, gX, gY, Nat.reduceEqDiff, reduceIte, List.map_cons, List.map_nil, List.map_append]; exact rfl) ?_
    have ht : (aH out).take out.length = aH out := List.take_of_length_le (by rw [yV]; exact Nat.le_refl _)
    refine zJ (fun K hK => ?_); simp (maxSteps := 2000000) (disch := omega) only [push_cast, ↓Int.cast_ofNat_Int, simprocAttr, yV, yU, ht, qAb, List.length_drop]; (repeat refine ⟨by first | omega | decide | ((repeat' apply And.intro) <;> first | omega | decide), ?_⟩); refine hK _ ?_; clear hK K
    refine yB [0, 3, 4, 5, 6] [256] (by simp only [zZ, zR, zP, zQ, zN, zS, zM, zX, zU, Nat.reduceEqDiff, reduceIte]; exact rfl) ?_
    refine gR 256 rfl (by simp only [gZ, fQ, eB, fE, dX, kX, fL, fM, dZ, fK, fJ, hD, fN, fH, gW, gX, gY, Nat.reduceEqDiff, reduceIte, List.map_cons, List.map_nil, List.map_append]; exact rfl) ?_
    refine eQ 13 [(0, some 296), (4, some 296), (10, some 296), (12, some 296)] [[], [(296, aY [])], [(296, aY (out.take k))], [(296, aY (out.take k ++ [t[i]]))], [(296, aY (out.take k ++ [t[i]] ++ out.drop k))]] [] mixed (by kernel_rfl) (by kernel_rfl) rfl (fun K hK K1 hK1 => ?_); simp (maxSteps := 2000000) (disch := omega) only [push_cast, ↓Int.cast_ofNat_Int, simprocAttr, yV, yU, lX, qAb, yW hlt, List.drop_zero]
    have l1 : (out.take k).length ≤ 2097152 := by rw [List.length_take]; omega
    have l2 : (out.take k).length + (out.drop k).length = out.length := by rw [List.length_take, List.length_drop]; omega
    refine ⟨rfl, by show _ * 40 ≤ _; omega, rfl, ⟨of_eq_true (yU [t[i]]), by show _ * 40 ≤ _; omega⟩, by rw [lY], by show _ * 40 ≤ _; omega, by rw [qMe], ?_⟩
    rw [← he]
    refine hK1 _ ?_; clear hK1 K1; with_reducible refine aB ?_; simp (maxSteps := 2000000) (disch := omega) only [push_cast, ↓Int.cast_ofNat_Int, simprocAttr]
    refine hK _ ?_; clear hK K
    refine zB ?_; refine zA ?_
    refine zJ (fun K hK => ?_); simp (maxSteps := 2000000) (disch := omega) only [push_cast, ↓Int.cast_ofNat_Int, simprocAttr]; refine hK _ ?_; clear hK K
    refine zA ?_
    refine ⟨(i + 1, qAm out t[i]), by simp only [zZ, zR, zP, zQ, zN, zS, zM, zX, zU, Nat.reduceEqDiff, reduceIte]; try rfl, ⟨hlt, ?_⟩, by dsimp only; omega⟩
    dsimp only
    rw [List.take_succ_eq_append_getElem hlt, List.foldl_append, ← ho]; rfl
  ·have hkk : k = out.length := by omega
   have he := fin (.inl hkk)
   refine zE ?_; refine zE ?_; refine jS 17 mixed (by kernel_rfl) (fun K hK K1 hK1 => ?_); simp (maxSteps := 2000000) (disch := omega) only [push_cast, ↓Int.cast_ofNat_Int, simprocAttr, yV]
   refine hK1 _ ?_; clear hK1 K1; with_reducible refine aB ?_; simp (maxSteps := 2000000) (disch := omega) only [push_cast, ↓Int.cast_ofNat_Int, simprocAttr, yV]
   refine hK _ ?_; clear hK K
   refine yC rfl ?_
   refine zT ?_; refine zG ?_; refine zG ?_; refine zH ?_; refine zE ?_
   refine yB [0, 3, 4, 5] [296] (by simp only [zZ, zR, zP, zQ, zN, zS, zM, zX, zU, Nat.reduceEqDiff, reduceIte]; exact rfl) ?_
   refine gR 296 rfl (by simp only [gZ, fQ, eB, fE, dX, kX, fL, fM, dZ, fK, fJ, hD, fN, fH, gW, gX, gY, Nat.reduceEqDiff, reduceIte, List.map_cons, List.map_nil, List.map_append]; exact rfl) ?_
   have ht : (aH out).take out.length = aH out := List.take_of_length_le (by rw [yV]; exact Nat.le_refl _)
   refine zJ (fun K hK => ?_); simp (maxSteps := 2000000) (disch := omega) only [push_cast, ↓Int.cast_ofNat_Int, simprocAttr, yV, yU, ht, qAb, List.length_drop]; (repeat refine ⟨by first | omega | decide | ((repeat' apply And.intro) <;> first | omega | decide), ?_⟩); refine hK _ ?_; clear hK K
   refine yB [0, 3, 4, 5, 6] [256] (by simp only [zZ, zR, zP, zQ, zN, zS, zM, zX, zU, Nat.reduceEqDiff, reduceIte]; exact rfl) ?_
   refine gR 256 rfl (by simp only [gZ, fQ, eB, fE, dX, kX, fL, fM, dZ, fK, fJ, hD, fN, fH, gW, gX, gY, Nat.reduceEqDiff, reduceIte, List.map_cons, List.map_nil, List.map_append]; exact rfl) ?_
   refine eQ 13 [(0, some 296), (4, some 296), (10, some 296), (12, some 296)] [[], [(296, aY [])], [(296, aY (out.take k))], [(296, aY (out.take k ++ [t[i]]))], [(296, aY (out.take k ++ [t[i]] ++ out.drop k))]] [] mixed (by kernel_rfl) (by kernel_rfl) rfl (fun K hK K1 hK1 => ?_); simp (maxSteps := 2000000) (disch := omega) only [push_cast, ↓Int.cast_ofNat_Int, simprocAttr, yV, yU, lX, qAb, yW hlt, List.drop_zero]
   have l1 : (out.take k).length ≤ 2097152 := by rw [List.length_take]; omega
   have l2 : (out.take k).length + (out.drop k).length = out.length := by rw [List.length_take, List.length_drop]; omega
   refine ⟨rfl, by show _ * 40 ≤ _; omega, rfl, ⟨of_eq_true (yU [t[i]]), by show _ * 40 ≤ _; omega⟩, by rw [lY], by show _ * 40 ≤ _; omega, by rw [qMe], ?_⟩
   rw [← he]
   refine hK1 _ ?_; clear hK1 K1; with_reducible refine aB ?_; simp (maxSteps := 2000000) (disch := omega) only [push_cast, ↓Int.cast_ofNat_Int, simprocAttr]
   refine hK _ ?_; clear hK K
   refine zB ?_; refine zA ?_
   refine zJ (fun K hK => ?_); simp (maxSteps := 2000000) (disch := omega) only [push_cast, ↓Int.cast_ofNat_Int, simprocAttr]; refine hK _ ?_; clear hK K
   refine zA ?_
   refine ⟨(i + 1, qAm out t[i]), by simp only [zZ, zR, zP, zQ, zN, zS, zM, zX, zU, Nat.reduceEqDiff, reduceIte]; try rfl, ⟨hlt, ?_⟩, by dsimp only; omega⟩
   dsimp only
   rw [List.take_succ_eq_append_getElem hlt, List.foldl_append, ← ho]; rfl
 ·have hii : i = t.length := by omega
  subst hii
  rw [List.take_length] at ho
  rw [ho]
  refine zE ?_; refine zE ?_; refine zJ (fun K hK => ?_); simp (maxSteps := 2000000) (disch := omega) only [push_cast, ↓Int.cast_ofNat_Int, simprocAttr, yV]; refine hK _ ?_; clear hK K
  refine zA ?_
  refine yC rfl ?_
  refine zT ?_; refine zG ?_; refine zG ?_; refine zH ?_; refine zE ?_
  refine zJ (fun K hK => ?_); simp (maxSteps := 2000000) (disch := omega) only [push_cast, ↓Int.cast_ofNat_Int, simprocAttr]; refine hK _ ?_; clear hK K
  refine zA ?_; refine zW ?_
  simp only [yA, yM, yH, yE, aA, aC, yK, yJ, zS, zM, Nat.reduceEqDiff, reduceIte, reduceCtorEq]
  exact qBf rfl (aV _) ⟨rfl, rfl⟩
end Go.Proofs.YtkonlklieacjoaaDoor
