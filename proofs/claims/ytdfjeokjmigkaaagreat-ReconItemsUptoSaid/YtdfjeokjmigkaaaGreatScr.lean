/-
  The reference's kept pairs; the law DiffScripts.
-/
import Derived.Test.YtdfjeokjmigkaaaGreatTab
import Derived.Test.YtdfjeokjmigkaaaGreatSmH
section
set_option linter.unusedSimpArgs false
set_option linter.unusedVariables false
set_option maxRecDepth 20000
namespace Go.Proofs.YtdfjeokjmigkaaaGreat
open Go Go.Eng Go.RowKit Go.DiffM

def qB0 (o : List Nat) : List Int := o.map fun (n : Nat) => (n : Int)
theorem zA1 (o : List Nat) (n : Nat) : qB0 o ++ [(n : Int)] = qB0 (o ++ [n]) := by simp [qB0]
theorem qH0 (o : List Nat) : (qB0 o).length = o.length := by simp [qB0]
set_option maxHeartbeats 2000000 in
theorem zM1 (a b : List ByteArray) (hA : a.length ≤ 400) (hB : b.length ≤ 400) : HFun Tryz.prog 113 [.lst false (aK a), .lst false (aK b)] (fun h st => h = .own 0 ∧ st = [(0, .sl true 3 1 (iD (qB0 (steps a b))))]) := by
 refine eF (N := 93) Tryz.func113 rfl Tryz.ntmps113 Tryz.results113 (by simp) ?_
 refine zE ?_; refine zJ (fun K hK => ?_); simp (disch := omega) only [push_cast, ↓Int.cast_ofNat_Int, simprocAttr]; refine hK _ ?_; clear hK K
 refine zE ?_; refine zJ (fun K hK => ?_); simp (disch := omega) only [push_cast, ↓Int.cast_ofNat_Int, simprocAttr]
 refine hat 88 zV5 (zMx a b hA hB) (.cons (aH (aN _)) (.cons (aH (aN _)) .nil)) ?_
 rintro _ _ ⟨rfl, rfl⟩
 with_reducible refine aB ?_; simp (disch := omega) only [push_cast, ↓Int.cast_ofNat_Int, simprocAttr]
 refine hK _ ?_; clear hK K
 refine zE ?_; refine zJ (fun K hK => ?_); simp (disch := omega) only [push_cast, ↓Int.cast_ofNat_Int, simprocAttr]; refine hK _ ?_; clear hK K
 refine zE ?_; refine zJ (fun K hK => ?_); simp (disch := omega) only [push_cast, ↓Int.cast_ofNat_Int, simprocAttr]; refine hK _ ?_; clear hK K
 refine zE ?_; refine zD ?_
 refine yB [0, 1, 5, 6, 7, 8] [88] (by simp only [zZ, zR, zP, zQ, zN, zS, zM, zX, zU, Nat.reduceEqDiff, reduceIte]; exact rfl) ?_
 refine qE 6 1 3 1 rfl (by simp only [oK, tJ, tK, gQ, fN, gG, fF, kG, gN, jD, gM, gK, iQ, gP, gJ, fM, iL, iN, iM, kF, kP, jC, Nat.reduceBEq, Nat.reduceEqDiff, reduceIte, cond_true, cond_false, List.map_cons, List.map_nil]; exact rfl) ?_
 have hln := nG _ a b (Nat.le_refl _)
 refine bR (fun x : Nat × Nat × List Int => ⟨[(0, .lst false (aK a)), (1, .lst false (aK b)), (5, .own 88), (6, .own 1), (7, .v (.int .i64 x.1)), (8, .v (.int .i64 x.2.1))], [(1, .sl true 3 1 (iD x.2.2)), (88, .sl true 88 1 (tab a b))]⟩)
  (fun x => x.1 ≤ a.length ∧ x.2.1 ≤ b.length ∧ ∃ o, x.2.2 = qB0 o ∧ steps a b = o ++ steps (a.drop x.1) (b.drop x.2.1)) (fun x => a.length - x.1 + (b.length - x.2.1)) [0, 1, 5, 6, 7, 8] [1, 88] (0, 0, []) rfl ⟨Nat.zero_le _, Nat.zero_le _, [], rfl, by simp⟩ ?_
 rintro ⟨i, j, out⟩ ⟨hi, hj, o, ho, hst⟩
 simp only at hi hj ho hst
 have hol : out.length ≤ 800 := by
  have := congrArg List.length hst
  rw [List.length_append] at this
  rw [ho, qH0]; omega
 have next : ∀ (op : Nat) (i' j' : Nat), steps (a.drop i) (b.drop j) = op :: steps (a.drop i') (b.drop j') → ∃ o', out ++ [(op : Int)] = qB0 o' ∧ steps a b = o' ++ steps (a.drop i') (b.drop j') := fun op i' j' h =>
  ⟨o ++ [op], by rw [ho, zA1], by rw [hst, h]; simp⟩
 by_cases hend : i = a.length ∧ j = b.length
 ·obtain ⟨rfl, rfl⟩ := hend
  refine zE ?_; refine zE ?_; refine zJ (fun K hK => ?_); simp (disch := omega) only [push_cast, ↓Int.cast_ofNat_Int, simprocAttr, aF]; refine hK _ ?_; clear hK K
  refine zA ?_
  refine yC rfl ?_
  refine zT ?_; refine zG ?_; refine zG ?_; refine zH ?_; refine zE ?_
  refine zJ (fun K hK => ?_); simp (disch := omega) only [push_cast, ↓Int.cast_ofNat_Int, simprocAttr]; refine hK _ ?_; clear hK K
  refine zA ?_; refine zW ?_
  simp only [yA, yM, yH, yE, aA, aC, yK, yJ, zS, zM, Nat.reduceEqDiff, reduceIte, reduceCtorEq]
  refine lW rfl (qBj _) ⟨rfl, ?_⟩
  rw [qHa _ _ _ _ (Nat.le_refl _) (Nat.le_refl _), List.append_nil] at hst
  rw [hst, ho]
 ·have hin : i < a.length ∨ (a.length ≤ i ∧ j < b.length) := by omega
  rcases hin with hia | ⟨hia, hjb⟩
  all_goals (repeat first | refine zE ?_ | refine zA ?_ | refine zC ?_ | refine zB ?_ | refine zD ?_); refine zJ (fun K hK => ?_); simp (disch := omega) only [push_cast, ↓Int.cast_ofNat_Int, simprocAttr, aF]
  all_goals refine hK _ ?_; clear hK K
  all_goals (repeat first | refine zE ?_ | refine zA ?_ | refine zC ?_ | refine zB ?_ | refine zD ?_)
  all_goals refine yD rfl ?_
  all_goals refine yB [0, 1, 5, 6, 7, 8] [1, 88] (by simp only [zZ, zR, zP, zQ, zN, zS, zM, zX, zU, Nat.reduceEqDiff, reduceIte]; exact rfl) ?_
  ·by_cases hjb : j < b.length
   ·by_cases he : a[i] = b[j]
    ·have he' : decide (a[i] = b[j]) = true := decide_eq_true he
     refine zC ?_; refine zA ?_; refine zD ?_; refine zE ?_; refine HW_drw 21 mixed (by kernel_rfl) (fun K hK => ?_); simp (disch := omega) only [push_cast, ↓Int.cast_ofNat_Int, simprocAttr, aF, bJ, eY, he']
     with_reducible refine aB ?_; simp (disch := omega) only [push_cast, ↓Int.cast_ofNat_Int, simprocAttr]
     refine hK _ ?_; clear hK K
     refine yB [0, 1, 5, 6, 7, 8, 42] [1, 88] (by simp only [zZ, zR, zP, zQ, zN, zS, zM, zX, zU, Nat.reduceEqDiff, reduceIte]; exact rfl) ?_
     skip
     refine yD rfl ?_
     refine zE ?_; refine zJ (fun K hK => ?_); simp (disch := omega) only [push_cast, ↓Int.cast_ofNat_Int, simprocAttr, dW, qAb]; refine hK _ ?_; clear hK K
     refine yB [0, 1, 5, 6, 7, 8] [1, 88] (by simp only [zZ, zR, zP, zQ, zN, zS, zM, zX, zU, Nat.reduceEqDiff, reduceIte]; exact rfl) ?_
     refine zE ?_; refine zJ (fun K hK => ?_); simp (disch := omega) only [push_cast, ↓Int.cast_ofNat_Int, simprocAttr]; refine hK _ ?_; clear hK K
     refine zA ?_; refine zJ (fun K hK => ?_); simp (disch := omega) only [push_cast, ↓Int.cast_ofNat_Int, simprocAttr]; refine hK _ ?_; clear hK K
     refine zB ?_; refine zA ?_
     exact ⟨(i + 1, j + 1, out ++ [0]), rfl, ⟨hia, hjb, next 0 _ _ (qEu a b i j hia hjb he)⟩, by show a.length - (i + 1) + (b.length - (j + 1)) < a.length - i + (b.length - j); omega⟩
    ·have he' : decide (a[i] = b[j]) = false := decide_eq_false he
     refine zC ?_; refine zA ?_; refine zD ?_; refine zE ?_; refine HW_drw 21 mixed (by kernel_rfl) (fun K hK => ?_); simp (disch := omega) only [push_cast, ↓Int.cast_ofNat_Int, simprocAttr, aF, bJ, eY, he']
     with_reducible refine aB ?_; simp (disch := omega) only [push_cast, ↓Int.cast_ofNat_Int, simprocAttr]
     refine hK _ ?_; clear hK K
     refine yB [0, 1, 5, 6, 7, 8, 42] [1, 88] (by simp only [zZ, zR, zP, zQ, zN, zS, zM, zX, zU, Nat.reduceEqDiff, reduceIte]; exact rfl) ?_
     skip
     refine yC rfl ?_
     refine zE ?_; refine zJ (fun K hK => ?_); simp (disch := omega) only [push_cast, ↓Int.cast_ofNat_Int, simprocAttr, aF]; refine hK _ ?_; clear hK K
     refine zA ?_
     refine yC rfl ?_
     refine yB [0, 1, 5, 6, 7, 8] [1, 88] (by simp only [zZ, zR, zP, zQ, zN, zS, zM, zX, zU, Nat.reduceEqDiff, reduceIte]; exact rfl) ?_
     have hx : (rK a b (i + 1))[j]'(by rw [sF]; omega) = ((at2 a b (i + 1) j : Nat) : Int) := qDk _ _ _ _ _
     have hy : (rK a b i)[j + 1]'(by rw [sF]; omega) = ((at2 a b i (j + 1) : Nat) : Int) := qDk _ _ _ _ _
     have l1 := sF a b (i + 1)
     have l2 := sF a b i
     by_cases hc : at2 a b (i + 1) j < at2 a b i (j + 1)
     ·refine zE ?_; refine HW_drw 23 mixed (by kernel_rfl) (fun K hK => ?_); simp (disch := omega) only [push_cast, ↓Int.cast_ofNat_Int, simprocAttr, aF, bJ, qQu, qQv, qQt, dW, gC, fL, hx, hy]
      with_reducible refine aB ?_; simp (disch := omega) only [push_cast, ↓Int.cast_ofNat_Int, simprocAttr]
      refine hK _ ?_; clear hK K
      refine yB [0, 1, 5, 6, 7, 8, 81] [1, 88] (by simp only [zZ, zR, zP, zQ, zN, zS, zM, zX, zU, Nat.reduceEqDiff, reduceIte]; exact rfl) ?_
      skip
      refine yD rfl ?_
      refine zE ?_; refine zJ (fun K hK => ?_); simp (disch := omega) only [push_cast, ↓Int.cast_ofNat_Int, simprocAttr, dW, qAb]; refine hK _ ?_; clear hK K
      refine zA ?_; refine zJ (fun K hK => ?_); simp (disch := omega) only [push_cast, ↓Int.cast_ofNat_Int, simprocAttr]; refine hK _ ?_; clear hK K
      refine zB ?_; refine zA ?_
      exact ⟨(i, j + 1, out ++ [2]), rfl, ⟨hi, hjb, next 2 _ _ (sC a b i j hjb (.inr ⟨hia, he, hc⟩))⟩, by show a.length - i + (b.length - (j + 1)) < a.length - i + (b.length - j); omega⟩
     ·refine zE ?_; refine HW_drw 23 mixed (by kernel_rfl) (fun K hK => ?_); simp (disch := omega) only [push_cast, ↓Int.cast_ofNat_Int, simprocAttr, aF, bJ, qQu, qQv, qQt, dW, gC, fL, hx, hy]
      with_reducible refine aB ?_; simp (disch := omega) only [push_cast, ↓Int.cast_ofNat_Int, simprocAttr]
      refine hK _ ?_; clear hK K
      refine yB [0, 1, 5, 6, 7, 8, 81] [1, 88] (by simp only [zZ, zR, zP, zQ, zN, zS, zM, zX, zU, Nat.reduceEqDiff, reduceIte]; exact rfl) ?_
      skip
      refine yC rfl ?_
      refine zE ?_; refine zJ (fun K hK => ?_); simp (disch := omega) only [push_cast, ↓Int.cast_ofNat_Int, simprocAttr, dW, qAb]; refine hK _ ?_; clear hK K
      refine zA ?_; refine zJ (fun K hK => ?_); simp (disch := omega) only [push_cast, ↓Int.cast_ofNat_Int, simprocAttr]; refine hK _ ?_; clear hK K
      refine zB ?_; refine zA ?_
      exact ⟨(i + 1, j, out ++ [1]), rfl, ⟨hia, hj, next 1 _ _ (pB a b i j hia (.inr ⟨hjb, he, by omega⟩))⟩, by show a.length - (i + 1) + (b.length - j) < a.length - i + (b.length - j); omega⟩
   ·refine zC ?_; refine zA ?_; refine zD ?_; refine zE ?_; refine HW_drw 21 mixed (by kernel_rfl) (fun K hK => ?_); simp (disch := omega) only [push_cast, ↓Int.cast_ofNat_Int, simprocAttr, aF, bJ, eY]
    with_reducible refine aB ?_; simp (disch := omega) only [push_cast, ↓Int.cast_ofNat_Int, simprocAttr]
    refine hK _ ?_; clear hK K
    refine yB [0, 1, 5, 6, 7, 8, 42] [1, 88] (by simp only [zZ, zR, zP, zQ, zN, zS, zM, zX, zU, Nat.reduceEqDiff, reduceIte]; exact rfl) ?_
    skip
    refine yC rfl ?_
    refine zE ?_; refine zJ (fun K hK => ?_); simp (disch := omega) only [push_cast, ↓Int.cast_ofNat_Int, simprocAttr, aF]; refine hK _ ?_; clear hK K
    refine zA ?_
    refine yD rfl ?_
    refine zE ?_; refine zJ (fun K hK => ?_); simp (disch := omega) only [push_cast, ↓Int.cast_ofNat_Int, simprocAttr, dW, qAb]; refine hK _ ?_; clear hK K
    refine zA ?_; refine zJ (fun K hK => ?_); simp (disch := omega) only [push_cast, ↓Int.cast_ofNat_Int, simprocAttr]; refine hK _ ?_; clear hK K
    refine zB ?_; refine zA ?_
    exact ⟨(i + 1, j, out ++ [1]), rfl, ⟨hia, hj, next 1 _ _ (pB a b i j hia (.inl (by omega)))⟩, by show a.length - (i + 1) + (b.length - j) < a.length - i + (b.length - j); omega⟩
  ·refine zC ?_; refine zA ?_; refine zD ?_; refine zE ?_; refine HW_drw 21 mixed (by kernel_rfl) (fun K hK => ?_); simp (disch := omega) only [push_cast, ↓Int.cast_ofNat_Int, simprocAttr, aF, bJ, eY]
   with_reducible refine aB ?_; simp (disch := omega) only [push_cast, ↓Int.cast_ofNat_Int, simprocAttr]
   refine hK _ ?_; clear hK K
   refine yB [0, 1, 5, 6, 7, 8, 42] [1, 88] (by simp only [zZ, zR, zP, zQ, zN, zS, zM, zX, zU, Nat.reduceEqDiff, reduceIte]; exact rfl) ?_
   skip
   refine yC rfl ?_
   refine zE ?_; refine zJ (fun K hK => ?_); simp (disch := omega) only [push_cast, ↓Int.cast_ofNat_Int, simprocAttr, aF]; refine hK _ ?_; clear hK K
   refine zA ?_
   refine yC rfl ?_
   refine yB [0, 1, 5, 6, 7, 8] [1, 88] (by simp only [zZ, zR, zP, zQ, zN, zS, zM, zX, zU, Nat.reduceEqDiff, reduceIte]; exact rfl) ?_
   refine zE ?_; refine HW_drw 23 mixed (by kernel_rfl) (fun K hK => ?_); simp (disch := omega) only [push_cast, ↓Int.cast_ofNat_Int, simprocAttr, aF, bJ, qQu, qQv, qQt, dW, gC, fL]
   with_reducible refine aB ?_; simp (disch := omega) only [push_cast, ↓Int.cast_ofNat_Int, simprocAttr]
   refine hK _ ?_; clear hK K
   refine yB [0, 1, 5, 6, 7, 8, 81] [1, 88] (by simp only [zZ, zR, zP, zQ, zN, zS, zM, zX, zU, Nat.reduceEqDiff, reduceIte]; exact rfl) ?_
   skip
   refine yD rfl ?_
   refine zE ?_; refine zJ (fun K hK => ?_); simp (disch := omega) only [push_cast, ↓Int.cast_ofNat_Int, simprocAttr, dW, qAb]; refine hK _ ?_; clear hK K
   refine zA ?_; refine zJ (fun K hK => ?_); simp (disch := omega) only [push_cast, ↓Int.cast_ofNat_Int, simprocAttr]; refine hK _ ?_; clear hK K
   refine zB ?_; refine zA ?_
   exact ⟨(i, j + 1, out ++ [2]), rfl, ⟨hi, hjb, next 2 _ _ (sC a b i j hjb (.inl hia))⟩, by show a.length - i + (b.length - (j + 1)) < a.length - i + (b.length - j); omega⟩
end Go.Proofs.YtdfjeokjmigkaaaGreat
end
section
set_option linter.unusedSimpArgs false
set_option linter.unusedVariables false
set_option maxRecDepth 20000
namespace Go.Proofs.YtdfjeokjmigkaaaGreat
open Go Go.Eng Go.RowKit Go.DiffM

theorem qH1 {s : List Nat} {i : Nat} {d : List FV} (h : i < s.length) : (iD (qB0 s)).getD i d = [.v (.int .i64 (s[i] : Nat))] := by
 rw [gC (by rw [qH0]; exact h)]; simp [qB0]
theorem qD8 (s : List Nat) : (iD (qB0 s)).length = s.length := by rw [dW, qH0]
end Go.Proofs.YtdfjeokjmigkaaaGreat
end
section
set_option linter.unusedSimpArgs false
set_option linter.unusedVariables false
set_option maxRecDepth 20000
namespace Go.Proofs.YtdfjeokjmigkaaaGreat
open Go Go.Eng Go.RowKit Go.DiffM

set_option maxHeartbeats 2000000 in
theorem qPp (a b : List ByteArray) : HFun Tryz.prog 89 [.lst false (aK a), .lst false (aK b)] (fun h st =>
    (400 < a.length ∨ 400 < b.length) ∧ h = .tup [.v (.slice none 0 0), .v (.int .i64 4)] ∧ st = [] ∨
    a.length ≤ 400 ∧ b.length ≤ 400 ∧ h = .tup [.own 0, .v (.int .i64 0)] ∧ st = [(0, qHe (qP3 a b))]) := by
  refine eF (N := 54) Tryz.func89 rfl Tryz.ntmps89 Tryz.results89 (by simp) ?_
  refine zMi 0 rfl (fun h1 => ?_)
  refine zMi 1 rfl (fun h2 => ?_)
  rw [aF] at h1 h2
  refine zE ?_; refine zJ (fun K hK => ?_); simp (disch := omega) only [push_cast, ↓Int.cast_ofNat_Int, simprocAttr]; refine hK _ ?_; clear hK K
  by_cases hlim : 400 < a.length ∨ 400 < b.length
  · have hcs : 400 < a.length ∨ (a.length ≤ 400 ∧ 400 < b.length) := by omega
    rcases hcs with c1 | ⟨c1, c2⟩
    all_goals
      (repeat first | refine zE ?_ | refine zA ?_ | refine zC ?_ | refine zB ?_ | refine zD ?_); refine zJ (fun K hK => ?_); simp (disch := omega) only [push_cast, ↓Int.cast_ofNat_Int, simprocAttr, aF]
      refine hK _ ?_; clear hK K
      (repeat first | refine zE ?_ | refine zA ?_ | refine zC ?_ | refine zB ?_ | refine zD ?_)
      refine yD rfl ?_
      (repeat first | refine zE ?_ | refine zA ?_ | refine zC ?_ | refine zB ?_ | refine zD ?_); refine zJ (fun K hK => ?_); simp (disch := omega) only [push_cast, ↓Int.cast_ofNat_Int, simprocAttr]; refine hK _ ?_; clear hK K
      (repeat first | refine zK ?_ | refine zG ?_ | refine zH ?_ | refine zF rfl ?_ | refine zL ?_ | refine zB ?_ | refine zE ?_ | refine zA ?_ | refine zC ?_ | refine zT ?_ | refine zW ?_)
      simp only [yA, yM, yH, yE, aA, aC, yK, yJ, zS, zM, Nat.reduceEqDiff, reduceIte, reduceCtorEq]
      exact mT (.inl ⟨hlim, rfl, rfl⟩)
  · have hA : a.length ≤ 400 := by omega
    have hB : b.length ≤ 400 := by omega
    refine zE ?_; refine zE ?_; refine zJ (fun K hK => ?_); simp (disch := omega) only [push_cast, ↓Int.cast_ofNat_Int, simprocAttr, aF]
    refine hK _ ?_; clear hK K
    refine zA ?_
    refine yC rfl ?_
    refine yB [0, 1, 4, 5] [] (by simp only [zZ, zR, zP, zQ, zN, zS, zM, zX, zU, Nat.reduceEqDiff, reduceIte]; exact rfl) ?_
    refine zC ?_; refine zE ?_; refine zJ (fun K hK => ?_); simp (disch := omega) only [push_cast, ↓Int.cast_ofNat_Int, simprocAttr]
    refine hat 168 zV8 (zM1 a b hA hB) (.cons (aH (aN _)) (.cons (aH (aN _)) .nil)) ?_
    rintro _ _ ⟨rfl, rfl⟩
    with_reducible refine aB ?_; simp (disch := omega) only [push_cast, ↓Int.cast_ofNat_Int, simprocAttr]
    refine hK _ ?_; clear hK K
    refine zE ?_; refine zJ (fun K hK => ?_); simp (disch := omega) only [push_cast, ↓Int.cast_ofNat_Int, simprocAttr]; refine hK _ ?_; clear hK K
    refine zE ?_; refine zJ (fun K hK => ?_); simp (disch := omega) only [push_cast, ↓Int.cast_ofNat_Int, simprocAttr]; refine hK _ ?_; clear hK K
    refine zE ?_; refine zE ?_; refine zJ (fun K hK => ?_); simp (disch := omega) only [push_cast, ↓Int.cast_ofNat_Int, simprocAttr]; refine hK _ ?_; clear hK K
    refine yB [6, 7, 8, 9, 10] [168] (by simp only [zZ, zR, zP, zQ, zN, zS, zM, zX, zU, Nat.reduceEqDiff, reduceIte]; exact rfl) ?_
    refine qE 7 1 112 2 rfl (by simp only [oK, tJ, tK, gQ, fN, gG, fF, kG, gN, jD, gM, gK, iQ, gP, gJ, fM, iL, iN, iM, kF, kP, jC, Nat.reduceBEq, Nat.reduceEqDiff, reduceIte, cond_true, cond_false, List.map_cons, List.map_nil]; exact rfl) ?_
    have hsl : (steps a b).length ≤ 800 := by have := nG _ a b (Nat.le_refl _); omega
    rw [← zB1]
    generalize steps a b = s at *
    have hP : nM s 0 0 = [] ++ nM (s.drop 0) 0 0 := rfl
    generalize nM s 0 0 = P at *
    refine zD ?_
    refine bR (fun x : Nat × Nat × Nat × List (Int × Int) => ⟨[(6, .own 168), (7, .own 1), (8, .v (.int .i64 x.2.1)), (9, .v (.int .i64 x.2.2.1)), (10, .v (.int .i64 x.1))], [(1, qHe x.2.2.2), (168, .sl true 3 1 (iD (qB0 s)))]⟩)
      (fun x => x.1 ≤ s.length ∧ x.2.1 ≤ x.1 ∧ x.2.2.1 ≤ x.1 ∧ x.2.2.2.length ≤ x.1 ∧ P = x.2.2.2 ++ nM (s.drop x.1) x.2.1 x.2.2.1) (fun x => s.length - x.1) [6, 7, 8, 9, 10] [1, 168] (0, 0, 0, []) rfl ⟨Nat.zero_le _, Nat.le_refl _, Nat.le_refl _, Nat.le_refl _, hP⟩ ?_
    clear hP
    rintro ⟨k, i, j, o⟩ ⟨hk, hi, hj, ho, hP⟩
    simp only at hk hi hj ho hP
    refine zE ?_; refine zE ?_; refine zJ (fun K hK => ?_); simp (disch := omega) only [push_cast, ↓Int.cast_ofNat_Int, simprocAttr, qD8]; refine hK _ ?_; clear hK K
    refine zA ?_
    refine eQ rfl (fun hlt => ?_) (fun hge => ?_)
    · have hks : k < s.length := by simpa using hlt
      rw [List.drop_eq_getElem_cons hks, nM] at hP
      have hcs : s[k] = 0 ∨ s[k] = 1 ∨ s[k] = 2 ∨ 2 < s[k] := by omega
      rcases hcs with c1 | c1 | c1 | c1
      all_goals
        (repeat first | refine zE ?_ | refine zA ?_ | refine zC ?_ | refine zB ?_ | refine zD ?_); refine zJ (fun K hK => ?_); simp (disch := omega) only [push_cast, ↓Int.cast_ofNat_Int, simprocAttr, qD8, qH1, fL]; refine hK _ ?_; clear hK K
        refine yB [6, 7, 8, 9, 10, 32] [1, 168] (by simp only [zZ, zR, zP, zQ, zN, zS, zM, zX, zU, Nat.reduceEqDiff, reduceIte]; exact rfl) ?_
        (repeat first | refine zE ?_ | refine zA ?_ | refine zC ?_ | refine zB ?_ | refine zD ?_)
        first
          | (refine yC rfl ?_)
          | (refine yD rfl ?_
             refine zJ (fun K hK => ?_); simp (disch := omega) only [push_cast, ↓Int.cast_ofNat_Int, simprocAttr, pQ, qL9]; refine hK _ ?_; clear hK K)
        (repeat first | refine zE ?_ | refine zA ?_ | refine zC ?_ | refine zB ?_ | refine zD ?_); refine zJ (fun K hK => ?_); simp (disch := omega) only [push_cast, ↓Int.cast_ofNat_Int, simprocAttr, qD8, qH1, fL]; refine hK _ ?_; clear hK K
        refine yB [6, 7, 8, 9, 10, 43] [1, 168] (by simp only [zZ, zR, zP, zQ, zN, zS, zM, zX, zU, Nat.reduceEqDiff, reduceIte]; exact rfl) ?_
        (repeat first | refine zE ?_ | refine zA ?_ | refine zC ?_ | refine zB ?_ | refine zD ?_)
        first
          | (refine yC rfl ?_)
          | (refine yD rfl ?_
             (repeat first | refine zE ?_ | refine zA ?_ | refine zC ?_ | refine zB ?_ | refine zD ?_); refine zJ (fun K hK => ?_); simp (disch := omega) only [push_cast, ↓Int.cast_ofNat_Int, simprocAttr]; refine hK _ ?_; clear hK K)
        (repeat first | refine zE ?_ | refine zA ?_ | refine zC ?_ | refine zB ?_ | refine zD ?_); refine zJ (fun K hK => ?_); simp (disch := omega) only [push_cast, ↓Int.cast_ofNat_Int, simprocAttr, qD8, qH1, fL]; refine hK _ ?_; clear hK K
        refine yB [6, 7, 8, 9, 10, 50] [1, 168] (by simp only [zZ, zR, zP, zQ, zN, zS, zM, zX, zU, Nat.reduceEqDiff, reduceIte]; exact rfl) ?_
        (repeat first | refine zE ?_ | refine zA ?_ | refine zC ?_ | refine zB ?_ | refine zD ?_)
        first
          | (refine yC rfl ?_)
          | (refine yD rfl ?_
             (repeat first | refine zE ?_ | refine zA ?_ | refine zC ?_ | refine zB ?_ | refine zD ?_); refine zJ (fun K hK => ?_); simp (disch := omega) only [push_cast, ↓Int.cast_ofNat_Int, simprocAttr]; refine hK _ ?_; clear hK K)
        (repeat first | refine zK ?_ | refine zG ?_ | refine zH ?_ | refine zF rfl ?_ | refine zL ?_ | refine zB ?_ | refine zE ?_ | refine zA ?_ | refine zC ?_ | refine zT ?_ | refine zW ?_)
        (repeat first | refine zE ?_ | refine zA ?_ | refine zC ?_ | refine zB ?_ | refine zD ?_); refine zJ (fun K hK => ?_); simp (disch := omega) only [push_cast, ↓Int.cast_ofNat_Int, simprocAttr]; refine hK _ ?_; clear hK K
      · exact zA ⟨(k + 1, i + 1, j + 1, o ++ [((i : Int), (j : Int))]), rfl, ⟨hks, by show i + 1 ≤ k + 1; omega, by show j + 1 ≤ k + 1; omega, by simp; omega, by rw [hP, if_pos c1, if_neg (by omega), if_neg (by omega), List.append_assoc]⟩, by show s.length - (k + 1) < s.length - k; omega⟩
      · exact zA ⟨(k + 1, i + 1, j, o), rfl, ⟨hks, by show i + 1 ≤ k + 1; omega, by show j ≤ k + 1; omega, by show o.length ≤ k + 1; omega, by rw [hP, if_neg (by omega), if_neg (by omega), if_pos c1, List.nil_append]⟩, by show s.length - (k + 1) < s.length - k; omega⟩
      · exact zA ⟨(k + 1, i, j + 1, o), rfl, ⟨hks, by show i ≤ k + 1; omega, by show j + 1 ≤ k + 1; omega, by show o.length ≤ k + 1; omega, by rw [hP, if_neg (by omega), if_pos c1, if_neg (by omega), List.nil_append]⟩, by show s.length - (k + 1) < s.length - k; omega⟩
      · exact zA ⟨(k + 1, i + 1, j + 1, o), rfl, ⟨hks, by show i + 1 ≤ k + 1; omega, by show j + 1 ≤ k + 1; omega, by show o.length ≤ k + 1; omega, by rw [hP, if_neg (by omega), if_neg (by omega), if_neg (by omega), List.nil_append]⟩, by show s.length - (k + 1) < s.length - k; omega⟩
    · have hge' : k = s.length := by have : s.length ≤ k := by simpa using hge
                                     omega
      subst hge'
      refine zT ?_; refine zG ?_; refine zG ?_; refine zH ?_; refine zE ?_
      refine zJ (fun K hK => ?_); simp (disch := omega) only [push_cast, ↓Int.cast_ofNat_Int, simprocAttr]; refine hK _ ?_; clear hK K
      refine zA ?_; refine zW ?_
      simp only [yA, yM, yH, yE, aA, aC, yK, yJ, zS, zM, Nat.reduceEqDiff, reduceIte, reduceCtorEq]
      refine qBk rfl (qJp _) (.inr ⟨hA, hB, rfl, ?_⟩)
      rw [hP, List.drop_eq_nil_of_le (Nat.le_refl _), nM, List.append_nil]
end Go.Proofs.YtdfjeokjmigkaaaGreat
end
