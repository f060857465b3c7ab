/-
  The plain part of diff: the longest common row behind each bF, the steps of the fT, their zFb.
-/
import Derived.Test.YtdfjeokjmigkaaaGreatRcH
section
set_option linter.unusedSimpArgs false
set_option linter.unusedVariables false
set_option maxRecDepth 20000
namespace Go.Rc
open Go Go.Eng Go.RowKit Go.Tr Go.Dk
def gK (a : Int × ByteArray) : ByteArray := if a.1 = 2 then a.2 else { data := #[] }
def qZ (h s : Int × ByteArray) (T : ByteArray) (N E : Int) : ByteArray × Int × Int :=
 if h.1 = 2 ∧ s.1 = 2 then (if E = 0 then (if 4096 < T.size then ({ data := #[] }, 0, 4) else (T, N, 0)) else ({ data := #[] }, 0, E)) else ({ data := #[] }, 0, 12)
def okM (m : ByteArray × Int × Int) : Bool := decide (m.2.2 = 0) && !decide (0 < m.2.1)
theorem qP2 {S : HS} {n : Int × ByteArray} {b : Value} {Q : HV → aB → Prop} (q : Q (.tup [iL n, .v b]) []) : qF9 S (.tup [iL n, .v b]) Q :=
 ⟨[], by simp, rfl, .tup fun x hx => by
  simp only [List.mem_cons, List.not_mem_nil, or_false] at hx
  rcases hx with rfl | rfl
  ·exact .agg fun x hx => by simp at hx; rcases hx with rfl | rfl <;> exact .v _
  ·exact .v _, fun id h => by simp at h, by simpa [HV.ren, kL] using q⟩
end Go.Rc
namespace Go.Proofs.YtdfjeokjmigkaaaGreat
open Go Go.Eng Go.RowKit Go.Tr Go.Dk Go.Rc
set_option maxHeartbeats 4000000 in
theorem zGe (a h s : Int × ByteArray) (T : ByteArray) (N E : Int)
  (cm : HFun Tryz.prog 32 [.v (.string (gK a)), .v (.string h.2), .v (.string s.2)] (fun r st => r = .tup ([.string T, .int .i64 N, .int .i64 E].map .v))) :
  HFun Tryz.prog 19 [iL a, iL h, iL s] (fun r st => r = .tup ([.string (qZ h s T N E).1, .int .i64 (qZ h s T N E).2.1, .int .i64 (qZ h s T N E).2.2].map .v)) := by
 refine eM (N := 45) Tryz.func19 rfl Tryz.ntmps19 Tryz.results19 (by simp) ?_
 obtain ⟨ka, da⟩ := a
 obtain ⟨kh, dh⟩ := h
 obtain ⟨ks, ds⟩ := s
 obtain ⟨B, hB⟩ : ∃ B, gK (ka, da) = B := ⟨_, rfl⟩
 rw [hB] at cm
 dsimp only at cm
 refine zE ?_; refine zJ (fun K hK => ?_); simp (disch := omega) only [push_cast, ↓Int.cast_ofNat_Int, simprocAttr]; refine hK _ ?_; clear hK K
 by_cases h1 : kh = 2
 ·subst h1
  by_cases h2 : ks = 2
  ·subst h2
   have hmk : qZ (2, dh) (2, ds) T N E = (if E = 0 then (if 4096 < T.size then ({ data := #[] }, 0, 4) else (T, N, 0)) else ({ data := #[] }, 0, E)) := by rw [qZ, if_pos ⟨rfl, rfl⟩]
   rw [hmk]
   refine zE ?_; refine zE ?_; refine zJ (fun K hK => ?_); simp (disch := omega) only [push_cast, ↓Int.cast_ofNat_Int, simprocAttr]; (repeat refine ⟨by first | omega | decide | ((repeat' apply And.intro) <;> first | omega | decide), ?_⟩); refine hK _ ?_; clear hK K
   refine zA ?_
   refine yC rfl ?_
   refine zC ?_; refine zE ?_
   refine zJ (fun K hK => ?_); simp (disch := omega) only [push_cast, ↓Int.cast_ofNat_Int, simprocAttr]; refine hK _ ?_; clear hK K
   refine zE ?_; refine zE ?_; refine zJ (fun K hK => ?_); simp (disch := omega) only [push_cast, ↓Int.cast_ofNat_Int, simprocAttr]; (repeat refine ⟨by first | omega | decide | ((repeat' apply And.intro) <;> first | omega | decide), ?_⟩); refine hK _ ?_; clear hK K
   refine zA ?_
   refine qAb (fun _ : Unit => ⟨[(4, .ptr 32 2 0 0), (5, .ptr 40 2 0 0), (6, .v (.string { data := #[] })), (7, .v (.int .i64 0)), (8, .v (.int .i64 0)), (9, .v (.string B))], [(32, .bx true 33 [.v (.int .i64 2), .v (.string dh)]), (40, .bx true 33 [.v (.int .i64 2), .v (.string ds)])]⟩) (fun _ => True) [4, 5, 6, 7, 8, 9] [32, 40] ?_ ?_
   ·by_cases h3 : ka = 2
    ·subst h3
     refine eD rfl (fun _ => ?_) (fun hf => by simp at hf)
     have hB2 : da = B := hB
     subst hB2
     refine zJ (fun K hK => ?_); simp (disch := omega) only [push_cast, ↓Int.cast_ofNat_Int, simprocAttr]; (repeat refine ⟨by first | omega | decide | ((repeat' apply And.intro) <;> first | omega | decide), ?_⟩); refine hK _ ?_; clear hK K
     exact ⟨(), by simp only [zZ, zR, zP, zQ, zN, zS, zM, zX, zU, Nat.reduceEqDiff, reduceIte]; try rfl, trivial⟩
    ·refine eD rfl (fun ht => by simp [h3] at ht) (fun _ => ?_)
     have hB2 : B = { data := #[] } := by rw [← hB, gK, if_neg h3]
     subst hB2
     refine zC ?_
     exact ⟨(), by simp only [zZ, zR, zP, zQ, zN, zS, zM, zX, zU, Nat.reduceEqDiff, reduceIte]; try rfl, trivial⟩
   intro S' _ hE _
   refine zE ?_
   refine yB [4, 5, 6, 7, 8, 9] [32, 40] hE ?_
   clear hE
   refine zJ (fun K hK => ?_); simp (disch := omega) only [push_cast, ↓Int.cast_ofNat_Int, simprocAttr]
   refine qSv zVt cm (.cons (.v _) (.cons (.v _) (.cons (.v _) .nil))) ?_
   with_reducible refine aC ?_; simp (disch := omega) only [push_cast, ↓Int.cast_ofNat_Int, simprocAttr]
   refine hK _ ?_; clear hK K
   refine yB [6, 7, 8, 10, 11] [] (by simp only [zZ, zR, zP, zQ, zN, zS, zM, zX, zU, Nat.reduceEqDiff, reduceIte]; exact rfl) ?_
   refine zE ?_; refine zD ?_; refine zE ?_
   by_cases h4 : E = 0
   ·subst h4
    rw [if_pos rfl]
    refine zJ (fun K hK => ?_); simp (disch := omega) only [push_cast, ↓Int.cast_ofNat_Int, simprocAttr]; (repeat refine ⟨by first | omega | decide | ((repeat' apply And.intro) <;> first | omega | decide), ?_⟩); refine hK _ ?_; clear hK K
    refine zA ?_
    refine yC rfl ?_
    by_cases h5 : 4096 < T.size
    ·rw [if_pos h5]
     refine zE ?_; refine zJ (fun K hK => ?_); simp (disch := omega) only [push_cast, ↓Int.cast_ofNat_Int, simprocAttr]; (repeat refine ⟨by first | omega | decide | ((repeat' apply And.intro) <;> first | omega | decide), ?_⟩); refine hK _ ?_; clear hK K
     refine zA ?_
     refine eD rfl (fun _ => ?_) (fun hf => by simp at hf <;> omega)
     refine zE ?_; refine zJ (fun K hK => ?_); simp (disch := omega) only [push_cast, ↓Int.cast_ofNat_Int, simprocAttr]; refine hK _ ?_; clear hK K
     refine zA ?_; refine zW ?_; refine zL ?_; refine zK ?_
     simp only [yA, yM, yH, yE, aA, aD, yK, yJ, zS, zM, Nat.reduceEqDiff, reduceIte, reduceCtorEq]
     exact kP rfl
    ·rw [if_neg h5]
     refine zE ?_; refine zJ (fun K hK => ?_); simp (disch := omega) only [push_cast, ↓Int.cast_ofNat_Int, simprocAttr]; (repeat refine ⟨by first | omega | decide | ((repeat' apply And.intro) <;> first | omega | decide), ?_⟩); refine hK _ ?_; clear hK K
     refine zA ?_
     refine eD rfl (fun ht => by simp at ht <;> omega) (fun _ => ?_)
     refine zC ?_; refine zB ?_; refine zE ?_
     refine zJ (fun K hK => ?_); simp (disch := omega) only [push_cast, ↓Int.cast_ofNat_Int, simprocAttr]; refine hK _ ?_; clear hK K
     refine zA ?_; refine zW ?_
     simp only [yA, yM, yH, yE, aA, aD, yK, yJ, zS, zM, Nat.reduceEqDiff, reduceIte, reduceCtorEq]
     exact kP rfl
   ·have d4 : decide (E = 0) = false := decide_eq_false h4
    rw [if_neg h4]
    refine zJ (fun K hK => ?_); simp (disch := omega) only [push_cast, ↓Int.cast_ofNat_Int, simprocAttr, d4]; (repeat refine ⟨by first | omega | decide | ((repeat' apply And.intro) <;> first | omega | decide), ?_⟩); refine hK _ ?_; clear hK K
    refine zA ?_
    refine yD rfl ?_
    refine zE ?_; refine zJ (fun K hK => ?_); simp (disch := omega) only [push_cast, ↓Int.cast_ofNat_Int, simprocAttr]; refine hK _ ?_; clear hK K
    refine zA ?_; refine zW ?_; refine zL ?_; refine zK ?_
    simp only [yA, yM, yH, yE, aA, aD, yK, yJ, zS, zM, Nat.reduceEqDiff, reduceIte, reduceCtorEq]
    exact kP rfl
  ·have d2 : decide (ks = 2) = false := decide_eq_false h2
   have hmk : qZ (2, dh) (ks, ds) T N E = ({ data := #[] }, 0, 12) := by rw [qZ, if_neg fun h => h2 h.2]
   rw [hmk]
   refine zE ?_; refine zE ?_; refine zJ (fun K hK => ?_); simp (disch := omega) only [push_cast, ↓Int.cast_ofNat_Int, simprocAttr, d2]; (repeat refine ⟨by first | omega | decide | ((repeat' apply And.intro) <;> first | omega | decide), ?_⟩); refine hK _ ?_; clear hK K
   refine zA ?_
   refine yD rfl ?_
   refine zE ?_; refine zJ (fun K hK => ?_); simp (disch := omega) only [push_cast, ↓Int.cast_ofNat_Int, simprocAttr]; refine hK _ ?_; clear hK K
   refine zA ?_; refine zW ?_; refine zK ?_
   simp only [yA, yM, yH, yE, aA, aD, yK, yJ, zS, zM, Nat.reduceEqDiff, reduceIte, reduceCtorEq]
   exact kP rfl
 ·have d1 : decide (kh = 2) = false := decide_eq_false h1
  have hmk : qZ (kh, dh) (ks, ds) T N E = ({ data := #[] }, 0, 12) := by rw [qZ, if_neg fun h => h1 h.1]
  rw [hmk]
  refine zE ?_; refine zE ?_; refine zJ (fun K hK => ?_); simp (disch := omega) only [push_cast, ↓Int.cast_ofNat_Int, simprocAttr, d1]; (repeat refine ⟨by first | omega | decide | ((repeat' apply And.intro) <;> first | omega | decide), ?_⟩); refine hK _ ?_; clear hK K
  refine zA ?_
  refine yD rfl ?_
  refine zE ?_; refine zJ (fun K hK => ?_); simp (disch := omega) only [push_cast, ↓Int.cast_ofNat_Int, simprocAttr]; refine hK _ ?_; clear hK K
  refine zA ?_; refine zW ?_; refine zK ?_
  simp only [yA, yM, yH, yE, aA, aD, yK, yJ, zS, zM, Nat.reduceEqDiff, reduceIte, reduceCtorEq]
  exact kP rfl
set_option maxHeartbeats 1000000 in
theorem zB2 (a h s : Int × ByteArray) (T : ByteArray) (N E : Int)
  (cm : HFun Tryz.prog 32 [.v (.string (gK a)), .v (.string h.2), .v (.string s.2)] (fun r st => r = .tup ([.string T, .int .i64 N, .int .i64 E].map .v))) :
  HFun Tryz.prog 17 [iL a, iL h, iL s] (fun r st => r = .tup [iL (if okM (qZ h s T N E) = true then (2, (qZ h s T N E).1) else (0, { data := #[] })), .v (.bool (okM (qZ h s T N E)))] ∧ st = []) := by
 refine eM (N := 28) Tryz.func17 rfl Tryz.ntmps17 Tryz.results17 (by simp) ?_
 have c := zGe a h s T N E cm
 obtain ⟨ka, da⟩ := a
 obtain ⟨kh, dh⟩ := h
 obtain ⟨ks, ds⟩ := s
 generalize qZ (kh, dh) (ks, ds) T N E = m at c ⊢
 obtain ⟨t, n, e⟩ := m
 dsimp only at c ⊢
 refine zE ?_; refine zJ (fun K hK => ?_); simp (disch := omega) only [push_cast, ↓Int.cast_ofNat_Int, simprocAttr]; refine hK _ ?_; clear hK K
 refine zE ?_; refine zJ (fun K hK => ?_); simp (disch := omega) only [push_cast, ↓Int.cast_ofNat_Int, simprocAttr]
 refine qSv zVu c (.cons (gU (ka, da)) (.cons (gU (kh, dh)) (.cons (gU (ks, ds)) .nil))) ?_
 with_reducible refine aC ?_; simp (disch := omega) only [push_cast, ↓Int.cast_ofNat_Int, simprocAttr]
 refine hK _ ?_; clear hK K
 by_cases h1 : e = 0
 ·subst h1
  by_cases h2 : 0 < n
  ·have d2 : decide (0 < n) = true := decide_eq_true h2
   have ho : okM (t, n, 0) = false := by simp [okM, h2]
   rw [ho]
   refine zE ?_; refine zE ?_; refine zJ (fun K hK => ?_); simp (disch := omega) only [push_cast, ↓Int.cast_ofNat_Int, simprocAttr, d2]; (repeat refine ⟨by first | omega | decide | ((repeat' apply And.intro) <;> first | omega | decide), ?_⟩); refine hK _ ?_; clear hK K
   refine zA ?_
   refine yD rfl ?_
   refine zE ?_; refine zJ (fun K hK => ?_); simp (disch := omega) only [push_cast, ↓Int.cast_ofNat_Int, simprocAttr]; (repeat refine ⟨by first | omega | decide | ((repeat' apply And.intro) <;> first | omega | decide), ?_⟩); refine hK _ ?_; clear hK K
   refine zA ?_; refine zW ?_; refine zK ?_
   simp (disch := omega) only [yA, yM, yH, yE, aA, aD, yK, yJ, push_cast, ↓Int.cast_ofNat_Int, Nat.reduceBEq, Nat.reduceAdd, Nat.reduceLT, Nat.reduceEqDiff, reduceIte, reduceCtorEq, Nat.reduceLeDiff, Nat.reduceSub, List.reduceReplicate, Nat.reduceMul, Int.reduceToNat, Int.toNat_natCast, Nat.reducePow, reduceIte]
   exact qP2 (n := (0, { data := #[] })) ⟨rfl, rfl⟩
  ·have d2 : decide (0 < n) = false := decide_eq_false h2
   have ho : okM (t, n, 0) = true := by simp [okM]; omega
   rw [ho]
   refine zE ?_; refine zE ?_; refine zJ (fun K hK => ?_); simp (disch := omega) only [push_cast, ↓Int.cast_ofNat_Int, simprocAttr, d2]; (repeat refine ⟨by first | omega | decide | ((repeat' apply And.intro) <;> first | omega | decide), ?_⟩); refine hK _ ?_; clear hK K
   refine zA ?_
   refine yC rfl ?_
   refine zC ?_; refine zE ?_
   refine zJ (fun K hK => ?_); simp (disch := omega) only [push_cast, ↓Int.cast_ofNat_Int, simprocAttr]; (repeat refine ⟨by first | omega | decide | ((repeat' apply And.intro) <;> first | omega | decide), ?_⟩); refine hK _ ?_; clear hK K
   refine zA ?_; refine zW ?_
   simp (disch := omega) only [yA, yM, yH, yE, aA, aD, yK, yJ, push_cast, ↓Int.cast_ofNat_Int, Nat.reduceBEq, Nat.reduceAdd, Nat.reduceLT, Nat.reduceEqDiff, reduceIte, reduceCtorEq, Nat.reduceLeDiff, Nat.reduceSub, List.reduceReplicate, Nat.reduceMul, Int.reduceToNat, Int.toNat_natCast, Nat.reducePow, reduceIte]
   exact qP2 (n := (2, t)) ⟨rfl, rfl⟩
 ·have d1 : decide (e = 0) = false := decide_eq_false h1
  have ho : okM (t, n, e) = false := by simp [okM, h1]
  rw [ho]
  refine zE ?_; refine zE ?_; refine zJ (fun K hK => ?_); simp (disch := omega) only [push_cast, ↓Int.cast_ofNat_Int, simprocAttr, d1]; (repeat refine ⟨by first | omega | decide | ((repeat' apply And.intro) <;> first | omega | decide), ?_⟩); refine hK _ ?_; clear hK K
  refine zA ?_
  refine yD rfl ?_
  refine zE ?_; refine zJ (fun K hK => ?_); simp (disch := omega) only [push_cast, ↓Int.cast_ofNat_Int, simprocAttr]; (repeat refine ⟨by first | omega | decide | ((repeat' apply And.intro) <;> first | omega | decide), ?_⟩); refine hK _ ?_; clear hK K
  refine zA ?_; refine zW ?_; refine zK ?_
  simp (disch := omega) only [yA, yM, yH, yE, aA, aD, yK, yJ, push_cast, ↓Int.cast_ofNat_Int, Nat.reduceBEq, Nat.reduceAdd, Nat.reduceLT, Nat.reduceEqDiff, reduceIte, reduceCtorEq, Nat.reduceLeDiff, Nat.reduceSub, List.reduceReplicate, Nat.reduceMul, Int.reduceToNat, Int.toNat_natCast, Nat.reducePow, reduceIte]
  exact qP2 (n := (0, { data := #[] })) ⟨rfl, rfl⟩
end Go.Proofs.YtdfjeokjmigkaaaGreat
end
section
set_option linter.unusedVariables false
set_option linter.unusedSimpArgs false
namespace Go.DiffM
variable {α : Type} [DecidableEq α]
def lcs : List α → List α → Nat
 | [], _ => 0
 | _ :: _, [] => 0
 | x :: xs, y :: ys => if x = y then lcs xs ys + 1 else max (lcs xs (y :: ys)) (lcs (x :: xs) ys)
termination_by a b => a.length + b.length
theorem qZp (b : List α) : lcs [] b = 0 := by cases b <;> simp [lcs]
theorem qR8 (a : List α) : lcs a [] = 0 := by cases a <;> simp [lcs]
theorem qR9 (x : α) (xs : List α) (y : α) (ys : List α) : lcs (x :: xs) (y :: ys) = if x = y then lcs xs ys + 1 else max (lcs xs (y :: ys)) (lcs (x :: xs) ys) := by rw [lcs]
theorem qPy : ∀ (n : Nat) (a b : List α), a.length + b.length ≤ n → lcs a b ≤ a.length ∧ lcs a b ≤ b.length
 | n, [], b, _ => by simp [qZp]
 | n, a, [], _ => by simp [qR8]
 | 0, x :: xs, y :: ys, h => by simp at h
 | n + 1, x :: xs, y :: ys, h => by
  simp only [List.length_cons] at h
  have h1 := qPy n xs ys (by omega)
  have h2 := qPy n xs (y :: ys) (by simp only [List.length_cons]; omega)
  have h3 := qPy n (x :: xs) ys (by simp only [List.length_cons]; omega)
  simp only [List.length_cons] at *
  rw [qR9]
  split <;> omega
def at2 (a b : List α) (i j : Nat) : Nat := lcs (a.drop i) (b.drop j)
theorem zNh (a b : List α) (i j : Nat) (h : a.length ≤ i ∨ b.length ≤ j) : at2 a b i j = 0 := by
 unfold at2
 rcases h with h | h
 ·rw [List.drop_eq_nil_of_le h, qZp]
 ·rw [List.drop_eq_nil_of_le h, qR8]
theorem zJy (a b : List α) (i j : Nat) (hi : i < a.length) (hj : j < b.length) : at2 a b i j = if a[i] = b[j] then at2 a b (i + 1) (j + 1) + 1 else max (at2 a b (i + 1) j) (at2 a b i (j + 1)) := by
 unfold at2
 rw [List.drop_eq_getElem_cons hi, List.drop_eq_getElem_cons hj, qR9]
theorem qYw (a b : List α) (i j : Nat) : at2 a b i j ≤ a.length := by
 have := (qPy _ (a.drop i) (b.drop j) (Nat.le_refl _)).1
 unfold at2
 simp at this
 omega
def steps : List α → List α → List Nat
 | [], [] => []
 | x :: xs, [] => 1 :: steps xs []
 | [], y :: ys => 2 :: steps [] ys
 | x :: xs, y :: ys => if x = y then 0 :: steps xs ys else if lcs (x :: xs) ys ≤ lcs xs (y :: ys) then 1 :: steps xs (y :: ys) else 2 :: steps (x :: xs) ys
termination_by a b => a.length + b.length
theorem qHy (a b : List α) (i j : Nat) (hi : i < a.length) (hj : j < b.length) (he : a[i] = b[j]) : steps (a.drop i) (b.drop j) = 0 :: steps (a.drop (i + 1)) (b.drop (j + 1)) := by
 rw [List.drop_eq_getElem_cons hi, List.drop_eq_getElem_cons hj, steps, if_pos he]
theorem vW (a b : List α) (i j : Nat) (hi : i < a.length) (h : b.length ≤ j ∨ ∃ hj : j < b.length, a[i] ≠ b[j] ∧ at2 a b i (j + 1) ≤ at2 a b (i + 1) j) : steps (a.drop i) (b.drop j) = 1 :: steps (a.drop (i + 1)) (b.drop j) := by
 rcases h with h | ⟨hj, h1, h2⟩
 ·rw [List.drop_eq_getElem_cons hi, List.drop_eq_nil_of_le h, steps]
 ·unfold at2 at h2
  rw [List.drop_eq_getElem_cons hi] at h2 ⊢
  rw [List.drop_eq_getElem_cons hj] at h2 ⊢
  rw [steps, if_neg h1, if_pos h2]
theorem qBh (a b : List α) (i j : Nat) (hj : j < b.length) (h : a.length ≤ i ∨ ∃ hi : i < a.length, a[i] ≠ b[j] ∧ at2 a b (i + 1) j < at2 a b i (j + 1)) : steps (a.drop i) (b.drop j) = 2 :: steps (a.drop i) (b.drop (j + 1)) := by
 rcases h with h | ⟨hi, h1, h2⟩
 ·rw [List.drop_eq_getElem_cons hj, List.drop_eq_nil_of_le h, steps]
 ·unfold at2 at h2
  rw [List.drop_eq_getElem_cons hi] at h2 ⊢
  rw [List.drop_eq_getElem_cons hj] at h2 ⊢
  rw [steps, if_neg h1, if_neg (by omega)]
theorem qL3 (a b : List α) (i j : Nat) (hi : a.length ≤ i) (hj : b.length ≤ j) : steps (a.drop i) (b.drop j) = [] := by
 rw [List.drop_eq_nil_of_le hi, List.drop_eq_nil_of_le hj, steps]
def eQ : List (Nat × Nat) → Nat → List (Nat × Nat)
 | [], op => [(op, 1)]
 | [(o, n)], op => if o = op then [(o, n + 1)] else [(o, n), (op, 1)]
 | r :: s :: t, op => r :: eQ (s :: t) op
def zFb (l : List Nat) : List (Nat × Nat) := l.foldl eQ []
def fT (a b : List α) : List (Nat × Nat) := zFb (steps a b)
theorem qFc (l : List (Nat × Nat)) (o n op : Nat) : eQ (l ++ [(o, n)]) op = if o = op then l ++ [(o, n + 1)] else l ++ [(o, n), (op, 1)] := by
 induction l with
 | nil => simp only [List.nil_append, eQ]
 | cons r t ih =>
  cases t with
  | nil => simp only [List.cons_append, List.nil_append, eQ] at ih ⊢; split <;> rfl
  | cons s u =>
   simp only [List.cons_append] at ih ⊢
   rw [eQ]
   rw [ih]
   split <;> rfl
end Go.DiffM
end
