/-
  ReconLocal: what is said below one name hangs on what the three trees have mY: the law walked.
-/
import Derived.Test.YtdfjeokjmigkaaaGreatRcO
set_option linter.unusedSimpArgs false
set_option linter.unusedVariables false
set_option maxRecDepth 20000
namespace Go.Rc
open Go Go.Eng Go.RowKit Go.Tr Go.Dk
theorem qK0 {mg : (Int × ByteArray) → (Int × ByteArray) → (Int × ByteArray) → Bool} {A H S : List Ent} {B : Nat} (h : ∀ e ∈ A ++ H ++ S, e.1.size ≤ B) : ∀ (k : Nat) (top : ByteArray), ∀ x ∈ aL mg A H S k top, x.1.size ≤ B
 | 0, _, x, hx => by simp [aL] at hx
 | k + 1, top, x, hx => by
  rw [aL] at hx
  obtain ⟨q, hq, hx⟩ := List.mem_flatMap.1 hx
  obtain ⟨y, hy, rfl⟩ := List.mem_map.1 hq
  rcases dG (A ++ H ++ S) [] hy with h0 | ⟨e, he, hn⟩
  ·cases h0
  ·rcases pY hx with h2 | h2
   ·rw [h2]; exact Nat.le_trans (fF hn).2 (h e he)
   ·exact qK0 h k _ x h2
end Go.Rc
namespace Go.Proofs.YtdfjeokjmigkaaaGreat
open Go Go.Eng Go.RowKit Go.Tr Go.Dk Go.Rc
set_option maxHeartbeats 4000000 in
theorem qPh (a b c : List Ent) (p : ByteArray) (ha : a.length ≤ 1048576) (hb : b.length ≤ 1048576) (hc : c.length ≤ 1048576) (sa : ∀ e ∈ a, e.1.size ≤ 1048576) (sb : ∀ e ∈ b, e.1.size ≤ 1048576) (sc : ∀ e ∈ c, e.1.size ≤ 1048576) (hp : p.size ≤ 1048576) :
  HFun Tryz.prog 8 [.lst false (aS a), .lst false (aS b), .lst false (aS c), .v (.string p)] (fun h st => h = .v (.bool true)) := by
 refine eM (N := 65) Tryz.func8 rfl Tryz.ntmps8 Tryz.results8 (by simp) ?_
 have ct := qNp a b c ha hb hc sa sb sc
 have cp : HFun Tryz.prog 22 [.v (.string p), .v (.int .i64 1)] (fun h st => h = .v (.int .i64 (okN (pOk p 1)))) := qFm p 1 hp (by decide)
 refine zE ?_; refine zJ (fun K hK => ?_); simp (disch := omega) only [push_cast, ↓Int.cast_ofNat_Int, simprocAttr]; refine hK _ ?_; clear hK K
 cases d : (decide (iG a = 0) && (decide (iG b = 0) && decide (iG c = 0))) with
 | false =>
  rw [d] at ct
  refine zE ?_; refine zE ?_; refine zJ (fun K hK => ?_); simp (disch := omega) only [push_cast, ↓Int.cast_ofNat_Int, simprocAttr]
  refine aY cl9 iZ .nil ?_
  with_reducible refine aC ?_; simp (disch := omega) only [push_cast, ↓Int.cast_ofNat_Int, simprocAttr]
  refine aY qYo ct (.cons (aK (yT _)) (.cons (aK (yT _)) (.cons (aK (yT _)) .nil))) ?_
  with_reducible refine aC ?_; simp (disch := omega) only [push_cast, ↓Int.cast_ofNat_Int, simprocAttr]
  refine hK _ ?_; clear hK K
  refine zA ?_
  refine yD rfl ?_
  refine zE ?_; refine zJ (fun K hK => ?_); simp (disch := omega) only [push_cast, ↓Int.cast_ofNat_Int, simprocAttr]
  refine aY cl9 iZ .nil ?_
  with_reducible refine aC ?_; simp (disch := omega) only [push_cast, ↓Int.cast_ofNat_Int, simprocAttr]
  refine hK _ ?_; clear hK K
  refine zA ?_; refine zW ?_; refine zK ?_
  simp only [yA, yM, yH, yE, aA, aD, yK, yJ, zS, zM, Nat.reduceEqDiff, reduceIte, reduceCtorEq]
  exact aM rfl
 | true =>
 rw [d] at ct
 cases d2 : pOk p 1 with
 | false =>
  rw [d2] at cp
  have cp : HFun Tryz.prog 22 [.v (.string p), .v (.int .i64 1)] (fun h st => h = .v (.int .i64 10)) := cp
  refine zE ?_; refine zE ?_; refine zJ (fun K hK => ?_); simp (disch := omega) only [push_cast, ↓Int.cast_ofNat_Int, simprocAttr]
  refine aY cl9 iZ .nil ?_
  with_reducible refine aC ?_; simp (disch := omega) only [push_cast, ↓Int.cast_ofNat_Int, simprocAttr]
  refine aY qYo ct (.cons (aK (yT _)) (.cons (aK (yT _)) (.cons (aK (yT _)) .nil))) ?_
  with_reducible refine aC ?_; simp (disch := omega) only [push_cast, ↓Int.cast_ofNat_Int, simprocAttr]
  refine aY qLs cp (.cons (.v _) (.cons (.v _) .nil)) ?_
  with_reducible refine aC ?_; simp (disch := omega) only [push_cast, ↓Int.cast_ofNat_Int, simprocAttr]
  refine hK _ ?_; clear hK K
  refine zA ?_
  refine yD rfl ?_
  refine zE ?_; refine zJ (fun K hK => ?_); simp (disch := omega) only [push_cast, ↓Int.cast_ofNat_Int, simprocAttr]
  refine aY cl9 iZ .nil ?_
  with_reducible refine aC ?_; simp (disch := omega) only [push_cast, ↓Int.cast_ofNat_Int, simprocAttr]
  refine hK _ ?_; clear hK K
  refine zA ?_; refine zW ?_; refine zK ?_
  simp only [yA, yM, yH, yE, aA, aD, yK, yJ, zS, zM, Nat.reduceEqDiff, reduceIte, reduceCtorEq]
  exact aM rfl
 | true =>
 rw [d2] at cp
 have cp : HFun Tryz.prog 22 [.v (.string p), .v (.int .i64 1)] (fun h st => h = .v (.int .i64 0)) := cp
 simp only [Bool.and_eq_true, decide_eq_true_eq] at d
 have tA := mC d.1 sa
 have tB := mC d.2.1 sb
 have tC := mC d.2.2 sc
 have hns : ∀ e ∈ a ++ b ++ c, ∀ r, e.1.data.toList ≠ 47 :: r := fun e he => by
  rcases List.mem_append.1 he with he | he
  ·rcases List.mem_append.1 he with he | he
   ·exact nK (uR (gZ d.1).2 e he)
   ·exact nK (uR (gZ d.2.1).2 e he)
  ·exact nK (uR (gZ d.2.2).2 e he)
 have loc : iC mgR (cP a p) (cP b p) (cP c p) = (iC mgR a b c).filter fun x => bR x.1 p := qR4 (zFp d2) (zF0 d2) hns 1048576
 have i1 := qB6 tA tB tC (.inr qR0)
 have i2 := qB6 (tA.sub p) (tB.sub p) (tC.sub p) (.inr qR0)
 rw [loc] at i2
 have lB : (iC mgR a b c).length ≤ 3000 := by
  have h1 := tU (mg := mgR) a b c 1048577 { data := #[] }
  have := tA.len
  have := tB.len
  have := tC.len
  rw [iC]; omega
 have hsz : ∀ x ∈ iC mgR a b c, x.1.size ≤ 1048576 := qK0 (fun e he => by
  rcases List.mem_append.1 he with he | he
  ·rcases List.mem_append.1 he with he | he
   ·exact sa e he
   ·exact sb e he
  ·exact sc e he) _ _
 clear loc
 generalize iC mgR a b c = L at *
 have s1 := qFl a p (by omega) sa hp
 have s2 := qFl b p (by omega) sb hp
 have s3 := qFl c p (by omega) sc hp
 refine zE ?_; refine zE ?_; refine zJ (fun K hK => ?_); simp (disch := omega) only [push_cast, ↓Int.cast_ofNat_Int, simprocAttr]
 refine aY cl9 iZ .nil ?_
 with_reducible refine aC ?_; simp (disch := omega) only [push_cast, ↓Int.cast_ofNat_Int, simprocAttr]
 refine aY qYo ct (.cons (aK (yT _)) (.cons (aK (yT _)) (.cons (aK (yT _)) .nil))) ?_
 with_reducible refine aC ?_; simp (disch := omega) only [push_cast, ↓Int.cast_ofNat_Int, simprocAttr]
 refine aY qLs cp (.cons (.v _) (.cons (.v _) .nil)) ?_
 with_reducible refine aC ?_; simp (disch := omega) only [push_cast, ↓Int.cast_ofNat_Int, simprocAttr]
 refine hK _ ?_; clear hK K
 refine zA ?_
 refine yC rfl ?_
 refine zC ?_; refine zE ?_
 refine zJ (fun K hK => ?_); simp (disch := omega) only [push_cast, ↓Int.cast_ofNat_Int, simprocAttr]
 refine hat 248 zEb i1 (.cons (aK (yT _)) (.cons (aK (yT _)) (.cons (aK (yT _)) .nil))) ?_
 rintro _ _ ⟨rfl, rfl⟩
 with_reducible refine aC ?_; simp (disch := omega) only [push_cast, ↓Int.cast_ofNat_Int, simprocAttr]
 refine hK _ ?_; clear hK K
 refine yB [0, 1, 2, 3, 8, 9] [248] (by simp only [zZ, zR, zP, zQ, zN, zS, zM, zX, zU, Nat.reduceEqDiff, reduceIte]; exact rfl) ?_
 refine zE ?_; refine zJ (fun K hK => ?_); simp (disch := omega) only [push_cast, ↓Int.cast_ofNat_Int, simprocAttr]
 refine hat 272 zEa s1 (.cons (aK (yT _)) (.cons (.v _) .nil)) ?_
 rintro _ _ ⟨rfl, rfl⟩
 with_reducible refine aC ?_; simp (disch := omega) only [push_cast, ↓Int.cast_ofNat_Int, simprocAttr]
 refine hat 296 zEa s2 (.cons (aK (yT _)) (.cons (.v _) .nil)) ?_
 rintro _ _ ⟨rfl, rfl⟩
 with_reducible refine aC ?_; simp (disch := omega) only [push_cast, ↓Int.cast_ofNat_Int, simprocAttr]
 refine hat 320 zEa s3 (.cons (aK (yT _)) (.cons (.v _) .nil)) ?_
 rintro _ _ ⟨rfl, rfl⟩
 with_reducible refine aC ?_; simp (disch := omega) only [push_cast, ↓Int.cast_ofNat_Int, simprocAttr]
 refine hat 328 zEb i2 (.cons (kD (yT _) rfl) (.cons (kD (yT _) rfl) (.cons (kD (yT _) rfl) .nil))) ?_
 rintro _ _ ⟨rfl, rfl⟩
 with_reducible refine aC ?_; simp (disch := omega) only [push_cast, ↓Int.cast_ofNat_Int, simprocAttr]
 refine hK _ ?_; clear hK K
 refine yB [3, 8, 9, 10] [248, 328] (by simp only [zZ, zR, zP, zQ, zN, zS, zM, zX, zU, Nat.reduceEqDiff, reduceIte]; exact rfl) ?_
 obtain ⟨F, hF⟩ : ∃ F, (L.filter fun x => bR x.1 p) = F := ⟨_, rfl⟩
 have fl : F.length ≤ 1000000 := by
  have := List.length_filter_le (fun x : ByteArray × Int => bR x.1 p) L
  rw [hF] at this
  omega
 rw [hF]
 have cs := zE9 F fl
 refine zE ?_; refine zJ (fun K hK => ?_); simp (disch := omega) only [push_cast, ↓Int.cast_ofNat_Int, simprocAttr]; refine hK _ ?_; clear hK K
 refine zE ?_; refine zE ?_; refine zJ (fun K hK => ?_); simp (disch := omega) only [push_cast, ↓Int.cast_ofNat_Int, simprocAttr]; refine hK _ ?_; clear hK K
 refine qQq 11 9000 31 2 rfl (by simp only [qHc, qPb, qPd, nZ, lR, nC, lL, xS, nT, qCh, nR, nQ, rD, nU, nP, lQ, qV, qX, qW, wT, qEm, qCg, Nat.reduceBEq, Nat.reduceEqDiff, reduceIte, cond_true, cond_false, List.map_cons, List.map_nil]; exact rfl) ?_
 refine zD ?_
 refine cQ (fun x : Nat × LN => ⟨[(3, .v (.string p)), (8, .v (.bool false)), (9, .own 248), (10, .own 328), (11, .own 9000), (12, .v (.int .i64 (x.1 : Int)))], [(248, .sl true 31 2 (itl L)), (328, .sl true 31 2 (itl F)), (9000, .sl true 31 2 (itl x.2))]⟩) (fun x => x.1 ≤ L.length ∧ x.2 = (L.take x.1).filter fun x => bR x.1 p) (fun x => L.length - x.1) [3, 8, 9, 10, 11, 12] [248, 328, 9000] (0, []) (by simp only [zZ, zR, zP, zQ, zN, zS, zM, zX, zU, Nat.reduceEqDiff, reduceIte]; try rfl) ⟨Nat.zero_le _, rfl⟩ ?_
 rintro ⟨i, o⟩ ⟨hi, ho⟩
 dsimp only at hi ho ⊢
 by_cases h1 : i < L.length
 ·have hg : (itl L).getD i [] = [FV.v (.string L[i].1), .v (.int .i64 L[i].2)] := qB5 h1
  have hxs := hsz _ (List.getElem_mem h1)
  have cu := qJa L[i].1 p hxs hp
  have hol : o.length ≤ 3000 := by
   have h2 := List.length_filter_le (fun x : ByteArray × Int => bR x.1 p) (L.take i)
   rw [← ho, List.length_take] at h2
   omega
  have hnx : (L.take (i + 1)).filter (fun x => bR x.1 p) = o ++ [L[i]].filter (fun x => bR x.1 p) := by
   rw [List.take_succ_eq_append_getElem h1, List.filter_append, ← ho]
  have e2 : itl o ++ [[FV.v (.string L[i].1), .v (.int .i64 L[i].2)]] = itl (o ++ [L[i]]) := qSg o _ _
  refine zE ?_; refine zE ?_; refine zJ (fun K hK => ?_); simp (disch := omega) only [push_cast, ↓Int.cast_ofNat_Int, simprocAttr, dJ]; refine hK _ ?_; clear hK K
  refine zA ?_
  refine yD rfl ?_
  refine zC ?_; refine zE ?_
  refine zD ?_; refine zE ?_; refine zJ (fun K hK => ?_); simp (disch := omega) only [push_cast, ↓Int.cast_ofNat_Int, simprocAttr, dJ, jT, hg]
  refine aY zM6 cu (.cons (.v _) (.cons (.v _) .nil)) ?_
  with_reducible refine aC ?_; simp (disch := omega) only [push_cast, ↓Int.cast_ofNat_Int, simprocAttr]
  refine hK _ ?_; clear hK K
  refine zA ?_
  cases hu : bR L[i].1 p with
  | true =>
   refine yD rfl ?_
   refine zJ (fun K hK => ?_); simp (disch := omega) only [push_cast, ↓Int.cast_ofNat_Int, simprocAttr, dJ, jT, hg, e2]; (repeat refine ⟨by first | omega | decide | ((repeat' apply And.intro) <;> first | omega | decide), ?_⟩); refine hK _ ?_; clear hK K
   refine zB ?_; refine zA ?_
   refine zJ (fun K hK => ?_); simp (disch := omega) only [push_cast, ↓Int.cast_ofNat_Int, simprocAttr]; refine hK _ ?_; clear hK K
   refine zA ?_
   exact ⟨(i + 1, o ++ [L[i]]), by simp only [zZ, zR, zP, zQ, zN, zS, zM, zX, zU, Nat.reduceEqDiff, reduceIte]; rfl, ⟨h1, by rw [hnx]; simp [hu]⟩, by dsimp only; omega⟩
  | false =>
   refine yC rfl ?_
   refine zC ?_; refine zB ?_; refine zA ?_
   refine zJ (fun K hK => ?_); simp (disch := omega) only [push_cast, ↓Int.cast_ofNat_Int, simprocAttr]; refine hK _ ?_; clear hK K
   refine zA ?_
   exact ⟨(i + 1, o), by simp only [zZ, zR, zP, zQ, zN, zS, zM, zX, zU, Nat.reduceEqDiff, reduceIte]; rfl, ⟨h1, by rw [hnx]; simp [hu]⟩, by dsimp only; omega⟩
 ·have hi2 : i = L.length := by omega
  subst hi2
  rw [List.take_length, hF] at ho
  rw [ho]
  refine zE ?_; refine zE ?_; refine zJ (fun K hK => ?_); simp (disch := omega) only [push_cast, ↓Int.cast_ofNat_Int, simprocAttr, dJ]; refine hK _ ?_; clear hK K
  refine zA ?_
  refine yC rfl ?_
  refine zT ?_; refine zG ?_; refine zG ?_; refine zH ?_; refine zE ?_
  refine zJ (fun K hK => ?_); simp (disch := omega) only [push_cast, ↓Int.cast_ofNat_Int, simprocAttr]
  refine aY zVw cs (.cons (kD (qZr _) rfl) (.cons (kD (qZr _) rfl) .nil)) ?_
  with_reducible refine aC ?_; simp (disch := omega) only [push_cast, ↓Int.cast_ofNat_Int, simprocAttr]
  refine hK _ ?_; clear hK K
  refine zA ?_; refine zW ?_
  simp only [yA, yM, yH, yE, aA, aD, yK, yJ, zS, zM, Nat.reduceEqDiff, reduceIte, reduceCtorEq]
  exact aM rfl
theorem qPg (a b c : List Ent) (p : ByteArray) (hu : fw (.lst false (aS a)) + (fw (.lst false (aS b)) + (fw (.lst false (aS c)) + (fw (.v (.string p)) + 0))) ≤ 1048576) : HFun Tryz.prog 8 [.lst false (aS a), .lst false (aS b), .lst false (aS c), .v (.string p)] (fun h st => h = .v (.bool true)) := by
 obtain ⟨h1, h2⟩ := pW a
 obtain ⟨h3, h4⟩ := pW b
 obtain ⟨h5, h6⟩ := pW c
 have h7 := qYd p
 exact qPh a b c p (by omega) (by omega) (by omega) (fun e he => by have := (h2 e he).1; omega) (fun e he => by have := (h4 e he).1; omega) (fun e he => by have := (h6 e he).1; omega) (by omega)
end Go.Proofs.YtdfjeokjmigkaaaGreat
