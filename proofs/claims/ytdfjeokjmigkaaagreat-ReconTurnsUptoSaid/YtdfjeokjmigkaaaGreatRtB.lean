/-
  ReconTurns: with the sides changed about the same is said, vN about: the law walked.
-/
import Derived.Test.YtdfjeokjmigkaaaGreatRtA
import Derived.Test.YtdfjeokjmigkaaaGreatTrW
import Derived.Test.YtdfjeokjmigkaaaGreatApe
set_option linter.unusedSimpArgs false
set_option linter.unusedVariables false
set_option maxRecDepth 20000
namespace Go.Proofs.YtdfjeokjmigkaaaGreat
open Go Go.Eng Go.RowKit Go.Tr Go.Dk Go.Rc
set_option maxHeartbeats 4000000 in
theorem qPf (a b c : List Ent) (ha : a.length ≤ 1048576) (hb : b.length ≤ 1048576) (hc : c.length ≤ 1048576) (sa : ∀ e ∈ a, e.1.size ≤ 1048576) (sb : ∀ e ∈ b, e.1.size ≤ 1048576) (sc : ∀ e ∈ c, e.1.size ≤ 1048576) :
  HFun Tryz.prog 6 [.lst false (aS a), .lst false (aS b), .lst false (aS c)] (fun h st => h = .v (.bool true)) := by
 refine eM (N := 69) Tryz.func6 rfl Tryz.ntmps6 Tryz.results6 (by simp) ?_
 have ct := qNp a b c ha hb hc sa sb sc
 refine zE ?_; refine zJ (fun K hK => ?_); simp (disch := omega) only [push_cast, ↓Int.cast_ofNat_Int, simprocAttr]; refine hK _ ?_; clear hK K
 cases d : (decide (iG a = 0) && (decide (iG b = 0) && decide (iG c = 0))) with
 | false =>
  rw [d] at ct
  refine zE ?_; refine zE ?_; refine zJ (fun K hK => ?_); simp (disch := omega) only [push_cast, ↓Int.cast_ofNat_Int, simprocAttr]
  refine aY cl9 iZ .nil ?_
  with_reducible refine aC ?_; simp (disch := omega) only [push_cast, ↓Int.cast_ofNat_Int, simprocAttr]
  refine aY qYo ct (.cons (aK (yT _)) (.cons (aK (yT _)) (.cons (aK (yT _)) .nil))) ?_
  with_reducible refine aC ?_; simp (disch := omega) only [push_cast, ↓Int.cast_ofNat_Int, simprocAttr]
  refine hK _ ?_; clear hK K
  refine zA ?_
  refine yD rfl ?_
  refine zE ?_; refine zJ (fun K hK => ?_); simp (disch := omega) only [push_cast, ↓Int.cast_ofNat_Int, simprocAttr]
  refine aY cl9 iZ .nil ?_
  with_reducible refine aC ?_; simp (disch := omega) only [push_cast, ↓Int.cast_ofNat_Int, simprocAttr]
  refine hK _ ?_; clear hK K
  refine zA ?_; refine zW ?_; refine zK ?_
  simp only [yA, yM, yH, yE, aA, aD, yK, yJ, zS, zM, Nat.reduceEqDiff, reduceIte, reduceCtorEq]
  exact aM rfl
 | true =>
 rw [d] at ct
 simp only [Bool.and_eq_true, decide_eq_true_eq] at d
 have tA := mC d.1 sa
 have tB := mC d.2.1 sb
 have tC := mC d.2.2 sc
 have i1 := qB6 tA tB tC (.inr qR0)
 have i2 := qB6 tA tC tB (.inr qR0)
 have htn : iC mgR a c b = (iC mgR a b c).map qHv := qKy zGc _ _
 rw [htn] at i2
 have lB : (iC mgR a b c).length ≤ 3000 := by
  have h1 := tU (mg := mgR) a b c 1048577 { data := #[] }
  have := tA.len
  have := tB.len
  have := tC.len
  rw [iC]; omega
 clear htn
 generalize iC mgR a b c = L at *
 have lM : (L.map qHv).length = L.length := List.length_map ..
 obtain ⟨M, hM⟩ : ∃ M, L.map qHv = M := ⟨_, rfl⟩
 rw [hM] at i2 lM
 refine zE ?_; refine zE ?_; refine zJ (fun K hK => ?_); simp (disch := omega) only [push_cast, ↓Int.cast_ofNat_Int, simprocAttr]
 refine aY cl9 iZ .nil ?_
 with_reducible refine aC ?_; simp (disch := omega) only [push_cast, ↓Int.cast_ofNat_Int, simprocAttr]
 refine aY qYo ct (.cons (aK (yT _)) (.cons (aK (yT _)) (.cons (aK (yT _)) .nil))) ?_
 with_reducible refine aC ?_; simp (disch := omega) only [push_cast, ↓Int.cast_ofNat_Int, simprocAttr]
 refine hK _ ?_; clear hK K
 refine zA ?_
 refine yC rfl ?_
 refine zC ?_; refine zE ?_
 refine zJ (fun K hK => ?_); simp (disch := omega) only [push_cast, ↓Int.cast_ofNat_Int, simprocAttr]
 refine hat 192 zEb i1 (.cons (aK (yT _)) (.cons (aK (yT _)) (.cons (aK (yT _)) .nil))) ?_
 rintro _ _ ⟨rfl, rfl⟩
 with_reducible refine aC ?_; simp (disch := omega) only [push_cast, ↓Int.cast_ofNat_Int, simprocAttr]
 refine hK _ ?_; clear hK K
 refine zE ?_; refine zJ (fun K hK => ?_); simp (disch := omega) only [push_cast, ↓Int.cast_ofNat_Int, simprocAttr]
 refine hat 224 zEb i2 (.cons (aK (yT _)) (.cons (aK (yT _)) (.cons (aK (yT _)) .nil))) ?_
 rintro _ _ ⟨rfl, rfl⟩
 with_reducible refine aC ?_; simp (disch := omega) only [push_cast, ↓Int.cast_ofNat_Int, simprocAttr]
 refine hK _ ?_; clear hK K
 refine yB [6, 7, 8] [192, 224] (by simp only [zZ, zR, zP, zQ, zN, zS, zM, zX, zU, Nat.reduceEqDiff, reduceIte]; exact rfl) ?_
 refine zE ?_; refine zE ?_; refine zJ (fun K hK => ?_); simp (disch := omega) only [push_cast, ↓Int.cast_ofNat_Int, simprocAttr, dJ, lM]; refine hK _ ?_; clear hK K
 refine zA ?_
 refine eD rfl (fun ht => by simp at ht) (fun _ => ?_)
 refine zC ?_; refine zE ?_; refine zE ?_
 refine zJ (fun K hK => ?_); simp (disch := omega) only [push_cast, ↓Int.cast_ofNat_Int, simprocAttr]; refine hK _ ?_; clear hK K
 refine zA ?_; refine zD ?_
 refine cQ (fun i : Nat => ⟨[(6, .v (.bool false)), (7, .own 192), (8, .own 224), (9, .v (.int .i64 (i : Int)))], [(192, .sl true 31 2 (itl L)), (224, .sl true 31 2 (itl M))]⟩) (fun i => i ≤ L.length) (fun i => L.length - i) [6, 7, 8, 9] [192, 224] 0 (by simp only [zZ, zR, zP, zQ, zN, zS, zM, zX, zU, Nat.reduceEqDiff, reduceIte]; try rfl) (Nat.zero_le _) ?_
 intro i hi
 by_cases h1 : i < L.length
 ·have hg : (itl L).getD i [] = [FV.v (.string L[i].1), .v (.int .i64 L[i].2)] := qB5 h1
  have hgm : (itl M).getD i [] = [FV.v (.string L[i].1), .v (.int .i64 (qL0 L[i].2))] := by
   subst hM
   rw [qB5 (L := L.map qHv) (by rw [List.length_map]; exact h1), List.getElem_map]; rfl
  obtain ⟨x, hx⟩ : ∃ x, L[i] = x := ⟨_, rfl⟩
  rw [hx] at hg hgm
  clear hx
  obtain ⟨q, n⟩ := x
  dsimp only at hg hgm
  refine zE ?_; refine zE ?_; refine zJ (fun K hK => ?_); simp (disch := omega) only [push_cast, ↓Int.cast_ofNat_Int, simprocAttr, dJ]; refine hK _ ?_; clear hK K
  refine zA ?_
  refine yD rfl ?_
  refine zC ?_; refine zE ?_
  refine zD ?_; refine zE ?_; refine zJ (fun K hK => ?_); simp (disch := omega) only [push_cast, ↓Int.cast_ofNat_Int, simprocAttr, dJ, jT, hg]; refine hK _ ?_; clear hK K
  refine zE ?_; refine zE ?_; refine zJ (fun K hK => ?_); simp (disch := omega) only [push_cast, ↓Int.cast_ofNat_Int, simprocAttr]; refine hK _ ?_; clear hK K
  refine zA ?_
  refine qAb (fun _ : Unit => ⟨[(6, .v (.bool false)), (7, .own 192), (8, .own 224), (9, .v (.int .i64 (i : Int))), (10, .v (.int .i64 (qL0 n)))], [(192, .sl true 31 2 (itl L)), (224, .sl true 31 2 (itl M))]⟩) (fun _ => True) [6, 7, 8, 9, 10] [192, 224] ?_ ?_
  ·by_cases h3 : n = 3
   ·subst h3
    refine eD rfl (fun _ => ?_) (fun hf => by simp at hf)
    refine zJ (fun K hK => ?_); simp (disch := omega) only [push_cast, ↓Int.cast_ofNat_Int, simprocAttr]; (repeat refine ⟨by first | omega | decide | ((repeat' apply And.intro) <;> first | omega | decide), ?_⟩); refine hK _ ?_; clear hK K
    exact ⟨(), by simp only [zZ, zR, zP, zQ, zN, zS, zM, zX, zU, Nat.reduceEqDiff, reduceIte]; try rfl, trivial⟩
   ·refine eD rfl (fun ht => by simp [h3] at ht) (fun _ => ?_)
    by_cases h2 : n = 2
    ·subst h2
     refine zE ?_; refine zJ (fun K hK => ?_); simp (disch := omega) only [push_cast, ↓Int.cast_ofNat_Int, simprocAttr]; refine hK _ ?_; clear hK K
     refine zA ?_
     refine eD rfl (fun _ => ?_) (fun hf => by simp at hf)
     refine zJ (fun K hK => ?_); simp (disch := omega) only [push_cast, ↓Int.cast_ofNat_Int, simprocAttr]; (repeat refine ⟨by first | omega | decide | ((repeat' apply And.intro) <;> first | omega | decide), ?_⟩); refine hK _ ?_; clear hK K
     exact ⟨(), by simp only [zZ, zR, zP, zQ, zN, zS, zM, zX, zU, Nat.reduceEqDiff, reduceIte]; try rfl, trivial⟩
    ·have et : qL0 n = n := by rw [qL0, if_neg h3, if_neg h2]
     rw [et]
     refine zE ?_; refine zJ (fun K hK => ?_); simp (disch := omega) only [push_cast, ↓Int.cast_ofNat_Int, simprocAttr]; refine hK _ ?_; clear hK K
     refine zA ?_
     refine eD rfl (fun ht => by simp [h2] at ht) (fun _ => ?_)
     refine zC ?_
     exact ⟨(), by simp only [zZ, zR, zP, zQ, zN, zS, zM, zX, zU, Nat.reduceEqDiff, reduceIte]; try rfl, trivial⟩
  intro S' _ hE2 _
  refine zE ?_
  refine yB [6, 7, 8, 9, 10] [192, 224] hE2 ?_
  clear hE2
  generalize qL0 n = t at hgm ⊢
  refine HW_drw 20 mixed (by kernel_rfl) (fun K hK => ?_); simp (disch := omega) only [push_cast, ↓Int.cast_ofNat_Int, simprocAttr, dJ, jT, hg, hgm, lM]
  with_reducible refine aC ?_; simp (disch := omega) only [push_cast, ↓Int.cast_ofNat_Int, simprocAttr, dJ, jT, hg, hgm, lM]
  refine hK _ ?_; clear hK K
  refine zA ?_
  refine yC rfl ?_
  refine zC ?_; refine zB ?_; refine zA ?_
  refine zJ (fun K hK => ?_); simp (disch := omega) only [push_cast, ↓Int.cast_ofNat_Int, simprocAttr]; refine hK _ ?_; clear hK K
  refine zA ?_
  exact ⟨i + 1, by simp only [zZ, zR, zP, zQ, zN, zS, zM, zX, zU, Nat.reduceEqDiff, reduceIte]; try rfl, h1, by omega⟩
 ·have hi2 : i = L.length := by omega
  subst hi2
  refine zE ?_; refine zE ?_; refine zJ (fun K hK => ?_); simp (disch := omega) only [push_cast, ↓Int.cast_ofNat_Int, simprocAttr, dJ]; refine hK _ ?_; clear hK K
  refine zA ?_
  refine yC rfl ?_
  refine zT ?_; refine zG ?_; refine zG ?_; refine zH ?_; refine zE ?_
  refine zJ (fun K hK => ?_); simp (disch := omega) only [push_cast, ↓Int.cast_ofNat_Int, simprocAttr]; refine hK _ ?_; clear hK K
  refine zA ?_; refine zW ?_
  simp only [yA, yM, yH, yE, aA, aD, yK, yJ, zS, zM, Nat.reduceEqDiff, reduceIte, reduceCtorEq]
  exact aM rfl
theorem qPe (a b c : List Ent) (hu : fw (.lst false (aS a)) + (fw (.lst false (aS b)) + (fw (.lst false (aS c)) + 0)) ≤ 1048576) : HFun Tryz.prog 6 [.lst false (aS a), .lst false (aS b), .lst false (aS c)] (fun h st => h = .v (.bool true)) := by
 obtain ⟨h1, h2⟩ := pW a
 obtain ⟨h3, h4⟩ := pW b
 obtain ⟨h5, h6⟩ := pW c
 exact qPf a b c (by omega) (by omega) (by omega) (fun e he => by have := (h2 e he).1; omega) (fun e he => by have := (h4 e he).1; omega) (fun e he => by have := (h6 e he).1; omega)
end Go.Proofs.YtdfjeokjmigkaaaGreat
