/-
  ReconSettles: every difference is settled once, nothing changed is overwritten: the law walked.
-/
import Derived.Test.YtdfjeokjmigkaaaGreatRcS
import Derived.Test.YtdfjeokjmigkaaaGreatSl
set_option linter.unusedSimpArgs false
set_option linter.unusedVariables false
set_option maxRecDepth 20000
namespace Go.Rc
open Go Go.Tr Go.Dk
theorem qHu {E A H S : List Ent} {mg : (Int × ByteArray) → (Int × ByteArray) → (Int × ByteArray) → Bool} (hE : A ++ H ++ S = E) {B : Nat} (h : ∀ e ∈ E, e.1.size ≤ B) : ∀ (k : Nat) (top : ByteArray), ∀ x ∈ aL mg A H S k top, x.1.size ≤ B
 | 0, _, x, hx => by simp [aL] at hx
 | k + 1, top, x, hx => by
  rw [aL, hE] at hx
  obtain ⟨q, hq, hx⟩ := List.mem_flatMap.1 hx
  obtain ⟨y, hy, rfl⟩ := List.mem_map.1 hq
  rcases dG E [] hy with h0 | ⟨e, he, hn⟩
  ·cases h0
  ·rcases pY hx with h2 | h2
   ·rw [h2]; exact Nat.le_trans (fF hn).2 (h e he)
   ·exact qHu hE h k _ x h2
end Go.Rc
namespace Go.Proofs.YtdfjeokjmigkaaaGreat
open Go Go.Eng Go.RowKit Go.Tr Go.Dk Go.Rc
set_option maxHeartbeats 4000000 in
theorem qJh (a b c : List Ent) (p : ByteArray) (ha : a.length ≤ 1048576) (hb : b.length ≤ 1048576) (hc : c.length ≤ 1048576) (sa : ∀ e ∈ a, e.1.size ≤ 1048576) (sb : ∀ e ∈ b, e.1.size ≤ 1048576) (sc : ∀ e ∈ c, e.1.size ≤ 1048576) (hp : p.size ≤ 1048576) :
  HFun Tryz.prog 7 [.lst false (aS a), .lst false (aS b), .lst false (aS c), .v (.string p)] (fun h st => h = .v (.bool true)) := by
 refine eM (N := 140) Tryz.func7 rfl Tryz.ntmps7 Tryz.results7 (by simp) ?_
 have ct := qNp a b c ha hb hc sa sb sc
 refine zE ?_; refine zJ (fun K hK => ?_); simp (disch := omega) only [push_cast, ↓Int.cast_ofNat_Int, simprocAttr]; refine hK _ ?_; clear hK K
 cases d : (decide (iG a = 0) && (decide (iG b = 0) && decide (iG c = 0))) with
 | false =>
  rw [d] at ct
  refine zE ?_; refine zE ?_; refine zJ (fun K hK => ?_); simp (disch := omega) only [push_cast, ↓Int.cast_ofNat_Int, simprocAttr]
  refine aY cl9 iZ .nil ?_
  with_reducible refine aC ?_; simp (disch := omega) only [push_cast, ↓Int.cast_ofNat_Int, simprocAttr]
  refine aY qYo ct (.cons (aK (yT _)) (.cons (aK (yT _)) (.cons (aK (yT _)) .nil))) ?_
  with_reducible refine aC ?_; simp (disch := omega) only [push_cast, ↓Int.cast_ofNat_Int, simprocAttr]
  refine hK _ ?_; clear hK K
  refine zA ?_
  refine yD rfl ?_
  refine zE ?_; refine zJ (fun K hK => ?_); simp (disch := omega) only [push_cast, ↓Int.cast_ofNat_Int, simprocAttr]
  refine aY cl9 iZ .nil ?_
  with_reducible refine aC ?_; simp (disch := omega) only [push_cast, ↓Int.cast_ofNat_Int, simprocAttr]
  refine hK _ ?_; clear hK K
  refine zA ?_; refine zW ?_; refine zK ?_
  simp only [yA, yM, yH, yE, aA, aD, yK, yJ, zS, zM, Nat.reduceEqDiff, reduceIte, reduceCtorEq]
  exact aM rfl
 | true =>
 rw [d] at ct
 simp only [Bool.and_eq_true, decide_eq_true_eq] at d
 have tA := mC d.1 sa
 have tB := mC d.2.1 sb
 have tC := mC d.2.2 sc
 obtain ⟨E, hE⟩ : ∃ E, a ++ b ++ c = E := ⟨_, rfl⟩
 have hall : ∀ {P : Ent → Prop}, (∀ e ∈ a, P e) → (∀ e ∈ b, P e) → (∀ e ∈ c, P e) → ∀ e ∈ E, P e := fun h1 h2 h3 e he => by
  rw [← hE] at he
  rcases List.mem_append.1 he with he | he
  ·rcases List.mem_append.1 he with he | he
   ·exact h1 e he
   ·exact h2 e he
  ·exact h3 e he
 have hk := hall (P := fun e => pOk e.1 5 = true) (uR (gZ d.1).2) (uR (gZ d.2.1).2) (uR (gZ d.2.2).2)
 have i1 := qB6 tA tB tC (.inr qR0)
 obtain ⟨L, hL⟩ : ∃ L, iC mgR a b c = L := ⟨_, rfl⟩
 have lB : L.length ≤ 3000 := by
  have h1 := tU (mg := mgR) a b c 1048577 { data := #[] }
  have := tA.len
  have := tB.len
  have := tC.len
  rw [← hL, iC]; omega
 have hsz : ∀ x ∈ L, x.1.size ≤ 1048576 := by rw [← hL]; exact qHu hE (hall sa sb sc) _ _
 have hpk : ∀ x ∈ L, pOk x.1 5 = true := by rw [← hL]; exact qZc hE hk _ _
 have hri : L.Pairwise fun a b => blt a.1 b.1 = true := by rw [← hL]; exact qDq hE hk _ _
 have hso : ∀ x ∈ L, qYy a b c x := by rw [← hL]; exact qZb _ _
 have hmo : L.countP (hZ p) ≤ 1 := by rw [← hL]; exact qFi p _ _
 have hle : eF b p ≠ eF c p → L.countP (hZ p) = 1 := fun h => by rw [← hL]; exact zEx hE hk (qMj (gZ d.2.1).2) (qMj (gZ d.2.2).2) h (by omega)
 rw [hL] at i1
 clear hL hk
 refine zE ?_; refine zE ?_; refine zJ (fun K hK => ?_); simp (disch := omega) only [push_cast, ↓Int.cast_ofNat_Int, simprocAttr]
 refine aY cl9 iZ .nil ?_
 with_reducible refine aC ?_; simp (disch := omega) only [push_cast, ↓Int.cast_ofNat_Int, simprocAttr]
 refine aY qYo ct (.cons (aK (yT _)) (.cons (aK (yT _)) (.cons (aK (yT _)) .nil))) ?_
 with_reducible refine aC ?_; simp (disch := omega) only [push_cast, ↓Int.cast_ofNat_Int, simprocAttr]
 refine hK _ ?_; clear hK K
 refine zA ?_
 refine yC rfl ?_
 refine zC ?_; refine zE ?_
 refine zJ (fun K hK => ?_); simp (disch := omega) only [push_cast, ↓Int.cast_ofNat_Int, simprocAttr]
 refine hat 248 zEb i1 (.cons (aK (yT _)) (.cons (aK (yT _)) (.cons (aK (yT _)) .nil))) ?_
 rintro _ _ ⟨rfl, rfl⟩
 with_reducible refine aC ?_; simp (disch := omega) only [push_cast, ↓Int.cast_ofNat_Int, simprocAttr]
 refine hK _ ?_; clear hK K
 refine zE ?_; refine zJ (fun K hK => ?_); simp (disch := omega) only [push_cast, ↓Int.cast_ofNat_Int, simprocAttr]; refine hK _ ?_; clear hK K
 refine zE ?_; refine zE ?_; refine zJ (fun K hK => ?_); simp (disch := omega) only [push_cast, ↓Int.cast_ofNat_Int, simprocAttr]; refine hK _ ?_; clear hK K
 refine zA ?_; refine zD ?_
 refine cQ (fun i : Nat => ⟨[(0, .lst false (aS a)), (1, .lst false (aS b)), (2, .lst false (aS c)), (3, .v (.string p)), (8, .v (.bool false)), (9, .own 248), (10, .v (.int .i64 (((L.take i).countP (hZ p) : Nat) : Int))), (11, .v (.int .i64 (i : Int)))], [(248, .sl true 31 2 (itl L))]⟩) (fun i => i ≤ L.length) (fun i => L.length - i) [0, 1, 2, 3, 8, 9, 10, 11] [248] 0 (by simp only [zZ, zR, zP, zQ, zN, zS, zM, zX, zU, Nat.reduceEqDiff, reduceIte]; try rfl) (Nat.zero_le _) ?_
 intro i hi
 by_cases h1 : i < L.length
 ·have hm := List.getElem_mem h1
  have hg : (itl L).getD i [] = [FV.v (.string L[i].1), .v (.int .i64 L[i].2)] := qB5 h1
  have hqs := hsz _ hm
  have hqo := hpk _ hm
  have hsd := hso _ hm
  have hct : (L.take (i + 1)).countP (hZ p) = (L.take i).countP (hZ p) + if hZ p L[i] = true then 1 else 0 := by
   rw [List.take_succ_eq_append_getElem h1, List.countP_append, List.countP_singleton]
  have hcb : (L.take i).countP (hZ p) ≤ 3000 := Nat.le_trans List.countP_le_length (by rw [List.length_take]; omega)
  have hbm : ∀ m, i = m + 1 → (hm : m < L.length) → Op.bytesLess L[m].1.toList L[i].1.toList = true := fun m e hm => List.pairwise_iff_getElem.1 hri m i hm h1 (by omega)
  obtain ⟨x, hx⟩ : ∃ x, L[i] = x := ⟨_, rfl⟩
  rw [hx] at hg hqs hqo hsd hct hbm
  clear hm hx
  obtain ⟨q, n⟩ := x
  dsimp only at hg hqs hqo hsd hct hbm
  obtain ⟨t, ht⟩ : ∃ t, (L.take i).countP (hZ p) = t := ⟨_, rfl⟩
  rw [ht] at hcb hct ⊢
  have cp : HFun Tryz.prog 22 [.v (.string q), .v (.int .i64 5)] (fun h st => h = .v (.int .i64 (okN (pOk q 5)))) := qFm q 5 hqs (by decide)
  rw [hqo] at cp
  have cp : HFun Tryz.prog 22 [.v (.string q), .v (.int .i64 5)] (fun h st => h = .v (.int .i64 0)) := cp
  have s1 := qFl a q (by omega) sa hqs
  have s2 := qFl b q (by omega) sb hqs
  have s3 := qFl c q (by omega) sc hqs
  have hk0 : ∀ (m : Nat), (m : Int) + 1 - 1 = m := fun m => by omega
  have nxt : ∀ {v : Nat}, (L.take (i + 1)).countP (hZ p) = v → i + 1 ≤ L.length := fun _ => h1
  refine zE ?_; refine zE ?_; refine zJ (fun K hK => ?_); simp (disch := omega) only [push_cast, ↓Int.cast_ofNat_Int, simprocAttr, dJ]; refine hK _ ?_; clear hK K
  refine zA ?_
  refine yD rfl ?_
  refine zC ?_; refine zE ?_
  refine zD ?_; refine zE ?_; refine zJ (fun K hK => ?_); simp (disch := omega) only [push_cast, ↓Int.cast_ofNat_Int, simprocAttr, dJ, jT, hg]; refine hK _ ?_; clear hK K
  refine zE ?_; refine zE ?_
  refine qAb (fun _ : Unit => ⟨[(0, .lst false (aS a)), (1, .lst false (aS b)), (2, .lst false (aS c)), (3, .v (.string p)), (8, .v (.bool false)), (9, .own 248), (10, .v (.int .i64 (t : Int))), (11, .v (.int .i64 (i : Int))), (12, .v (.string q)), (60, .v (.bool false))], [(248, .sl true 31 2 (itl L))]⟩) (fun _ => True) [0, 1, 2, 3, 8, 9, 10, 11, 12, 60] [248] ?_ ?_
  ·rcases Nat.eq_zero_or_pos i with rfl | hpos
   ·refine zJ (fun K hK => ?_); simp (disch := omega) only [push_cast, ↓Int.cast_ofNat_Int, simprocAttr, hk0]
    refine aY qLs cp (.cons (.v _) (.cons (.v _) .nil)) ?_
    with_reducible refine aC ?_; simp (disch := omega) only [push_cast, ↓Int.cast_ofNat_Int, simprocAttr, dJ, jT, hg, hk0]
    refine hK _ ?_; clear hK K
    exact ⟨(), by simp only [zZ, zR, zP, zQ, zN, zS, zM, zX, zU, Nat.reduceEqDiff, reduceIte]; try rfl, trivial⟩
   ·obtain ⟨m, rfl⟩ : ∃ m, i = m + 1 := ⟨i - 1, by omega⟩
    have hm : m < L.length := by omega
    have hgm : (itl L).getD m [] = [FV.v (.string L[m].1), .v (.int .i64 L[m].2)] := qB5 hm
    have hbl := hbm m rfl hm
    refine zJ (fun K hK => ?_); simp (disch := omega) only [push_cast, ↓Int.cast_ofNat_Int, simprocAttr, hk0]
    refine aY qLs cp (.cons (.v _) (.cons (.v _) .nil)) ?_
    with_reducible refine aC ?_; simp (disch := omega) only [push_cast, ↓Int.cast_ofNat_Int, simprocAttr, dJ, jT, hg, hk0, hgm, hbl]
    refine hK _ ?_; clear hK K
    exact ⟨(), by simp only [zZ, zR, zP, zQ, zN, zS, zM, zX, zU, Nat.reduceEqDiff, reduceIte]; try rfl, trivial⟩
  intro S' _ hE2 _
  refine zA ?_
  refine yB [0, 1, 2, 3, 8, 9, 10, 11, 12, 60] [248] hE2 ?_
  clear hE2
  refine yC rfl ?_
  refine zC ?_; refine zE ?_
  refine zJ (fun K hK => ?_); simp (disch := omega) only [push_cast, ↓Int.cast_ofNat_Int, simprocAttr]
  refine hat 504 zEa s1 (.cons (aK (yT _)) (.cons (.v _) .nil)) ?_
  rintro _ _ ⟨rfl, rfl⟩
  with_reducible refine aC ?_; simp (disch := omega) only [push_cast, ↓Int.cast_ofNat_Int, simprocAttr]
  refine hat 528 zEa s2 (.cons (aK (yT _)) (.cons (.v _) .nil)) ?_
  rintro _ _ ⟨rfl, rfl⟩
  with_reducible refine aC ?_; simp (disch := omega) only [push_cast, ↓Int.cast_ofNat_Int, simprocAttr]
  refine hat 552 zEa s3 (.cons (aK (yT _)) (.cons (.v _) .nil)) ?_
  rintro _ _ ⟨rfl, rfl⟩
  with_reducible refine aC ?_; simp (disch := omega) only [push_cast, ↓Int.cast_ofNat_Int, simprocAttr]
  refine hK _ ?_; clear hK K
  refine zE ?_; refine zJ (fun K hK => ?_); simp (disch := omega) only [push_cast, ↓Int.cast_ofNat_Int, simprocAttr, dJ, jT, hg]; refine hK _ ?_; clear hK K
  unfold qYy cP at hsd
  dsimp only at hsd
  have fA : (a.filter fun e => bR e.1 q).length ≤ 1048576 := Nat.le_trans (List.length_filter_le ..) ha
  have fB : (b.filter fun e => bR e.1 q).length ≤ 1048576 := Nat.le_trans (List.length_filter_le ..) hb
  have fC : (c.filter fun e => bR e.1 q).length ≤ 1048576 := Nat.le_trans (List.length_filter_le ..) hc
  generalize (a.filter fun e => bR e.1 q) = A at *
  generalize (b.filter fun e => bR e.1 q) = B at *
  generalize (c.filter fun e => bR e.1 q) = C at *
  have cBA := qN9 B A (by omega)
  have cCA := qN9 C A (by omega)
  have cBC := qN9 B C (by omega)
  refine yB [0, 1, 2, 3, 8, 9, 10, 11, 12, 13, 14, 15, 16] [248, 504, 528, 552] (by simp only [zZ, zR, zP, zQ, zN, zS, zM, zX, zU, Nat.reduceEqDiff, reduceIte]; exact rfl) ?_
  refine zE ?_; refine zE ?_
  refine qAb (fun _ : Unit => ⟨[(0, .lst false (aS a)), (1, .lst false (aS b)), (2, .lst false (aS c)), (3, .v (.string p)), (8, .v (.bool false)), (9, .own 248), (10, .v (.int .i64 (t : Int))), (11, .v (.int .i64 (i : Int))), (12, .v (.string q)), (13, .own 504), (14, .own 528), (15, .own 552), (16, .v (.int .i64 n)), (92, .v (.bool false))], [(248, .sl true 31 2 (itl L)), (504, Tr.rowE A), (528, Tr.rowE B), (552, Tr.rowE C)]⟩) (fun _ => True) [0, 1, 2, 3, 8, 9, 10, 11, 12, 13, 14, 15, 16, 92] [248, 504, 528, 552] ?_ ?_
  ·rcases hsd with rfl | ⟨rfl, hs⟩ | ⟨rfl, hs⟩ | ⟨rfl | rfl, -⟩
   ·refine zJ (fun K hK => ?_); simp (disch := omega) only [push_cast, ↓Int.cast_ofNat_Int, simprocAttr]; refine hK _ ?_; clear hK K
    exact ⟨(), by simp only [zZ, zR, zP, zQ, zN, zS, zM, zX, zU, Nat.reduceEqDiff, reduceIte]; try rfl, trivial⟩
   ·rw [decide_eq_true hs] at cBA
    refine zJ (fun K hK => ?_); simp (disch := omega) only [push_cast, ↓Int.cast_ofNat_Int, simprocAttr]
    refine aY qTq cBA (.cons (kD (yT _) rfl) (.cons (kD (yT _) rfl) .nil)) ?_
    with_reducible refine aC ?_; simp (disch := omega) only [push_cast, ↓Int.cast_ofNat_Int, simprocAttr]
    refine hK _ ?_; clear hK K
    exact ⟨(), by simp only [zZ, zR, zP, zQ, zN, zS, zM, zX, zU, Nat.reduceEqDiff, reduceIte]; try rfl, trivial⟩
   ·rw [decide_eq_true hs] at cCA
    refine zJ (fun K hK => ?_); simp (disch := omega) only [push_cast, ↓Int.cast_ofNat_Int, simprocAttr]
    refine aY qTq cCA (.cons (kD (yT _) rfl) (.cons (kD (yT _) rfl) .nil)) ?_
    with_reducible refine aC ?_; simp (disch := omega) only [push_cast, ↓Int.cast_ofNat_Int, simprocAttr]
    refine hK _ ?_; clear hK K
    exact ⟨(), by simp only [zZ, zR, zP, zQ, zN, zS, zM, zX, zU, Nat.reduceEqDiff, reduceIte]; try rfl, trivial⟩
   ·refine zJ (fun K hK => ?_); simp (disch := omega) only [push_cast, ↓Int.cast_ofNat_Int, simprocAttr]; refine hK _ ?_; clear hK K
    exact ⟨(), by simp only [zZ, zR, zP, zQ, zN, zS, zM, zX, zU, Nat.reduceEqDiff, reduceIte]; try rfl, trivial⟩
   ·refine zJ (fun K hK => ?_); simp (disch := omega) only [push_cast, ↓Int.cast_ofNat_Int, simprocAttr]; refine hK _ ?_; clear hK K
    exact ⟨(), by simp only [zZ, zR, zP, zQ, zN, zS, zM, zX, zU, Nat.reduceEqDiff, reduceIte]; try rfl, trivial⟩
  intro S' _ hE2 _
  refine zA ?_
  refine yB [0, 1, 2, 3, 8, 9, 10, 11, 12, 13, 14, 15, 16, 92] [248, 504, 528, 552] hE2 ?_
  clear hE2
  refine yC rfl ?_
  refine zC ?_; refine zE ?_; refine zE ?_
  refine yB [0, 1, 2, 3, 8, 9, 10, 11, 12, 13, 14, 15, 16] [248, 504, 528, 552] (by simp only [zZ, zR, zP, zQ, zN, zS, zM, zX, zU, Nat.reduceEqDiff, reduceIte]; exact rfl) ?_
  skip
  refine qAb (fun _ : Unit => ⟨[(0, .lst false (aS a)), (1, .lst false (aS b)), (2, .lst false (aS c)), (3, .v (.string p)), (8, .v (.bool false)), (9, .own 248), (10, .v (.int .i64 (t : Int))), (11, .v (.int .i64 (i : Int))), (12, .v (.string q)), (16, .v (.int .i64 n)), (113, .v (.bool false))], [(248, .sl true 31 2 (itl L))]⟩) (fun _ => True) [0, 1, 2, 3, 8, 9, 10, 11, 12, 16, 113] [248] ?_ ?_
  ·rcases hsd with rfl | ⟨rfl, hs⟩ | ⟨rfl, hs⟩ | ⟨hn, n1, n2, n3⟩
   ·refine zJ (fun K hK => ?_); simp (disch := omega) only [push_cast, ↓Int.cast_ofNat_Int, simprocAttr]; refine hK _ ?_; clear hK K
    exact ⟨(), by simp only [zZ, zR, zP, zQ, zN, zS, zM, zX, zU, Nat.reduceEqDiff, reduceIte]; try rfl, trivial⟩
   ·refine zJ (fun K hK => ?_); simp (disch := omega) only [push_cast, ↓Int.cast_ofNat_Int, simprocAttr]; refine hK _ ?_; clear hK K
    exact ⟨(), by simp only [zZ, zR, zP, zQ, zN, zS, zM, zX, zU, Nat.reduceEqDiff, reduceIte]; try rfl, trivial⟩
   ·refine zJ (fun K hK => ?_); simp (disch := omega) only [push_cast, ↓Int.cast_ofNat_Int, simprocAttr]; refine hK _ ?_; clear hK K
    exact ⟨(), by simp only [zZ, zR, zP, zQ, zN, zS, zM, zX, zU, Nat.reduceEqDiff, reduceIte]; try rfl, trivial⟩
   ·rw [decide_eq_false n1] at cBA
    rw [decide_eq_false n2] at cCA
    rw [decide_eq_false n3] at cBC
    rcases hn with rfl | rfl
    ·refine zJ (fun K hK => ?_); simp (disch := omega) only [push_cast, ↓Int.cast_ofNat_Int, simprocAttr]
     refine aY qTq cBA (.cons (kD (yT _) rfl) (.cons (kD (yT _) rfl) .nil)) ?_
     with_reducible refine aC ?_; simp (disch := omega) only [push_cast, ↓Int.cast_ofNat_Int, simprocAttr]
     refine aY qTq cCA (.cons (kD (yT _) rfl) (.cons (kD (yT _) rfl) .nil)) ?_
     with_reducible refine aC ?_; simp (disch := omega) only [push_cast, ↓Int.cast_ofNat_Int, simprocAttr]
     refine aY qTq cBC (.cons (kD (yT _) rfl) (.cons (kD (yT _) rfl) .nil)) ?_
     with_reducible refine aC ?_; simp (disch := omega) only [push_cast, ↓Int.cast_ofNat_Int, simprocAttr]
     refine hK _ ?_; clear hK K
     exact ⟨(), by simp only [zZ, zR, zP, zQ, zN, zS, zM, zX, zU, Nat.reduceEqDiff, reduceIte]; try rfl, trivial⟩
    ·refine zJ (fun K hK => ?_); simp (disch := omega) only [push_cast, ↓Int.cast_ofNat_Int, simprocAttr]
     refine aY qTq cBA (.cons (kD (yT _) rfl) (.cons (kD (yT _) rfl) .nil)) ?_
     with_reducible refine aC ?_; simp (disch := omega) only [push_cast, ↓Int.cast_ofNat_Int, simprocAttr]
     refine aY qTq cCA (.cons (kD (yT _) rfl) (.cons (kD (yT _) rfl) .nil)) ?_
     with_reducible refine aC ?_; simp (disch := omega) only [push_cast, ↓Int.cast_ofNat_Int, simprocAttr]
     refine aY qTq cBC (.cons (kD (yT _) rfl) (.cons (kD (yT _) rfl) .nil)) ?_
     with_reducible refine aC ?_; simp (disch := omega) only [push_cast, ↓Int.cast_ofNat_Int, simprocAttr]
     refine hK _ ?_; clear hK K
     exact ⟨(), by simp only [zZ, zR, zP, zQ, zN, zS, zM, zX, zU, Nat.reduceEqDiff, reduceIte]; try rfl, trivial⟩
  intro S' _ hE2 _
  refine zA ?_
  refine yB [0, 1, 2, 3, 8, 9, 10, 11, 12, 16, 113] [248] hE2 ?_
  clear hE2
  refine yC rfl ?_
  refine zC ?_; refine zE ?_
  refine yB [0, 1, 2, 3, 8, 9, 10, 11, 12, 16] [248] (by simp only [zZ, zR, zP, zQ, zN, zS, zM, zX, zU, Nat.reduceEqDiff, reduceIte]; exact rfl) ?_
  have cu := qJa p q hp hqs
  have tb : hZ p (q, n) = (!decide (n = 1) && bR p q) := rfl
  cases h0 : decide (n = 1) with
  | true =>
   rw [tb, h0] at hct
   have hct : (L.take (i + 1)).countP (hZ p) = t := hct
   have hn := of_decide_eq_true h0
   subst hn
   refine zJ (fun K hK => ?_); simp (disch := omega) only [push_cast, ↓Int.cast_ofNat_Int, simprocAttr]; refine hK _ ?_; clear hK K
   refine zA ?_
   refine yC rfl ?_
   refine zC ?_; refine zB ?_; refine zA ?_
   refine zJ (fun K hK => ?_); simp (disch := omega) only [push_cast, ↓Int.cast_ofNat_Int, simprocAttr]; refine hK _ ?_; clear hK K
   refine zA ?_
   exact ⟨i + 1, by simp only [zZ, zR, zP, zQ, zN, zS, zM, zX, zU, Nat.reduceEqDiff, reduceIte]; rw [hct]; rfl, h1, by omega⟩
  | false =>
   rw [tb, h0] at hct
   have hn := of_decide_eq_false h0
   cases hu : bR p q with
   | true =>
    rw [hu] at hct cu
    have hct : (L.take (i + 1)).countP (hZ p) = t + 1 := hct
    have hci : ((t + 1 : Nat) : Int) = (t : Int) + 1 := by omega
    refine zJ (fun K hK => ?_); simp (disch := omega) only [push_cast, ↓Int.cast_ofNat_Int, simprocAttr, h0]
    refine aY zM6 cu (.cons (.v _) (.cons (.v _) .nil)) ?_
    with_reducible refine aC ?_; simp (disch := omega) only [push_cast, ↓Int.cast_ofNat_Int, simprocAttr]
    refine hK _ ?_; clear hK K
    refine zA ?_
    refine yD rfl ?_
    refine zJ (fun K hK => ?_); simp (disch := omega) only [push_cast, ↓Int.cast_ofNat_Int, simprocAttr]; refine hK _ ?_; clear hK K
    refine zB ?_; refine zA ?_
    refine zJ (fun K hK => ?_); simp (disch := omega) only [push_cast, ↓Int.cast_ofNat_Int, simprocAttr]; refine hK _ ?_; clear hK K
    refine zA ?_
    exact ⟨i + 1, by simp only [zZ, zR, zP, zQ, zN, zS, zM, zX, zU, Nat.reduceEqDiff, reduceIte]; rw [hct, hci]; rfl, h1, by omega⟩
   | false =>
    rw [hu] at hct cu
    have hct : (L.take (i + 1)).countP (hZ p) = t := hct
    refine zJ (fun K hK => ?_); simp (disch := omega) only [push_cast, ↓Int.cast_ofNat_Int, simprocAttr, h0]
    refine aY zM6 cu (.cons (.v _) (.cons (.v _) .nil)) ?_
    with_reducible refine aC ?_; simp (disch := omega) only [push_cast, ↓Int.cast_ofNat_Int, simprocAttr]
    refine hK _ ?_; clear hK K
    refine zA ?_
    refine yC rfl ?_
    refine zC ?_; refine zB ?_; refine zA ?_
    refine zJ (fun K hK => ?_); simp (disch := omega) only [push_cast, ↓Int.cast_ofNat_Int, simprocAttr]; refine hK _ ?_; clear hK K
    refine zA ?_
    exact ⟨i + 1, by simp only [zZ, zR, zP, zQ, zN, zS, zM, zX, zU, Nat.reduceEqDiff, reduceIte]; rw [hct]; rfl, h1, by omega⟩
 ·have hi2 : i = L.length := by omega
  subst hi2
  rw [List.take_length]
  generalize L.countP (hZ p) = t at hmo hle ⊢
  have g1 := qU5 b p (by omega)
  have g2 := qU5 c p (by omega)
  generalize eF b p = nb at hle g1
  generalize eF c p = nc at hle g2
  obtain ⟨kb, db⟩ := nb
  obtain ⟨kc, dc⟩ := nc
  have hle2 : decide (kb = kc ∧ db = dc) = true ∨ (decide (kb = kc ∧ db = dc) = false ∧ t = 1) := by
   by_cases he : kb = kc ∧ db = dc
   ·exact .inl (decide_eq_true he)
   ·exact .inr ⟨decide_eq_false he, hle fun z => he (by simpa using z)⟩
  refine zE ?_; refine zE ?_; refine zJ (fun K hK => ?_); simp (disch := omega) only [push_cast, ↓Int.cast_ofNat_Int, simprocAttr, dJ]; refine hK _ ?_; clear hK K
  refine zA ?_
  refine yC rfl ?_
  refine zT ?_; refine zG ?_; refine zG ?_; refine zH ?_; refine zE ?_
  refine zJ (fun K hK => ?_); simp (disch := omega) only [push_cast, ↓Int.cast_ofNat_Int, simprocAttr]
  refine hat 1000 zM5 g1 (.cons (aK (yT _)) (.cons (.v _) .nil)) ?_
  rintro _ _ ⟨rfl, rfl⟩
  with_reducible refine aC ?_; simp (disch := omega) only [push_cast, ↓Int.cast_ofNat_Int, simprocAttr]
  refine hat 1024 zM5 g2 (.cons (aK (yT _)) (.cons (.v _) .nil)) ?_
  rintro _ _ ⟨rfl, rfl⟩
  with_reducible refine aC ?_; simp (disch := omega) only [push_cast, ↓Int.cast_ofNat_Int, simprocAttr]
  refine ⟨_, eqN _ _ _ _, ?_⟩
  with_reducible refine aC ?_; simp (disch := omega) only [push_cast, ↓Int.cast_ofNat_Int, simprocAttr]
  refine hK _ ?_; clear hK K
  rcases hle2 with h | ⟨h, h2⟩
  ·rcases (show t = 0 ∨ t = 1 by omega) with rfl | rfl
   ·refine zE ?_; refine zJ (fun K hK => ?_); simp (disch := omega) only [push_cast, ↓Int.cast_ofNat_Int, simprocAttr, h]; refine hK _ ?_; clear hK K
    refine zA ?_; refine zW ?_
    simp only [yA, yM, yH, yE, aA, aD, yK, yJ, zS, zM, Nat.reduceEqDiff, reduceIte, reduceCtorEq]
    exact aM rfl
   ·refine zE ?_; refine zJ (fun K hK => ?_); simp (disch := omega) only [push_cast, ↓Int.cast_ofNat_Int, simprocAttr, h]; refine hK _ ?_; clear hK K
    refine zA ?_; refine zW ?_
    simp only [yA, yM, yH, yE, aA, aD, yK, yJ, zS, zM, Nat.reduceEqDiff, reduceIte, reduceCtorEq]
    exact aM rfl
  ·subst h2
   refine zE ?_; refine zJ (fun K hK => ?_); simp (disch := omega) only [push_cast, ↓Int.cast_ofNat_Int, simprocAttr, h]; refine hK _ ?_; clear hK K
   refine zA ?_; refine zW ?_
   simp only [yA, yM, yH, yE, aA, aD, yK, yJ, zS, zM, Nat.reduceEqDiff, reduceIte, reduceCtorEq]
   exact aM rfl
theorem qJg (a b c : List Ent) (p : ByteArray) (hu : fw (.lst false (aS a)) + (fw (.lst false (aS b)) + (fw (.lst false (aS c)) + (fw (.v (.string p)) + 0))) ≤ 1048576) : HFun Tryz.prog 7 [.lst false (aS a), .lst false (aS b), .lst false (aS c), .v (.string p)] (fun h st => h = .v (.bool true)) := by
 obtain ⟨h1, h2⟩ := pW a
 obtain ⟨h3, h4⟩ := pW b
 obtain ⟨h5, h6⟩ := pW c
 have h7 := qYd p
 exact qJh a b c p (by omega) (by omega) (by omega) (fun e he => by have := (h2 e he).1; omega) (fun e he => by have := (h4 e he).1; omega) (fun e he => by have := (h6 e he).1; omega) (by omega)
end Go.Proofs.YtdfjeokjmigkaaaGreat
