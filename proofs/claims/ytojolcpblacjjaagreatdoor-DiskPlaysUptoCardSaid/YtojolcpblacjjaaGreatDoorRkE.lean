/-
  The reference's disk: an aQ put: walked.
-/
import Derived.Test.YtojolcpblacjjaaGreatDoorRkD
set_option linter.unusedSimpArgs false
set_option linter.unusedVariables false
set_option maxRecDepth 20000
namespace Go.Dk
open Go Go.Eng Go.Tr
theorem zAt {α : Type} {p : ByteArray} {L : List (ByteArray × α)} {i : Nat} (hi : i ≤ less p L) (h : i < L.length) (hb : blt L[i].1 p = true) : i + 1 ≤ less p L := by
 rcases Nat.lt_or_ge i (less p L) with h1 | h1
 ·exact h1
 ·have e : i = less p L := by omega
  subst e
  rw [qM5 p L h] at hb; cases hb
theorem zC6 {α : Type} {p : ByteArray} {L : List (ByteArray × α)} {i : Nat} (hi : i ≤ less p L) (hb : ∀ h : i < L.length, blt L[i].1 p = false) : i = less p L := by
 rcases Nat.lt_or_ge i (less p L) with h1 | h1
 ·have h2 := qQz p L
  have := qSr p L i (by omega) h1
  rw [hb (by omega)] at this; cases this
 ·omega
theorem zB4 {α : Type} {p : ByteArray} {L : List (ByteArray × α)} (h : less p L < L.length) : gF p L = if L[less p L].1 = p then 1 else 0 := by
 rw [gF, List.getElem?_eq_getElem h]
theorem qVo {α : Type} {p : ByteArray} {L : List (ByteArray × α)} (h : ¬ less p L < L.length) : gF p L = 0 := by
 rw [gF, List.getElem?_eq_none (by omega)]
theorem zC3 {α : Type} {L : List α} {i k : Nat} (h : i < L.length) (hk : k ≤ i) : (L.take (i + 1)).drop k = (L.take i).drop k ++ [L[i]] := by
 rw [List.take_succ_eq_append_getElem h, List.drop_append_of_le_length (by rw [List.length_take]; omega)]
abbrev qR7 (p : ByteArray) (x : Itm) (L : LI) (R : LN) (fr nw : Bool) (steps stamps armed : Int) (down : Bool) (out : LI) : aN := [(9000, .sl true 37 7 (dS out)), (24, .bx true 37 [.v (.string p), .v (.bool x.dir), .v (.string x.data), .v (.string x.kept), .v (.bool x.loose), .v (.bool x.anew), .v (.int .i64 x.stamp)]), (0, .bx false 35 [.lst fr (dS L), .own 1, .v (.int .i64 steps), .v (.int .i64 stamps), .v (.int .i64 armed), .v (.bool down)]), (1, .sl nw 76 2 (rms R))]
end Go.Dk
namespace Go.Proofs.YtojolcpblacjjaaGreatDoor
open Go Go.Eng Go.RowKit Go.Tr Go.Dk
set_option maxHeartbeats 4000000 in
theorem qAx (d : Dk) (R : LN) (fr nw : Bool) (p : ByteArray) (x : Itm) (hr : gW d.L) (hl : d.L.length ≤ 4194304) : HFunS Tryz.prog 52 [.ptr 0 6 0 0, zH8 p x] (rst d R fr nw) (fun h st => h = .tup [] ∧ st = rst { d with L := put p x d.L } R true nw) := by
 refine kJ (N := 87) Tryz.func52 rfl Tryz.ntmps52 Tryz.results52 (by simp) ?_
 obtain ⟨L, Rq, steps, stamps, armed, down, n, m⟩ := d
 simp only [rst, eF] at hl hr ⊢
 have hps := qMl p x hr
 have hle := qQz p L
 refine zE ?_; refine zJ (fun K hK => ?_); simp (disch := omega) only [push_cast, ↓Int.cast_ofNat_Int, simprocAttr]; refine hK _ ?_; clear hK K
 refine zE ?_; refine zJ (fun K hK => ?_); simp (disch := omega) only [push_cast, ↓Int.cast_ofNat_Int, simprocAttr]; refine hK _ ?_; clear hK K
 refine zE ?_; refine zJ (fun K hK => ?_); simp (disch := omega) only [push_cast, ↓Int.cast_ofNat_Int, simprocAttr]; refine hK _ ?_; clear hK K
 refine zE ?_; refine zD ?_
 refine qFv 4 9000 37 7 rfl (by simp only [xZ, qDb, qDd, fY, eV, fP, eN, lC, fW, iA, fV, fU, iT, fX, fT, eU, iM, iP, iN, lA, tA, nE, Nat.reduceBEq, Nat.reduceEqDiff, reduceIte, cond_true, cond_false, List.map_cons, List.map_nil]; exact rfl) ?_
 refine dU (fun i : Nat => ⟨[(0, .ptr 0 6 0 0), (3, .ptr 24 7 0 0), (4, .own 9000), (5, .v (.int .i64 i))], qR7 p x L R fr nw steps stamps armed down (L.take i)⟩) (fun i => i ≤ less p L) (fun i => L.length - i) [0, 3, 4, 5] [9000, 24, 0, 1] 0 (by simp only [zZ, zR, zP, zQ, zN, zS, zM, zX, zU, Nat.reduceEqDiff, reduceIte]; rfl) (Nat.zero_le _) ?_
 rintro i hi
 have hil : i ≤ L.length := by omega
 by_cases hc : ∃ h : i < L.length, blt L[i].1 p = true
 ·obtain ⟨hlt, hb⟩ := hc
  have hn := zAt hi hlt hb
  have hb3 : Op.bytesLess L[i].1.toList p.toList = true := hb
  have htl : (L.take i).length ≤ i := by rw [List.length_take]; omega
  have hts : dS (L.take (i + 1)) = dS (L.take i) ++ [[.v (.string L[i].1), .v (.bool L[i].2.dir), .v (.string L[i].2.data), .v (.string L[i].2.kept), .v (.bool L[i].2.loose), .v (.bool L[i].2.anew), .v (.int .i64 L[i].2.stamp)]] := by rw [List.take_succ_eq_append_getElem hlt, ← uJ]
  refine zE ?_; refine zE ?_; refine HW_drw 20 mixed (by kernel_rfl) (fun K hK => ?_); simp (disch := omega) only [push_cast, ↓Int.cast_ofNat_Int, simprocAttr, bD, bQ, bV hlt, hb3]
  with_reducible refine aM ?_; simp (disch := omega) only [push_cast, ↓Int.cast_ofNat_Int, simprocAttr]
  refine hK _ ?_; clear hK K
  refine yD rfl ?_
  refine zC ?_; refine zA ?_
  refine zD ?_; refine zE ?_; refine zJ (fun K hK => ?_); simp (disch := omega) only [push_cast, ↓Int.cast_ofNat_Int, simprocAttr, bD, bQ, bV hlt]
  (repeat refine ⟨by first | omega | decide | ((repeat' apply And.intro) <;> first | omega | decide), ?_⟩)
  refine hK _ ?_; clear hK K
  refine zA ?_; refine zJ (fun K hK => ?_); simp (disch := omega) only [push_cast, ↓Int.cast_ofNat_Int, simprocAttr]; refine hK _ ?_; clear hK K
  refine zB ?_; refine zA ?_
  exact ⟨i + 1, by simp only [zZ, zR, zP, zQ, zN, zS, zM, zX, zU, Nat.reduceEqDiff, reduceIte, qR7]; rw [hts]; rfl, hn, by omega⟩
 have hie : i = less p L := zC6 hi fun h => by
  cases hb : blt L[i].1 p with
  | false => rfl
  | true => exact absurd ⟨h, hb⟩ hc
 refine zE ?_; refine zE ?_
 refine lF (fun _ : Unit => ⟨[(0, .ptr 0 6 0 0), (3, .ptr 24 7 0 0), (4, .own 9000), (5, .v (.int .i64 i)), (25, .v (.bool false))], qR7 p x L R fr nw steps stamps armed down (L.take i)⟩) (fun _ => True) [0, 3, 4, 5, 25] [9000, 24, 0, 1] ?_ ?_
 ·by_cases hlt : i < L.length
  ·have hb3 : Op.bytesLess L[i].1.toList p.toList = false := by
    cases hb : Op.bytesLess L[i].1.toList p.toList with
    | false => rfl
    | true => exact absurd ⟨hlt, hb⟩ hc
   refine HW_drw 20 mixed (by kernel_rfl) (fun K hK => ?_); simp (disch := omega) only [push_cast, ↓Int.cast_ofNat_Int, simprocAttr, bD, bQ, bV hlt, hb3]
   with_reducible refine aM ?_; simp (disch := omega) only [push_cast, ↓Int.cast_ofNat_Int, simprocAttr]
   refine hK _ ?_; clear hK K
   exact ⟨(), by simp only [zZ, zR, zP, zQ, zN, zS, zM, zX, zU, Nat.reduceEqDiff, reduceIte]; try rfl, trivial⟩
  ·refine HW_drw 20 mixed (by kernel_rfl) (fun K hK => ?_); simp (disch := omega) only [push_cast, ↓Int.cast_ofNat_Int, simprocAttr, bD]
   with_reducible refine aM ?_; simp (disch := omega) only [push_cast, ↓Int.cast_ofNat_Int, simprocAttr]
   refine hK _ ?_; clear hK K
   exact ⟨(), by simp only [zZ, zR, zP, zQ, zN, zS, zM, zX, zU, Nat.reduceEqDiff, reduceIte]; try rfl, trivial⟩
 intro S' _ hE _
 refine zA ?_
 refine yB [0, 3, 4, 5, 25] [9000, 24, 0, 1] hE ?_
 clear hE
 refine yC rfl ?_
 refine zT ?_; refine zG ?_; refine zG ?_; refine zH ?_; refine zE ?_; refine zE ?_
 subst hie
 clear hi hil hc
 generalize hk0 : less p L = k at *
 have hs1 : k + gF p L ≤ L.length := by
  rw [gF, hk0]
  split
  ·rename_i e he
   have := (List.getElem?_eq_some_iff.1 he).1
   split <;> omega
  ·omega
 skip
 refine lF (fun _ : Unit => ⟨[(0, .ptr 0 6 0 0), (3, .ptr 24 7 0 0), (4, .own 9000), (5, .v (.int .i64 k)), (57, .v (.bool (decide (gF p L = 1))))], qR7 p x L R fr nw steps stamps armed down (L.take k)⟩) (fun _ => True) [0, 3, 4, 5, 57] [9000, 24, 0, 1] ?_ ?_
 ·by_cases hlt : k < L.length
  ·have e1 : gF p L = if L[k].1 = p then 1 else 0 := by subst hk0; exact zB4 hlt
   by_cases he : L[k].1 = p
   ·have hd : decide (L[k].1 = p) = true := decide_eq_true he
    rw [if_pos he] at e1
    rw [e1]
    refine HW_drw 20 mixed (by kernel_rfl) (fun K hK => ?_); simp (disch := omega) only [push_cast, ↓Int.cast_ofNat_Int, simprocAttr, bD, bQ, bV hlt, hd]
    with_reducible refine aM ?_; simp (disch := omega) only [push_cast, ↓Int.cast_ofNat_Int, simprocAttr]
    refine hK _ ?_; clear hK K
    exact ⟨(), by simp only [zZ, zR, zP, zQ, zN, zS, zM, zX, zU, Nat.reduceEqDiff, reduceIte]; try rfl, trivial⟩
   ·have hd : decide (L[k].1 = p) = false := decide_eq_false he
    rw [if_neg he] at e1
    rw [e1]
    refine HW_drw 20 mixed (by kernel_rfl) (fun K hK => ?_); simp (disch := omega) only [push_cast, ↓Int.cast_ofNat_Int, simprocAttr, bD, bQ, bV hlt, hd]
    with_reducible refine aM ?_; simp (disch := omega) only [push_cast, ↓Int.cast_ofNat_Int, simprocAttr]
    refine hK _ ?_; clear hK K
    exact ⟨(), by simp only [zZ, zR, zP, zQ, zN, zS, zM, zX, zU, Nat.reduceEqDiff, reduceIte]; try rfl, trivial⟩
  ·have e1 : gF p L = 0 := by subst hk0; exact qVo hlt
   rw [e1]
   refine HW_drw 20 mixed (by kernel_rfl) (fun K hK => ?_); simp (disch := omega) only [push_cast, ↓Int.cast_ofNat_Int, simprocAttr, bD]
   with_reducible refine aM ?_; simp (disch := omega) only [push_cast, ↓Int.cast_ofNat_Int, simprocAttr]
   refine hK _ ?_; clear hK K
   exact ⟨(), by simp only [zZ, zR, zP, zQ, zN, zS, zM, zX, zU, Nat.reduceEqDiff, reduceIte]; try rfl, trivial⟩
 intro S' _ hE _
 refine zA ?_
 refine yB [0, 3, 4, 5, 57] [9000, 24, 0, 1] hE ?_
 clear hE
 have h01 : gF p L = 1 ∨ gF p L = 0 := by
  rw [gF]
  split
  ·split <;> simp
  ·simp
 obtain ⟨q, hq⟩ : ∃ q, k + gF p L = q := ⟨_, rfl⟩
 rw [hq] at hs1 hps
 skip
 refine lF (fun _ : Unit => ⟨[(0, .ptr 0 6 0 0), (3, .ptr 24 7 0 0), (4, .own 9000), (5, .v (.int .i64 q))], qR7 p x L R fr nw steps stamps armed down (L.take k)⟩) (fun _ => True) [0, 3, 4, 5] [9000, 24, 0, 1] ?_ ?_
 ·rcases h01 with h1 | h1
  ·rw [h1] at hq ⊢
   refine yD rfl ?_
   refine zJ (fun K hK => ?_); simp (disch := omega) only [push_cast, ↓Int.cast_ofNat_Int, simprocAttr]; refine hK _ ?_; clear hK K
   exact ⟨(), by simp only [zZ, zR, zP, zQ, zN, zS, zM, zX, zU, Nat.reduceEqDiff, reduceIte]; rw [← hq]; rfl, trivial⟩
  ·rw [h1] at hq ⊢
   refine yC rfl ?_
   refine zC ?_
   exact ⟨(), by simp only [zZ, zR, zP, zQ, zN, zS, zM, zX, zU, Nat.reduceEqDiff, reduceIte]; rw [← hq]; rfl, trivial⟩
 intro S' _ hE _
 refine zE ?_
 refine yB [0, 3, 4, 5] [9000, 24, 0, 1] hE ?_
 clear hE
 have hkl : (L.take k).length ≤ k := by rw [List.length_take]; omega
 refine zJ (fun K hK => ?_); simp (disch := omega) only [push_cast, ↓Int.cast_ofNat_Int, simprocAttr, bD, bQ]
 (repeat refine ⟨by first | omega | decide | ((repeat' apply And.intro) <;> first | omega | decide), ?_⟩)
 refine hK _ ?_; clear hK K
 refine zE ?_; refine zD ?_
 have hone : dS (L.take k ++ [(p, x)]) = dS (L.take k) ++ [[.v (.string p), .v (.bool x.dir), .v (.string x.data), .v (.string x.kept), .v (.bool x.loose), .v (.bool x.anew), .v (.int .i64 x.stamp)]] := by rw [← uJ]
 have hqq : (L.take q).drop q = [] := List.drop_of_length_le (by rw [List.length_take]; omega)
 refine dU (fun i : Nat => ⟨[(0, .ptr 0 6 0 0), (3, .ptr 24 7 0 0), (4, .own 9000), (5, .v (.int .i64 i))], qR7 p x L R fr nw steps stamps armed down (L.take k ++ [(p, x)] ++ (L.take i).drop q)⟩) (fun i => q ≤ i ∧ i ≤ L.length) (fun i => L.length - i) [0, 3, 4, 5] [9000, 24, 0, 1] q (by simp only [zZ, zR, zP, zQ, zN, zS, zM, zX, zU, Nat.reduceEqDiff, reduceIte, qR7]; rw [hqq, List.append_nil, hone]) ⟨Nat.le_refl _, hs1⟩ ?_
 rintro i ⟨hqi, hil⟩
 by_cases hlt : i < L.length
 ·have hml : (L.take k ++ [(p, x)] ++ (L.take i).drop q).length ≤ 8388610 := by
   simp only [List.length_append, List.length_take, List.length_drop, List.length_singleton]; omega
  have hmn : L.take k ++ [(p, x)] ++ (L.take (i + 1)).drop q = (L.take k ++ [(p, x)] ++ (L.take i).drop q) ++ [L[i]] := by rw [zC3 hlt hqi, List.append_assoc _ _ [L[i]]]
  have hms : dS (L.take k ++ [(p, x)] ++ (L.take (i + 1)).drop q) = dS (L.take k ++ [(p, x)] ++ (L.take i).drop q) ++ [[.v (.string L[i].1), .v (.bool L[i].2.dir), .v (.string L[i].2.data), .v (.string L[i].2.kept), .v (.bool L[i].2.loose), .v (.bool L[i].2.anew), .v (.int .i64 L[i].2.stamp)]] := by rw [hmn, ← uJ]
  generalize L.take k ++ [(p, x)] ++ (L.take i).drop q = out at *
  refine zE ?_; refine zE ?_; refine zJ (fun K hK => ?_); simp (disch := omega) only [push_cast, ↓Int.cast_ofNat_Int, simprocAttr, bD]; refine hK _ ?_; clear hK K
  refine zA ?_
  refine yD rfl ?_
  refine zC ?_; refine zA ?_
  refine zD ?_; refine zE ?_; refine zJ (fun K hK => ?_); simp (disch := omega) only [push_cast, ↓Int.cast_ofNat_Int, simprocAttr, bD, bQ, bV hlt]
  (repeat refine ⟨by first | omega | decide | ((repeat' apply And.intro) <;> first | omega | decide), ?_⟩)
  refine hK _ ?_; clear hK K
  refine zA ?_; refine zJ (fun K hK => ?_); simp (disch := omega) only [push_cast, ↓Int.cast_ofNat_Int, simprocAttr]; refine hK _ ?_; clear hK K
  refine zB ?_; refine zA ?_
  exact ⟨i + 1, by simp only [zZ, zR, zP, zQ, zN, zS, zM, zX, zU, Nat.reduceEqDiff, reduceIte, qR7]; rw [hms]; rfl, ⟨by omega, hlt⟩, by omega⟩
 ·have hne : i = L.length := by omega
  subst hne
  have hfin : L.take k ++ [(p, x)] ++ (L.take L.length).drop q = put p x L := by rw [List.take_length, hps]; simp
  rw [hfin]
  refine zE ?_; refine zE ?_; refine zJ (fun K hK => ?_); simp (disch := omega) only [push_cast, ↓Int.cast_ofNat_Int, simprocAttr, bD]; refine hK _ ?_; clear hK K
  refine zA ?_
  refine yC rfl ?_
  refine zT ?_; refine zG ?_; refine zG ?_; refine zH ?_; refine zA ?_
  refine qC2 9000 rfl (by simp only [xS, tF, nF, rL, mZ, qDp, sX, sY, nD, sW, sU, yR, sZ, sT, xN, xP, xQ, Nat.reduceEqDiff, reduceIte, List.map_cons, List.map_nil, List.map_append]; exact rfl) ?_
  refine zJ (fun K hK => ?_); simp (disch := omega) only [push_cast, ↓Int.cast_ofNat_Int, simprocAttr]; refine hK _ ?_; clear hK K
  skip
  simp only [aK, aR, yH, yE, yK, yJ, aG, zS, zM, Nat.reduceEqDiff, reduceIte, reduceCtorEq]
  refine cJ [0, 1] (by decide) (by decide) (by simp only [push_cast, simprocAttr]) (by simp only [push_cast, simprocAttr]) (by simp only [push_cast, simprocAttr]; rfl) (by simp only [push_cast, simprocAttr]; rfl) ?_
  exact ⟨rfl, rfl⟩
end Go.Proofs.YtojolcpblacjjaaGreatDoor
