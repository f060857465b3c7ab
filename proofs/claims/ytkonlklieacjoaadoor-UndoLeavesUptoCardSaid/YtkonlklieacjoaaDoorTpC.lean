/-
  slices.Delete, slices.Insert of a tree: their contracts.
-/
import Derived.Test.YtkonlklieacjoaaDoorTpB
import Derived.Test.YtkonlklieacjoaaDoorTrQ
set_option linter.unusedSimpArgs false
set_option linter.unusedVariables false
set_option maxRecDepth 20000
namespace Go.Proofs.YtkonlklieacjoaaDoor
open Go Go.Eng Go.RowKit Go.Tr
theorem del_flat (t : List Ent) (i : Nat) : delCells (flatE t) i = flatE (t.eraseIdx i) := by
 rw [List.eraseIdx_eq_take_drop_succ, flatE_app, flatE_take, flatE_drop]; rfl
theorem ins_flat (t : List Ent) (i : Nat) (e : Ent) : insCells (flatE t) i (flatE [e]) = flatE (t.take i ++ e :: t.drop i) := by
 rw [show e :: t.drop i = [e] ++ t.drop i from rfl, flatE_app, flatE_app, flatE_take, flatE_drop, insCells, List.append_assoc]
theorem delete_H (t : List Ent) (i : Nat) (hi : i < t.length) : HFunS Tryd.prog 55 [.own 0, .v (.int .i64 i), .v (.int .i64 ((i : Int) + 1))] [(0, rowE t)] (fun h st => h = .own 0 ∧ st = [(0, rowE (t.eraseIdx i))]) := by
 intro c w ρ xs vs hw G R
 obtain ⟨R1, R2⟩ := R
 match vs, R1 with
 | [v0, v1, v2], _ =>
 have r0 := R2 0 (by simp) (by simp)
 have r1 := R2 1 (by simp) (by simp)
 have r2 := R2 2 (by simp) (by simp)
 simp only [List.getElem_cons_zero, List.getElem_cons_succ] at r0 r1 r2
 cases r1
 cases r2
 cases r0
 obtain ⟨g, cap, cur, e0, b1, b2, b3, b4, b5⟩ := row_flat (id := 0) G rfl (by omega)
 have h := delete_calls w g t.length cap i (i + 1) cur b1 b2 b3 b4 rfl (by omega) (by rw [b5]; exact flatE_one t)
 rw [e0]
 refine Ret.mono h ?_
 rintro r w' ⟨rfl, hO, cur', d1, d2, d3⟩
 rw [b5, del_flat] at d3
 have hl : (t.eraseIdx i).length = t.length - 1 := by rw [List.length_eraseIdx, if_pos hi]
 refine fin_row G hw (t0 := t) (t := t.eraseIdx i) rfl (fun j h => ?_) ?_ ?_ ?_ rfl
 ·match j, h with
  | 0, h => exact h
  | j + 1, h => exact h
 ·rw [hl]
  exact ⟨by rw [flatE_len, hl], .inr ⟨g, cap, cur', rfl, Nat.zero_le _, d1, by omega, b3, d2, d3⟩⟩
 ·rw [e0]
  exact ⟨hO.os, hO.tape, hO.output, Nat.le_of_eq hO.size.symm, fun b _ hb => hO.block b fun e => hb (by rw [e]; rfl)⟩
 ·intro b hb
  right
  rw [e0]
  exact hb
theorem insert_H (t : List Ent) (i : Nat) (e : Ent) (hi : i ≤ t.length) (hl : t.length ≤ 1048576) : HFunS Tryd.prog 56 [.own 0, .v (.int .i64 i), .own 1] [(0, rowE t), (1, rowE [e])] (fun h st => h = .own 0 ∧ st = [(0, rowE (t.take i ++ e :: t.drop i))]) := by
 by_cases hlt : i < t.length
 ·intro c w ρ xs vs hw G R
  obtain ⟨R1, R2⟩ := R
  match vs, R1 with
  | [v0, v1, v2], _ =>
  have r0 := R2 0 (by simp) (by simp)
  have r1 := R2 1 (by simp) (by simp)
  have r2 := R2 2 (by simp) (by simp)
  simp only [List.getElem_cons_zero, List.getElem_cons_succ] at r0 r1 r2
  cases r1
  cases r0
  cases r2
  obtain ⟨g, cap, cur, e0, b1, b2, b3, b4, b5⟩ := row_flat (id := 0) G rfl (by omega)
  obtain ⟨vb, vc, cv, e1, c1, c2, c3, c4, c5⟩ := row_flat (id := 1) (t := [e]) G rfl (by simp)
  have hne : vb ≠ g := fun h => G.apart 0 1 _ _ g (by omega) rfl rfl (by rw [e0]; rfl) (by rw [e1, h]; rfl)
  have hbx : ∀ j, ¬ isBx (rlk [(0, rowE t), (1, rowE [e])] j) := fun j h => by
   match j, h with
   | 0, h => exact h
   | 1, h => exact h
   | j + 2, h => exact h
  have hlen : (t.take i ++ e :: t.drop i).length = t.length + 1 := by simp; omega
  rw [e0, e1]
  simp only [List.length_singleton, Nat.one_mul] at c2 c5
  by_cases hroom : t.length + 1 ≤ cap
  ·refine Ret.mono (insert_shift w g t.length cap i vb vc cur cv b1 c1 hne hroom b3 b4 c4 c2 hlt (by rw [b5]; exact flatE_one t) (by rw [c5]; exact flatE_one _)) ?_
   rintro r w' ⟨rfl, hO, cur', d1, d2, d3⟩
   rw [b5, c5, ins_flat] at d3
   refine fin_row G hw (t0 := t) (t := t.take i ++ e :: t.drop i) rfl hbx ?_ ?_ ?_ rfl
   ·rw [hlen]
    exact ⟨by rw [flatE_len, hlen], .inr ⟨g, cap, cur', rfl, Nat.zero_le _, d1, hroom, b3, d2, d3⟩⟩
   ·rw [e0]
    exact ⟨hO.os, hO.tape, hO.output, Nat.le_of_eq hO.size.symm, fun b _ hb => hO.block b fun e => hb (by rw [e]; rfl)⟩
   ·intro b hb
    right
    rw [e0]
    exact hb
  ·refine Ret.mono (insert_grow w g t.length cap i vb vc cur cv b1 c1 b2 (by omega) (by omega) b4 c4 c2 hlt (by rw [b5]; exact flatE_one t) (by rw [c5]; exact flatE_one _)) ?_
   rintro r w' ⟨G', rfl, g1, g2, hB, cur', d1, d2, d3⟩
   rw [b5, c5, ins_flat] at d3
   refine fin_row G hw (t0 := t) (t := t.take i ++ e :: t.drop i) rfl hbx ?_ ?_ ?_ rfl
   ·rw [hlen]
    exact ⟨by rw [flatE_len, hlen], .inr ⟨_, G', cur', rfl, Nat.zero_le _, d1, g1, g2, d2, d3⟩⟩
   ·exact ⟨hB.os, hB.tape, hB.output, hB.size, fun b hlt _ => hB.block b hlt⟩
   ·intro b hb
    left
    simp only [Value.ownBlock, Option.some.injEq] at hb
    omega
 ·have hie : i = t.length := by omega
  subst hie
  rw [List.take_length, List.drop_length]
  exact insEnd_H t e hl
end Go.Proofs.YtkonlklieacjoaaDoor
