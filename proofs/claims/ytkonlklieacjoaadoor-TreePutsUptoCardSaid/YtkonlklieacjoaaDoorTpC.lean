/-
  slices.Delete, slices.Insert of a tree: their contracts.
-/
import Derived.Test.YtkonlklieacjoaaDoorTpB
import Derived.Test.YtkonlklieacjoaaDoorTrQ
set_option linter.unusedSimpArgs false
set_option linter.unusedVariables false
set_option maxRecDepth 20000
namespace Go.Tr
open Go Go.Eng Go.RowKit
def flatE : List Ent → List Value
 | [] => []
 | e :: r => .string e.1 :: .int .i64 e.2.1 :: .string e.2.2 :: flatE r
theorem flatE_len : ∀ t : List Ent, (flatE t).length = t.length * 3
 | [] => rfl
 | e :: r => by simp only [flatE, List.length_cons, flatE_len r]; omega
theorem flatE_app : ∀ a b : List Ent, flatE (a ++ b) = flatE a ++ flatE b
 | [], b => rfl
 | e :: r, b => by simp [flatE, flatE_app r b]
theorem flatE_take : ∀ (t : List Ent) (i : Nat), flatE (t.take i) = (flatE t).take (i * 3)
 | [], i => by simp [flatE]
 | e :: r, 0 => by simp [flatE]
 | e :: r, i + 1 => by
  rw [List.take_succ_cons, show (i + 1) * 3 = i * 3 + 1 + 1 + 1 by omega]
  simp only [flatE, List.take_succ_cons, flatE_take r i]
theorem flatE_drop : ∀ (t : List Ent) (i : Nat), flatE (t.drop i) = (flatE t).drop (i * 3)
 | [], i => by simp [flatE]
 | e :: r, 0 => by simp [flatE]
 | e :: r, i + 1 => by
  rw [List.drop_succ_cons, show (i + 1) * 3 = i * 3 + 1 + 1 + 1 by omega]
  simp only [flatE, List.drop_succ_cons, flatE_drop r i]
theorem flatE_one : ∀ (t : List Ent), ∀ u ∈ flatE t, u.oneCell' = true
 | [], u, h => by simp [flatE] at h
 | e :: r, u, h => by
  simp only [flatE, List.mem_cons] at h
  rcases h with rfl | rfl | rfl | h
  ·rfl
  ·rfl
  ·rfl
  ·exact flatE_one r u h
theorem flatE_get : ∀ (t : List Ent) (i k : Nat) (hi : i < (ents t).length) (hk : k < (ents t)[i].length), ∃ x, (ents t)[i][k] = .v x ∧ (flatE t)[i * 3 + k]? = some x ∧ x.oneCell' = true
 | [], i, k, hi, _ => by simp [ents] at hi
 | e :: r, 0, k, hi, hk => by
  have e0 : (ents (e :: r))[0] = [.v (.string e.1), .v (.int .i64 e.2.1), .v (.string e.2.2)] := rfl
  simp only [e0, List.length_cons, List.length_nil] at hk
  match k, hk with
  | 0, _ => exact ⟨.string e.1, rfl, rfl, rfl⟩
  | 1, _ => exact ⟨.int .i64 e.2.1, rfl, rfl, rfl⟩
  | 2, _ => exact ⟨.string e.2.2, rfl, rfl, rfl⟩
 | e :: r, i + 1, k, hi, hk => by
  obtain ⟨x, h1, h2, h3⟩ := flatE_get r i k (by simpa [ents] using hi) hk
  refine ⟨x, h1, ?_, h3⟩
  rw [show (i + 1) * 3 + k = i * 3 + k + 1 + 1 + 1 by omega]
  simpa [flatE] using h2
theorem flat_eq {w : World} {A : Nat → Prop} {n0 : Nat} {arr : List Value} {t : List Ent} (hl : arr.length = t.length * 3) (hw : ∀ x ∈ ents t, x.length = 3) (h : ∀ i k (hi : i < (ents t).length) (hk : k < (ents t)[i].length), ∃ u, arr[i * 3 + k]? = some u ∧ u.oneCell' = true ∧ RepF w A n0 u (ents t)[i][k]) : arr = flatE t := by
 apply List.ext_getElem?
 intro p
 by_cases hp : p < t.length * 3
 ·have hi : p / 3 < (ents t).length := by rw [yV]; omega
  have hk : p % 3 < (ents t)[p / 3].length := by rw [hw _ (List.getElem_mem _)]; omega
  obtain ⟨u, u1, -, u3⟩ := h (p / 3) (p % 3) hi hk
  obtain ⟨x, h1, h2, -⟩ := flatE_get t (p / 3) (p % 3) hi hk
  rw [h1] at u3
  cases u3
  rw [show p / 3 * 3 + p % 3 = p by omega] at u1 h2
  rw [u1, h2]
 ·rw [List.getElem?_eq_none (by omega), List.getElem?_eq_none (by rw [flatE_len]; omega)]
end Go.Tr
namespace Go.Proofs.YtkonlklieacjoaaDoor
open Go Go.Eng Go.RowKit Go.Tr
theorem del_flat (t : List Ent) (i : Nat) : delCells (flatE t) i = flatE (t.eraseIdx i) := by
 rw [List.eraseIdx_eq_take_drop_succ, flatE_app, flatE_take, flatE_drop]; rfl
theorem ins_flat (t : List Ent) (i : Nat) (e : Ent) : insCells (flatE t) i (flatE [e]) = flatE (t.take i ++ e :: t.drop i) := by
 rw [show e :: t.drop i = [e] ++ t.drop i from rfl, flatE_app, flatE_app, flatE_take, flatE_drop, insCells, List.append_assoc]
theorem row_flat {c : Ctx} {S : HS} {look : Nat → Option Value} {w : World} {ρ : Nat → Value} {xs : Nat → List Value} (G : Eng.Good c S look w ρ xs) {id : Nat} {t : List Ent} (hr : rlk S.st id = some (rowE t)) (h0 : 0 < t.length) :
  ∃ g cap cur, ρ id = .slice (some ⟨g, 0, none⟩) t.length cap ∧ Blk w g cur 68 ∧ t.length ≤ cap ∧ cap ≤ maxLen ∧ cur.size = cap * 3 ∧ cur.toList.take (t.length * 3) = flatE t := by
 obtain ⟨o1, o2, o3⟩ := rows_sl G hr
 rw [yV] at o1
 obtain ⟨g, cap, hv, h1, h2, -⟩ := own_some o1 h0
 rw [hv] at o1
 obtain ⟨cur, b1, b2, b3, b4, b5⟩ := own_blk o1
 have := flat_eq o1.1 o2 o3
 exact ⟨g, cap, cur, hv, b1, b2, b3, b4, by rw [b5, this]⟩
theorem fin_row {c : Ctx} {st : Store} {w w' : World} {ρ : Nat → Value} {xs : Nat → List Value} (G : Eng.Good c ⟨[], st⟩ (fun _ => none) w ρ xs) (hw : c.w0 = w) {t0 t : List Ent} (hr : rlk st 0 = some (rowE t0)) (hbx : ∀ j, ¬ isBx (rlk st j)) {v : Value}
  (hO : Own w' 0 68 3 v t.length (flatE t)) (hg : w.grownBy w' (ρ 0).ownBlock) (hb : ∀ b, v.ownBlock = some b → w.heap.size ≤ b ∨ (ρ 0).ownBlock = some b) (h1 : v.oneCell' = true) :
  ∃ h st' ρ' xs', (∀ i r, rlk st' i = some r → i < 8) ∧ (∀ j, isBx (rlk st j) → isBx (rlk st' j)) ∧ (h = .own 0 ∧ st' = [(0, rowE t)]) ∧ Eng.Good c ⟨[], st'⟩ (fun _ => none) w' ρ' xs' ∧ RepH w' (c.A ρ' st') c.n0 ρ' v h := by
 have hn0 := c.hn
 have hnew := (G.rows 0 _ hr).new
 refine ⟨_, [(0, rowE t)], fun _ => v, fun _ => flatE t, fun i r h => ?_, fun j h => (hbx j h).elim, ⟨rfl, rfl⟩, ⟨fun i r h => ?_, fun i j r s b hne h h' => ?_, fun k h hk => by simp [hlk] at hk, G.kept.trans (T' := fun b => (ρ 0).ownBlock = some b) ⟨hg.os, hg.tape, hg.output, hg.size, fun b hlt hne => hg.block b hlt fun e => hne e.symm⟩ (fun b hlt hT => ?_), G.a0⟩, .own 0 h1⟩
 ·simp only [rlk] at h
  split at h
  ·omega
  ·cases h
 ·simp only [rlk] at h
  split at h
  ·rename_i e
   simp only [Option.some.injEq] at h
   subst h
   refine ⟨by simpa [Row.ty, Row.sz, Row.len, yV] using hO, ⟨of_eq_true (yU _), fun i k hi hk => ?_⟩, fun b hb' => ?_⟩
   ·obtain ⟨x, h1, h2, h3⟩ := flatE_get t i k hi hk
    exact ⟨x, h2, h3, by rw [h1]; exact .v x⟩
   ·rcases hb b hb' with h | h
    ·rw [hw] at hn0 ⊢
     exact ⟨.inl h, fun _ => by omega⟩
    ·exact hnew b h
  ·cases h
 ·simp only [rlk] at h h'
  split at h
  ·split at h'
   ·omega
   ·cases h'
  ·cases h
 ·rcases (hnew b hT).1 with h | h
  ·omega
  ·exact h
theorem delete_H (t : List Ent) (i : Nat) (hi : i < t.length) : HFunS Tryd.prog 55 [.own 0, .v (.int .i64 i), .v (.int .i64 ((i : Int) + 1))] [(0, rowE t)] (fun h st => h = .own 0 ∧ st = [(0, rowE (t.eraseIdx i))]) := by
 intro c w ρ xs vs hw G R
 obtain ⟨R1, R2⟩ := R
 match vs, R1 with
 | [v0, v1, v2], _ =>
 have r0 := R2 0 (by simp) (by simp)
 have r1 := R2 1 (by simp) (by simp)
 have r2 := R2 2 (by simp) (by simp)
 simp only [List.getElem_cons_zero, List.getElem_cons_succ] at r0 r1 r2
 cases r1
 cases r2
 cases r0
 obtain ⟨g, cap, cur, e0, b1, b2, b3, b4, b5⟩ := row_flat (id := 0) G rfl (by omega)
 have h := delete_calls w g t.length cap i (i + 1) cur b1 b2 b3 b4 rfl (by omega) (by rw [b5]; exact flatE_one t)
 rw [e0]
 refine Ret.mono h ?_
 rintro r w' ⟨rfl, hO, cur', d1, d2, d3⟩
 rw [b5, del_flat] at d3
 have hl : (t.eraseIdx i).length = t.length - 1 := by rw [List.length_eraseIdx, if_pos hi]
 refine fin_row G hw (t0 := t) (t := t.eraseIdx i) rfl (fun j h => ?_) ?_ ?_ ?_ rfl
 ·match j, h with
  | 0, h => exact h
  | j + 1, h => exact h
 ·rw [hl]
  exact ⟨by rw [flatE_len, hl], .inr ⟨g, cap, cur', rfl, Nat.zero_le _, d1, by omega, b3, d2, d3⟩⟩
 ·rw [e0]
  exact ⟨hO.os, hO.tape, hO.output, Nat.le_of_eq hO.size.symm, fun b _ hb => hO.block b fun e => hb (by rw [e]; rfl)⟩
 ·intro b hb
  right
  rw [e0]
  exact hb
theorem insert_H (t : List Ent) (i : Nat) (e : Ent) (hi : i ≤ t.length) (hl : t.length ≤ 1048576) : HFunS Tryd.prog 56 [.own 0, .v (.int .i64 i), .own 1] [(0, rowE t), (1, rowE [e])] (fun h st => h = .own 0 ∧ st = [(0, rowE (t.take i ++ e :: t.drop i))]) := by
 by_cases hlt : i < t.length
 ·intro c w ρ xs vs hw G R
  obtain ⟨R1, R2⟩ := R
  match vs, R1 with
  | [v0, v1, v2], _ =>
  have r0 := R2 0 (by simp) (by simp)
  have r1 := R2 1 (by simp) (by simp)
  have r2 := R2 2 (by simp) (by simp)
  simp only [List.getElem_cons_zero, List.getElem_cons_succ] at r0 r1 r2
  cases r1
  cases r0
  cases r2
  obtain ⟨g, cap, cur, e0, b1, b2, b3, b4, b5⟩ := row_flat (id := 0) G rfl (by omega)
  obtain ⟨vb, vc, cv, e1, c1, c2, c3, c4, c5⟩ := row_flat (id := 1) (t := [e]) G rfl (by simp)
  have hne : vb ≠ g := fun h => G.apart 0 1 _ _ g (by omega) rfl rfl (by rw [e0]; rfl) (by rw [e1, h]; rfl)
  have hbx : ∀ j, ¬ isBx (rlk [(0, rowE t), (1, rowE [e])] j) := fun j h => by
   match j, h with
   | 0, h => exact h
   | 1, h => exact h
   | j + 2, h => exact h
  have hlen : (t.take i ++ e :: t.drop i).length = t.length + 1 := by simp; omega
  rw [e0, e1]
  simp only [List.length_singleton, Nat.one_mul] at c2 c5
  by_cases hroom : t.length + 1 ≤ cap
  ·refine Ret.mono (insert_shift w g t.length cap i vb vc cur cv b1 c1 hne hroom b3 b4 c4 c2 hlt (by rw [b5]; exact flatE_one t) (by rw [c5]; exact flatE_one _)) ?_
   rintro r w' ⟨rfl, hO, cur', d1, d2, d3⟩
   rw [b5, c5, ins_flat] at d3
   refine fin_row G hw (t0 := t) (t := t.take i ++ e :: t.drop i) rfl hbx ?_ ?_ ?_ rfl
   ·rw [hlen]
    exact ⟨by rw [flatE_len, hlen], .inr ⟨g, cap, cur', rfl, Nat.zero_le _, d1, hroom, b3, d2, d3⟩⟩
   ·rw [e0]
    exact ⟨hO.os, hO.tape, hO.output, Nat.le_of_eq hO.size.symm, fun b _ hb => hO.block b fun e => hb (by rw [e]; rfl)⟩
   ·intro b hb
    right
    rw [e0]
    exact hb
  ·refine Ret.mono (insert_grow w g t.length cap i vb vc cur cv b1 c1 b2 (by omega) (by omega) b4 c4 c2 hlt (by rw [b5]; exact flatE_one t) (by rw [c5]; exact flatE_one _)) ?_
   rintro r w' ⟨G', rfl, g1, g2, hB, cur', d1, d2, d3⟩
   rw [b5, c5, ins_flat] at d3
   refine fin_row G hw (t0 := t) (t := t.take i ++ e :: t.drop i) rfl hbx ?_ ?_ ?_ rfl
   ·rw [hlen]
    exact ⟨by rw [flatE_len, hlen], .inr ⟨_, G', cur', rfl, Nat.zero_le _, d1, g1, g2, d2, d3⟩⟩
   ·exact ⟨hB.os, hB.tape, hB.output, hB.size, fun b hlt _ => hB.block b hlt⟩
   ·intro b hb
    left
    simp only [Value.ownBlock, Option.some.injEq] at hb
    omega
 ·have hie : i = t.length := by omega
  subst hie
  rw [List.take_length, List.drop_length]
  exact insEnd_H t e hl
end Go.Proofs.YtkonlklieacjoaaDoor
