/-
  A row of entries in memory.
-/
import Derived.Test.YtkonlklieacjoaaDoorTrO
set_option linter.unusedSimpArgs false
set_option linter.unusedVariables false
set_option maxRecDepth 20000
namespace Go.Tr
open Go Go.Eng Go.RowKit
def flatE : List Ent → List Value
 | [] => []
 | e :: r => .string e.1 :: .int .i64 e.2.1 :: .string e.2.2 :: flatE r
theorem flatE_len : ∀ t : List Ent, (flatE t).length = t.length * 3
 | [] => rfl
 | e :: r => by simp only [flatE, List.length_cons, flatE_len r]; omega
theorem flatE_app : ∀ a b : List Ent, flatE (a ++ b) = flatE a ++ flatE b
 | [], b => rfl
 | e :: r, b => by simp [flatE, flatE_app r b]
theorem flatE_take : ∀ (t : List Ent) (i : Nat), flatE (t.take i) = (flatE t).take (i * 3)
 | [], i => by simp [flatE]
 | e :: r, 0 => by simp [flatE]
 | e :: r, i + 1 => by
  rw [List.take_succ_cons, show (i + 1) * 3 = i * 3 + 1 + 1 + 1 by omega]
  simp only [flatE, List.take_succ_cons, flatE_take r i]
theorem flatE_drop : ∀ (t : List Ent) (i : Nat), flatE (t.drop i) = (flatE t).drop (i * 3)
 | [], i => by simp [flatE]
 | e :: r, 0 => by simp [flatE]
 | e :: r, i + 1 => by
  rw [List.drop_succ_cons, show (i + 1) * 3 = i * 3 + 1 + 1 + 1 by omega]
  simp only [flatE, List.drop_succ_cons, flatE_drop r i]
theorem flatE_one : ∀ (t : List Ent), ∀ u ∈ flatE t, u.oneCell' = true
 | [], u, h => by simp [flatE] at h
 | e :: r, u, h => by
  simp only [flatE, List.mem_cons] at h
  rcases h with rfl | rfl | rfl | h
  ·rfl
  ·rfl
  ·rfl
  ·exact flatE_one r u h
theorem flatE_get : ∀ (t : List Ent) (i k : Nat) (hi : i < (ents t).length) (hk : k < (ents t)[i].length), ∃ x, (ents t)[i][k] = .v x ∧ (flatE t)[i * 3 + k]? = some x ∧ x.oneCell' = true
 | [], i, k, hi, _ => by simp [ents] at hi
 | e :: r, 0, k, hi, hk => by
  have e0 : (ents (e :: r))[0] = [.v (.string e.1), .v (.int .i64 e.2.1), .v (.string e.2.2)] := rfl
  simp only [e0, List.length_cons, List.length_nil] at hk
  match k, hk with
  | 0, _ => exact ⟨.string e.1, rfl, rfl, rfl⟩
  | 1, _ => exact ⟨.int .i64 e.2.1, rfl, rfl, rfl⟩
  | 2, _ => exact ⟨.string e.2.2, rfl, rfl, rfl⟩
 | e :: r, i + 1, k, hi, hk => by
  obtain ⟨x, h1, h2, h3⟩ := flatE_get r i k (by simpa [ents] using hi) hk
  refine ⟨x, h1, ?_, h3⟩
  rw [show (i + 1) * 3 + k = i * 3 + k + 1 + 1 + 1 by omega]
  simpa [flatE] using h2
theorem flat_eq {w : World} {A : Nat → Prop} {n0 : Nat} {arr : List Value} {t : List Ent} (hl : arr.length = t.length * 3) (hw : ∀ x ∈ ents t, x.length = 3) (h : ∀ i k (hi : i < (ents t).length) (hk : k < (ents t)[i].length), ∃ u, arr[i * 3 + k]? = some u ∧ u.oneCell' = true ∧ RepF w A n0 u (ents t)[i][k]) : arr = flatE t := by
 apply List.ext_getElem?
 intro p
 by_cases hp : p < t.length * 3
 ·have hi : p / 3 < (ents t).length := by rw [yV]; omega
  have hk : p % 3 < (ents t)[p / 3].length := by rw [hw _ (List.getElem_mem _)]; omega
  obtain ⟨u, u1, -, u3⟩ := h (p / 3) (p % 3) hi hk
  obtain ⟨x, h1, h2, -⟩ := flatE_get t (p / 3) (p % 3) hi hk
  rw [h1] at u3
  cases u3
  rw [show p / 3 * 3 + p % 3 = p by omega] at u1 h2
  rw [u1, h2]
 ·rw [List.getElem?_eq_none (by omega), List.getElem?_eq_none (by rw [flatE_len]; omega)]
end Go.Tr
namespace Go.Proofs.YtkonlklieacjoaaDoor
open Go Go.Eng Go.RowKit Go.Tr Go.Lib
theorem blk_setCells {b : Nat} {t : TypeId} : ∀ (vs : List Value) (o : Nat) {w : World} {cs : Array Value}, Blk w b cs t → o + vs.length ≤ cs.size → Blk (w.setCells b o vs) b (splice cs.toList o vs).toArray t ∧ Only b w (w.setCells b o vs)
 | [], o, w, cs, h, hl => by
  have e : (splice cs.toList o []).toArray = cs := by simp [splice]
  rw [e]
  exact ⟨h, Only.refl _ _⟩
 | v :: vs, o, w, cs, h, hl => by
  simp only [List.length_cons] at hl
  have h1 : Blk (w.setCell ⟨b, o, none⟩ v) b (cs.setIfInBounds o v) t := by
   rw [setCell_eq_setRow w b o cs t _ v h]; exact blk_setRow h _
  have o1 : Only b w (w.setCell ⟨b, o, none⟩ v) := by
   rw [setCell_eq_setRow w b o cs t _ v h]; exact only_setRow w b _
  obtain ⟨h2, o2⟩ := blk_setCells vs (o + 1) h1 (by simp; omega)
  have e : splice (cs.setIfInBounds o v).toList (o + 1) vs = splice cs.toList o (v :: vs) := by
   apply List.ext_getElem?
   intro j
   rw [splice_get _ _ _ (by simp; omega), splice_get _ _ _ (by simp; omega)]
   simp only [Array.toList_setIfInBounds, List.getElem?_set, List.length_cons]
   by_cases hj : j = o
   ·subst hj
    rw [if_neg (by omega), if_pos rfl, if_pos (by simp; omega), if_pos (by omega)]
    simp
   ·by_cases h3 : o + 1 ≤ j ∧ j < o + 1 + vs.length
    ·rw [if_pos h3, if_pos (by omega)]
     obtain ⟨k, rfl⟩ : ∃ k, j = o + 1 + k := ⟨j - (o + 1), by omega⟩
     rw [show o + 1 + k - (o + 1) = k by omega, show o + 1 + k - o = k + 1 by omega, List.getElem?_cons_succ]
    ·rw [if_neg h3, if_neg (by omega), if_neg (by omega)]
  rw [e] at h2
  exact ⟨h2, o1.trans o2⟩
theorem row_flat {c : Ctx} {S : HS} {look : Nat → Option Value} {w : World} {ρ : Nat → Value} {xs : Nat → List Value} (G : Eng.Good c S look w ρ xs) {id : Nat} {t : List Ent} (hr : rlk S.st id = some (rowE t)) (h0 : 0 < t.length) :
  ∃ g cap cur, ρ id = .slice (some ⟨g, 0, none⟩) t.length cap ∧ Blk w g cur 68 ∧ t.length ≤ cap ∧ cap ≤ maxLen ∧ cur.size = cap * 3 ∧ cur.toList.take (t.length * 3) = flatE t := by
 obtain ⟨o1, o2, o3⟩ := rows_sl G hr
 rw [yV] at o1
 obtain ⟨g, cap, hv, h1, h2, -⟩ := own_some o1 h0
 rw [hv] at o1
 obtain ⟨cur, b1, b2, b3, b4, b5⟩ := own_blk o1
 have := flat_eq o1.1 o2 o3
 exact ⟨g, cap, cur, hv, b1, b2, b3, b4, by rw [b5, this]⟩
theorem fin_good {c : Ctx} {st : Store} {w w' : World} {ρ : Nat → Value} {xs : Nat → List Value} (G : Eng.Good c ⟨[], st⟩ (fun _ => none) w ρ xs) (hw : c.w0 = w) {t0 t : List Ent} (hr : rlk st 0 = some (rowE t0)) {v : Value}
  (hO : Own w' 0 68 3 v t.length (flatE t)) (hg : w.grownBy w' (ρ 0).ownBlock) (hb : ∀ b, v.ownBlock = some b → w.heap.size ≤ b ∨ (ρ 0).ownBlock = some b) :
  Eng.Good c ⟨[], [(0, rowE t)]⟩ (fun _ => none) w' (fun _ => v) (fun _ => flatE t) := by
 have hn0 := c.hn
 have hnew := (G.rows 0 _ hr).new
 refine ⟨fun i r h => ?_, fun i j r s b hne h h' => ?_, fun k h hk => by simp [hlk] at hk, G.kept.trans (T' := fun b => (ρ 0).ownBlock = some b) ⟨hg.os, hg.tape, hg.output, hg.size, fun b hlt hne => hg.block b hlt fun e => hne e.symm⟩ (fun b hlt hT => ?_), G.a0⟩
 ·simp only [rlk] at h
  split at h
  ·rename_i e
   simp only [Option.some.injEq] at h
   subst h
   refine ⟨by simpa [Row.ty, Row.sz, Row.len, yV] using hO, ⟨of_eq_true (yU _), fun i k hi hk => ?_⟩, fun b hb' => ?_⟩
   ·obtain ⟨x, h1, h2, h3⟩ := flatE_get t i k hi hk
    exact ⟨x, h2, h3, by rw [h1]; exact .v x⟩
   ·rcases hb b hb' with h | h
    ·rw [hw] at hn0 ⊢
     exact ⟨.inl h, fun _ => by omega⟩
    ·exact hnew b h
  ·cases h
 ·simp only [rlk] at h h'
  split at h
  ·split at h'
   ·omega
   ·cases h'
  ·cases h
 ·rcases (hnew b hT).1 with h | h
  ·omega
  ·exact h
theorem fin_low {t : List Ent} : ∀ i r, rlk [(0, rowE t)] i = some r → i < 8 := fun i r h => by
 simp only [rlk] at h
 split at h
 ·omega
 ·cases h
theorem fin_row {c : Ctx} {st : Store} {w w' : World} {ρ : Nat → Value} {xs : Nat → List Value} (G : Eng.Good c ⟨[], st⟩ (fun _ => none) w ρ xs) (hw : c.w0 = w) {t0 t : List Ent} (hr : rlk st 0 = some (rowE t0)) (hbx : ∀ j, ¬ isBx (rlk st j)) {v : Value}
  (hO : Own w' 0 68 3 v t.length (flatE t)) (hg : w.grownBy w' (ρ 0).ownBlock) (hb : ∀ b, v.ownBlock = some b → w.heap.size ≤ b ∨ (ρ 0).ownBlock = some b) (h1 : v.oneCell' = true) :
  ∃ h st' ρ' xs', (∀ i r, rlk st' i = some r → i < 8) ∧ (∀ j, isBx (rlk st j) → isBx (rlk st' j)) ∧ (h = .own 0 ∧ st' = [(0, rowE t)]) ∧ Eng.Good c ⟨[], st'⟩ (fun _ => none) w' ρ' xs' ∧ RepH w' (c.A ρ' st') c.n0 ρ' v h :=
 ⟨_, [(0, rowE t)], fun _ => v, fun _ => flatE t, fin_low, fun j h => (hbx j h).elim, ⟨rfl, rfl⟩, fin_good G hw hr hO hg hb, .own 0 h1⟩
end Go.Proofs.YtkonlklieacjoaaDoor
