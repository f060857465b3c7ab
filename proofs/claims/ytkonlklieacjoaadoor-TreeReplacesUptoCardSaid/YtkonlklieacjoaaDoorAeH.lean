/-
  What is known of ref04.Apart: trees that share no memory are told apart.
-/
import Derived.Test.YtkonlklieacjoaaDoorAet
set_option linter.unusedSimpArgs false
set_option linter.unusedVariables false
set_option maxRecDepth 20000
namespace Go.Proofs.YtkonlklieacjoaaDoor
open Go Go.Eng Go.RowKit Go.Tr
theorem apart4_H {n : Nat} {st : Store} {nw0 : Bool} {els : List (List HV)} (id : Nat → Nat) (nw : Nat → Bool) (ls : Nat → List Ent) (h0 : rlk st 0 = some (.hl nw0 22 1 els)) (hlen : els.length = n) (hels : ∀ i (h : i < els.length), els[i] = [.own (id i)])
  (hrow : ∀ i, i < n → rlk st (id i) = some (.sl (nw i) 68 3 (ents (ls i)))) (hid : ∀ i j, i < n → j < n → id i = id j → i = j) (hid0 : ∀ i, i < n → id i ≠ 0) (hbx : ∀ j, ¬ isBx (rlk st j)) (hn : n ≤ 1000000) (hm : ∀ i, i < n → (ls i).length ≤ 1000000000) :
  HFunS Tryd.prog 23 [.own 0] st (fun h st' => h = .v (.bool true) ∧ st' = []) := by
 intro c w ρ xs vs hw G R
 obtain ⟨v, rfl⟩ : ∃ v, vs = [v] := by
  match vs, R.1 with
  | [v], _ => exact ⟨v, rfl⟩
 have hv := R.2 0 (by simp) (by simp)
 simp only [List.getElem_cons_zero] at hv
 cases hv with
 | own _ h1 =>
 subst hlen
 obtain ⟨o1, o2, o3⟩ := rows_hl G h0
 obtain ⟨ad, cap, hv0, hvf⟩ := Own.form o1
 have hcellV : ∀ i (h : i < els.length), (xs 0)[i]? = some (ρ (id i)) := fun i h => by
  obtain ⟨u, u1, -, u3⟩ := o3 i 0 h (by rw [hels i h]; simp)
  simp only [hels i h, List.getElem_cons_zero] at u3
  cases u3
  rw [Nat.mul_one, Nat.add_zero] at u1
  exact u1
 have hL : ∃ L, (0 < els.length → ad = some ⟨L, 0, none⟩ ∧ L < w.heap.size ∧ ∀ j u, (xs 0)[j]? = some u → w.cell? ⟨L, j, none⟩ = some u) := by
  by_cases h : 0 < els.length
  ·obtain ⟨g, e, -, a, b⟩ := hvf h
   exact ⟨g, fun _ => ⟨e, a, b⟩⟩
  ·exact ⟨0, fun h' => absurd h' h⟩
 obtain ⟨L, hL⟩ := hL
 let T : Nat → Prop := fun b => ∃ i, i < els.length ∧ (ρ (id i)).ownBlock = some b
 have huniq : ∀ i j b, i < els.length → j < els.length → (ρ (id i)).ownBlock = some b → (ρ (id j)).ownBlock = some b → i = j := fun i j b hi hj h1 h2 => by
  by_cases e : i = j
  ·exact e
  ·exact (G.apart (id i) (id j) _ _ b (fun e2 => e (hid i j hi hj e2)) (hrow i hi) (hrow j hj) h1 h2).elim
 classical
 let ow : Nat → Nat := fun b => if h : T b then Classical.choose h else els.length + 1
 have how : ∀ i b, i < els.length → (ρ (id i)).ownBlock = some b → ow b = i := fun i b hi hb => by
  have h : T b := ⟨i, hi, hb⟩
  show (if h : T b then Classical.choose h else _) = i
  rw [dif_pos h]
  exact huniq _ _ b (Classical.choose_spec h).1 hi (Classical.choose_spec h).2 hb
 have hTL : 0 < els.length → ¬ T L := fun h ⟨i, hi, hb⟩ => by
  refine G.apart (id i) 0 _ _ L (hid0 i hi) (hrow i hi) h0 hb ?_
  rw [hv0, (hL h).1]; rfl
 rw [hv0]
 refine Ret.mono (apart4_calls w els.length L cap ad (fun i => ρ (id i)) (fun i => (ls i).length) (fun i => xs (id i)) ow T (fun h => (hL h).1) ⟨Kept.refl _ _, fun j hj => ?_⟩ (fun j hj b hb => ⟨how j b hj hb, G.lt (hrow j hj) hb⟩) (fun j b hj hb => ⟨j, hj, hb⟩) (fun j hj => ?_) hn hm) ?_
 ·have := (rows_sl G (hrow j hj)).1
  simpa [ents] using this
 ·obtain ⟨a, b, d⟩ := hL (by omega)
  refine ⟨?_, b, hTL (by omega), d j _ (hcellV j hj)⟩
  show (if h : T L then Classical.choose h else _) = _
  rw [dif_neg (hTL (by omega))]
 ·rintro r w' ⟨rfl, hK⟩
  refine ⟨_, [], ρ, xs, fun i r h => by simp [rlk] at h, fun j h => (hbx j h).elim, ⟨rfl, rfl⟩, ⟨fun i r h => by simp [rlk] at h, fun i j r s b _ h => by simp [rlk] at h, fun k h hk => by simp [hlk] at hk, G.kept.trans hK fun b hlt hT => ?_, G.a0⟩, .v _⟩
  obtain ⟨i, hi, hb⟩ := hT
  exact ((G.rows _ _ (hrow i hi)).new b hb).1.resolve_left (by rw [hw]; rw [hw] at hlt; omega)
theorem apart42_H (a b : List Ent) (n0 n1 n2 : Bool) (ha : a.length ≤ 1000000000) (hb : b.length ≤ 1000000000) :
  HFunS Tryd.prog 23 [.own 0] [(0, .hl n0 22 1 [[.own 1], [.own 2]]), (1, .sl n1 68 3 (ents a)), (2, .sl n2 68 3 (ents b))] (fun h st' => h = .v (.bool true) ∧ st' = []) :=
 apart4_H (n := 2) (fun i => i + 1) (fun i => [n1, n2].getD i false) (fun i => [a, b].getD i []) rfl rfl (fun i hi => by match i, hi with | 0, _ => rfl | 1, _ => rfl) (fun i hi => by match i, hi with | 0, _ => rfl | 1, _ => rfl) (fun i j _ _ e => by omega) (fun i _ => by omega)
  (fun j h => by match j, h with | 0, h => exact h | 1, h => exact h | 2, h => exact h | j + 3, h => exact h) (by omega) (fun i hi => by match i, hi with | 0, _ => exact ha | 1, _ => exact hb)
theorem apart43_H (a b d : List Ent) (n0 n1 n2 n3 : Bool) (ha : a.length ≤ 1000000000) (hb : b.length ≤ 1000000000) (hd : d.length ≤ 1000000000) :
  HFunS Tryd.prog 23 [.own 0] [(0, .hl n0 22 1 [[.own 1], [.own 2], [.own 3]]), (1, .sl n1 68 3 (ents a)), (2, .sl n2 68 3 (ents b)), (3, .sl n3 68 3 (ents d))] (fun h st' => h = .v (.bool true) ∧ st' = []) :=
 apart4_H (n := 3) (fun i => i + 1) (fun i => [n1, n2, n3].getD i false) (fun i => [a, b, d].getD i []) rfl rfl (fun i hi => by match i, hi with | 0, _ => rfl | 1, _ => rfl | 2, _ => rfl) (fun i hi => by match i, hi with | 0, _ => rfl | 1, _ => rfl | 2, _ => rfl) (fun i j _ _ e => by omega) (fun i _ => by omega)
  (fun j h => by match j, h with | 0, h => exact h | 1, h => exact h | 2, h => exact h | 3, h => exact h | j + 4, h => exact h) (by omega) (fun i hi => by match i, hi with | 0, _ => exact ha | 1, _ => exact hb | 2, _ => exact hd)
end Go.Proofs.YtkonlklieacjoaaDoor
