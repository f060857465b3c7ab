/-
  The document's pieces of two lists are the program's spans: plain.
-/
import Derived.Test.YtfojmpimnidmkaaHnkM
import Derived.Test.YtfojmpimnidmkaaKept
set_option linter.unusedSimpArgs false
set_option linter.unusedVariables false
namespace Go.DiffM
def gapF (g : Nat) : List (Nat × Nat) → Nat → Nat → List Sp → List Sp
 | [], _, _, out => out
 | (p, q) :: r, i, j, out => gapF g r (p + 1) (q + 1) (if i < p ∨ j < q then addSp g out ⟨i, p, j, q⟩ else out)
def keptN : List (Nat × Nat) → Nat → Nat → List (Nat × Nat)
 | [], _, _ => []
 | (op, n) :: r, i, j => if op = 0 then (List.range n).map (fun k => (i + k, j + k)) ++ keptN r (i + n) (j + n) else if op = 1 then keptN r (i + n) j else if op = 2 then keptN r i (j + n) else keptN r i j
def endP : List (Nat × Nat) → Nat → Nat → Nat × Nat
 | [], i, j => (i, j)
 | (op, n) :: r, i, j => if op = 0 then endP r (i + n) (j + n) else if op = 1 then endP r (i + n) j else endP r i (j + n)
theorem addSp_two (g : Nat) (out : List Sp) (i0 i i' j0 j j' : Nat) : addSp g (addSp g out ⟨i0, i, j0, j⟩) ⟨i, i', j, j'⟩ = addSp g out ⟨i0, i', j0, j'⟩ := by
 rcases List.eq_nil_or_concat out with rfl | ⟨q, l, rfl⟩
 ·simp [addSp]
 ·rw [List.concat_eq_append, addSp_snoc, addSp_snoc]
  dsimp only
  split
  ·rw [addSp_snoc]; simp
  ·rw [show q ++ [l, ⟨i0, i, j0, j⟩] = (q ++ [l]) ++ [⟨i0, i, j0, j⟩] by simp, addSp_snoc]
   simp
theorem gap_run (g : Nat) (rest : List (Nat × Nat)) (out : List Sp) : ∀ (n i j : Nat), gapF g ((List.range n).map (fun k => (i + k, j + k)) ++ rest) i j out = gapF g rest (i + n) (j + n) out
 | 0, i, j => by simp
 | n + 1, i, j => by
  rw [List.range_succ_eq_map, List.map_cons, List.cons_append, gapF, List.map_map]
  have := gap_run g rest out n (i + 1) (j + 1)
  have e : ((fun k => (i + k, j + k)) ∘ Nat.succ) = fun k => (i + 1 + k, j + 1 + k) := by funext k; simp only [Function.comp, Nat.succ_eq_add_one]; congr 1 <;> omega
  rw [e, if_neg (by omega)]
  simp only [Nat.add_zero]
  rw [this]
  congr 1 <;> omega
def pend (g : Nat) (out : List Sp) (i0 i j0 j : Nat) : List Sp := if i0 < i ∨ j0 < j then addSp g out ⟨i0, i, j0, j⟩ else out
theorem pend_add (g : Nat) (out : List Sp) {i0 i i' j0 j j' : Nat} (hi : i0 ≤ i) (hj : j0 ≤ j) (h1 : i ≤ i') (h2 : j ≤ j') (h : i < i' ∨ j < j') : pend g out i0 i' j0 j' = addSp g (pend g out i0 i j0 j) ⟨i, i', j, j'⟩ := by
 unfold pend
 rw [if_pos (by omega)]
 split
 ·rw [addSp_two]
 ·have e1 : i0 = i := by omega
  have e2 : j0 = j := by omega
  subst e1; subst e2; rfl
theorem gap_spans (g : Nat) : ∀ (l : List (Nat × Nat)) (i0 i j0 j : Nat) (out : List Sp), (∀ x ∈ l, 1 ≤ x.2 ∧ x.1 ≤ 2) → i0 ≤ i → j0 ≤ j → gapF g (keptN l i j ++ [endP l i j]) i0 j0 out = spF g l i j (pend g out i0 i j0 j)
 | [], i0, i, j0, j, out, _, hi, hj => by
  rw [keptN, endP, List.nil_append, gapF, gapF, spF]; rfl
 | (op, n) :: r, i0, i, j0, j, out, hl, hi, hj => by
  obtain ⟨hn, hop⟩ := hl (op, n) (List.mem_cons_self ..)
  have hr := fun x hx => hl x (List.mem_cons_of_mem (op, n) hx)
  dsimp only at hn hop
  rw [keptN, endP, spF]
  by_cases h0 : op = 0
  ·rw [if_pos h0, if_pos h0, if_pos h0]
   obtain ⟨m, rfl⟩ : ∃ m, n = m + 1 := ⟨n - 1, by omega⟩
   rw [List.range_succ_eq_map, List.map_cons, List.cons_append, List.cons_append, gapF, List.map_map, List.append_assoc]
   have e : ((fun k => (i + k, j + k)) ∘ Nat.succ) = fun k => (i + 1 + k, j + 1 + k) := by funext k; simp only [Function.comp, Nat.succ_eq_add_one]; congr 1 <;> omega
   rw [e]
   simp only [Nat.add_zero]
   rw [gap_run, show i + 1 + m = i + (m + 1) by omega, show j + 1 + m = j + (m + 1) by omega]
   have := gap_spans g r (i + (m + 1)) (i + (m + 1)) (j + (m + 1)) (j + (m + 1)) (pend g out i0 i j0 j) hr (Nat.le_refl _) (Nat.le_refl _)
   rw [show (if i0 < i ∨ j0 < j then addSp g out ⟨i0, i, j0, j⟩ else out) = pend g out i0 i j0 j from rfl, this]
   congr 1
   rw [pend, if_neg (by omega)]
  ·rw [if_neg h0, if_neg h0, if_neg h0]
   by_cases h1 : op = 1
   ·rw [if_pos h1, if_pos h1, if_pos h1, gap_spans g r i0 (i + n) j0 j out hr (by omega) hj, pend_add g out hi hj (by omega) (Nat.le_refl _) (by omega)]
   ·rw [if_neg h1, if_neg h1, if_neg h1, if_pos (by omega), gap_spans g r i0 i j0 (j + n) out hr hi (by omega), pend_add g out hi hj (Nat.le_refl _) (by omega) (by omega)]
theorem along {α : Type} [DecidableEq α] (a b : List α) : ∀ (l : List (Nat × Nat)) (i j : Nat), Fine l → i ≤ a.length → j ≤ b.length → expand l = steps (a.drop i) (b.drop j) → (∀ x ∈ l, 1 ≤ x.2 ∧ x.1 ≤ 2) ∧ endP l i j = (a.length, b.length)
 | [], i, j, _, hi, hj, h => by
  obtain ⟨h1, h2⟩ := steps_nil_inv a b i j (by rw [← h]; rfl)
  exact ⟨fun x hx => by simp at hx, by rw [endP]; congr 1 <;> omega⟩
 | (op, n) :: r, i, j, hf, hi, hj, h => by
  have hn := hf.head
  dsimp only at hn
  obtain ⟨hop, -⟩ := op_cases a b hn h
  have h' := h
  rw [expand_cons] at h'
  obtain ⟨q0, q1, q2⟩ := run_inv a b n op _ i j hi hj h'
  rw [endP]
  rcases hop with rfl | rfl | rfl
  ·obtain ⟨p1, p2, -, p4⟩ := q0 rfl
   obtain ⟨r1, r2⟩ := along a b r (i + n) (j + n) hf.tail p1 p2 p4
   exact ⟨fun x hx => by rcases List.mem_cons.1 hx with rfl | hx; exact ⟨hn, by dsimp only; omega⟩; exact r1 x hx, by rw [if_pos rfl]; exact r2⟩
  ·obtain ⟨p1, p4⟩ := q1 rfl
   obtain ⟨r1, r2⟩ := along a b r (i + n) j hf.tail p1 hj p4
   exact ⟨fun x hx => by rcases List.mem_cons.1 hx with rfl | hx; exact ⟨hn, by dsimp only; omega⟩; exact r1 x hx, by rw [if_neg (by decide), if_pos rfl]; exact r2⟩
  ·obtain ⟨p1, p4⟩ := q2 rfl
   obtain ⟨r1, r2⟩ := along a b r i (j + n) hf.tail hi p1 p4
   exact ⟨fun x hx => by rcases List.mem_cons.1 hx with rfl | hx; exact ⟨hn, by dsimp only; omega⟩; exact r1 x hx, by rw [if_neg (by decide), if_neg (by decide)]; exact r2⟩
theorem kept_in {α : Type} [DecidableEq α] (a b : List α) : ∀ (l : List (Nat × Nat)) (i j : Nat), Fine l → i ≤ a.length → j ≤ b.length → expand l = steps (a.drop i) (b.drop j) → (∀ p ∈ keptN l i j, p.1 ≤ a.length ∧ p.2 ≤ b.length) ∧ (keptN l i j).length + i ≤ a.length
 | [], i, j, _, hi, hj, h => ⟨fun x hx => by simp [keptN] at hx, by simpa [keptN] using hi⟩
 | (op, n) :: r, i, j, hf, hi, hj, h => by
  have hn := hf.head
  dsimp only at hn
  obtain ⟨hop, -⟩ := op_cases a b hn h
  have h' := h
  rw [expand_cons] at h'
  obtain ⟨q0, q1, q2⟩ := run_inv a b n op _ i j hi hj h'
  rw [keptN]
  rcases hop with rfl | rfl | rfl
  ·obtain ⟨p1, p2, -, p4⟩ := q0 rfl
   obtain ⟨r1, r2⟩ := kept_in a b r (i + n) (j + n) hf.tail p1 p2 p4
   rw [if_pos rfl]
   refine ⟨fun x hx => ?_, by rw [List.length_append, List.length_map, List.length_range]; omega⟩
   rcases List.mem_append.1 hx with hx | hx
   ·obtain ⟨k, hk, rfl⟩ := List.mem_map.1 hx
    have := List.mem_range.1 hk
    exact ⟨by dsimp only; omega, by dsimp only; omega⟩
   ·exact r1 x hx
  ·obtain ⟨p1, p4⟩ := q1 rfl
   obtain ⟨r1, r2⟩ := kept_in a b r (i + n) j hf.tail p1 hj p4
   rw [if_neg (by decide), if_pos rfl]
   exact ⟨r1, by omega⟩
  ·obtain ⟨p1, p4⟩ := q2 rfl
   obtain ⟨r1, r2⟩ := kept_in a b r i (j + n) hf.tail hi p1 p4
   rw [if_neg (by decide), if_neg (by decide), if_pos rfl]
   exact ⟨r1, r2⟩
theorem kept_bd {α : Type} [DecidableEq α] {a b : List α} (hA : a.length ≤ 400) (hB : b.length ≤ 400) : (∀ p ∈ keptN (script a b) 0 0 ++ [(a.length, b.length)], p.1 ≤ 400 ∧ p.2 ≤ 400) ∧ (keptN (script a b) 0 0).length ≤ 400 := by
 obtain ⟨hf, he⟩ := script_fine a b
 obtain ⟨h1, h2⟩ := kept_in a b (script a b) 0 0 hf (Nat.zero_le _) (Nat.zero_le _) (by simpa using he)
 refine ⟨fun p hp => ?_, by omega⟩
 rcases List.mem_append.1 hp with hp | hp
 ·have := h1 p hp; omega
 ·rw [List.mem_singleton.1 hp]; exact ⟨hA, hB⟩
theorem gaps_spans {α : Type} [DecidableEq α] (a b : List α) (g : Nat) : gapF g (keptN (script a b) 0 0 ++ [(a.length, b.length)]) 0 0 [] = spans g a b := by
 obtain ⟨hf, he⟩ := script_fine a b
 obtain ⟨h1, h2⟩ := along a b (script a b) 0 0 hf (Nat.zero_le _) (Nat.zero_le _) (by simpa using he)
 have := gap_spans g (script a b) 0 0 0 0 [] h1 (Nat.le_refl _) (Nat.le_refl _)
 rw [h2] at this
 rw [this, pend, if_neg (by omega)]; rfl
end Go.DiffM
namespace Go.Proofs.Ytfojmpimnidmkaa
open Go Go.Eng Go.DiffM
theorem keptR_N : ∀ (l : List (Nat × Nat)) (i j : Nat), keptR l i j = (keptN l i j).map fun p => ((p.1 : Int), (p.2 : Int))
 | [], _, _ => rfl
 | (op, n) :: r, i, j => by
  rw [keptR, keptN]
  split
  ·rw [keptR_N r, List.map_append, List.map_map]; rfl
  split
  ·exact keptR_N r _ _
  split
  ·exact keptR_N r _ _
  ·exact keptR_N r _ _
end Go.Proofs.Ytfojmpimnidmkaa
