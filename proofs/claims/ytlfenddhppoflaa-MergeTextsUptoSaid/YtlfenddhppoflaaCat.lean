/- What the walk of the law stands on. -/
import Derived.Test.YtlfenddhppoflaaLsp
set_option linter.unusedSimpArgs false
set_option linter.unusedVariables false
set_option maxRecDepth 20000
namespace Go.Proofs.Ytlfenddhppoflaa
open Go Go.Eng Go.RowKit

def no10 (p : List UInt8) : Prop := ∀ b ∈ p, b ≠ 10
def tens (ps : List (List UInt8)) : List (List UInt8) := ps.map (· ++ [10])
def rest1 (q : List UInt8) : List (List UInt8) := if q = [] then [] else [q]
theorem spl_form (l : List UInt8) : ∃ ps q, (∀ p ∈ ps, no10 p) ∧ no10 q ∧ l = (tens ps).flatten ++ q ∧ spl l = tens ps ++ rest1 q := by
 induction l with
 | nil => exact ⟨[], [], by simp, by simp [no10], rfl, rfl⟩
 | cons b l ih =>
  obtain ⟨ps, q, h1, h2, h3, h4⟩ := ih
  rw [spl]
  by_cases e : b = 10
  ·subst e
   rw [if_pos rfl]
   exact ⟨[] :: ps, q, fun p hp => by rcases List.mem_cons.1 hp with rfl | h; simp [no10]; exact h1 p h, h2, by rw [h3]; simp [tens], by rw [h4]; rfl⟩
  ·rw [if_neg e]
   cases ps with
   | nil =>
    refine ⟨[], b :: q, by simp, fun x hx => by rcases List.mem_cons.1 hx with rfl | h; exact e; exact h2 x h, by rw [h3]; simp [tens], ?_⟩
    rw [h4]
    by_cases hq : q = []
    ·subst hq; rfl
    ·simp [tens, rest1, hq]
   | cons p r =>
    refine ⟨(b :: p) :: r, q, fun x hx => ?_, h2, by rw [h3]; simp [tens], by rw [h4]; rfl⟩
    rcases List.mem_cons.1 hx with rfl | h
    ·intro y hy
     rcases List.mem_cons.1 hy with rfl | h
     ·exact e
     ·exact h1 p (by simp) y h
    ·exact h1 x (by simp [h])
theorem cat_map (l : List (List UInt8)) : cat (l.map bs) = bs l.flatten := by
 unfold cat bs
 congr 1
 rw [List.map_map]
 congr 1
 congr 1
 have : ((fun x : ByteArray => x.data.toList) ∘ bs) = _root_.id := by funext x; simp [bs]
 have h2 : ((fun x : ByteArray => x.data.toList) ∘ fun l : List UInt8 => (⟨l.toArray⟩ : ByteArray)) = _root_.id := by funext x; simp
 rw [h2, List.map_id]
theorem cat_splS (s : ByteArray) : cat (splS s) = s := by
 obtain ⟨ps, q, h1, h2, h3, h4⟩ := spl_form s.data.toList
 unfold splS
 rw [cat_map, h4, List.flatten_append]
 have : (rest1 q).flatten = q := by unfold rest1; split <;> simp_all
 rw [this, ← h3, bs_list]
end Go.Proofs.Ytlfenddhppoflaa
