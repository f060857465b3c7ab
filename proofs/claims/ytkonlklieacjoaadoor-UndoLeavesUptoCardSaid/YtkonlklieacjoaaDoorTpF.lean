/-
  Plain: what the document's Put answers is what tree.Put answers.
-/
import Derived.Test.YtkonlklieacjoaaDoorTpD
import Derived.Test.YtkonlklieacjoaaDoorTsC
import Derived.Test.YtkonlklieacjoaaDoorTsA
import Derived.Test.YtkonlklieacjoaaDoorTrM
section
set_option linter.unusedSimpArgs false
set_option linter.unusedVariables false
set_option maxRecDepth 20000
namespace Go.Tr
open Go Go.Eng
end Go.Tr
namespace Go.Proofs.YtkonlklieacjoaaDoor
open Go Go.Eng Go.RowKit Go.Tr
end Go.Proofs.YtkonlklieacjoaaDoor
end
section
set_option linter.unusedSimpArgs false
set_option linter.unusedVariables false
namespace Go.Tr
open Go
theorem mid_rise {a b : List Ent} {e : Ent} (h : rise (a ++ b)) (h1 : ∀ x ∈ a, blt x.1 e.1 = true) (h2 : ∀ y ∈ b, blt e.1 y.1 = true) : rise (a ++ e :: b) := by
 obtain ⟨ra, rb, rab⟩ := List.pairwise_append.1 h
 refine List.pairwise_append.2 ⟨ra, List.pairwise_cons.2 ⟨h2, rb⟩, fun x hx y hy => ?_⟩
 rcases List.mem_cons.1 hy with rfl | hy
 ·exact h1 x hx
 ·exact rab x hx y hy
theorem there_kind {t : List Ent} (h : okR t = true) (p : ByteArray) : there t p = !decide ((getN t p).1 = 0) := by
 have ri := okR_rise h
 cases th : there t p with
 | false => rw [getN_none th]; rfl
 | true =>
  have tp := there_place ri p
  rw [th] at tp
  obtain ⟨hlt, hat⟩ := of_decide_eq_true tp.symm
  have hg := getN_at ri hlt
  rw [hat] at hg
  rw [hg]
  have := all_range.1 h _ hlt
  simp only [rowR, rowA, Bool.and_eq_true, Bool.not_eq_true', decide_eq_false_iff_not] at this
  rw [atE_eq hlt] at this
  rw [decide_eq_false this.1.2.2.1]; rfl
end Go.Tr
end
