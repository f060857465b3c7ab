/-
  HunkBack: what is handed in.
-/
import Derived.Test.YtlfenddhppoflaaHbl
import Derived.Test.YtlfenddhppoflaaGd
set_option linter.unusedSimpArgs false
set_option linter.unusedVariables false
set_option maxRecDepth 20000
namespace Go.Proofs.Ytlfenddhppoflaa
open Go Go.Eng Go.RowKit
/-- what is handed in, the texts' lengths too -/
theorem fit_strsB {by' : Nat} {f : FV} (h : Fit (.sl by' [.str]) f) : ∃ a : List ByteArray, f = .lst false (strs a) ∧ (a.length * by' ≤ 140737488351232 ∧ ∀ s ∈ a, s.size ≤ 140737488355328) := by
  cases h with
  | sl hb hl h =>
  obtain ⟨zs, rfl⟩ := fit_map strE _ (fun x hx => by
    have h1 := hl x hx
    match x, h1 with
    | [f], _ => obtain ⟨s, rfl, -⟩ := fit_str (h _ hx 0 (by simp) (by simp)); exact ⟨s, rfl⟩)
  refine ⟨zs, rfl, Nat.le_trans (by simpa using hb) (by decide), fun s hs => ?_⟩
  obtain ⟨s', e, h3⟩ := fit_str (h (strE s) (List.mem_map.2 ⟨s, hs, rfl⟩) 0 (by first | exact Nat.one_pos | simp [strE]) (by first | exact Nat.one_pos | simp [strE]))
  simp only [strE, List.getElem_cons_zero] at e
  cases e
  exact Nat.le_trans h3 (by decide)
theorem hunkBack_all (a b : List ByteArray) (i p : Int) (hs0 : a.length * 16 ≤ 140737488351232 ∧ ∀ s ∈ a, s.size ≤ 140737488355328) (hs1 : b.length * 16 ≤ 140737488351232 ∧ ∀ s ∈ b, s.size ≤ 140737488355328) (hw : (Lit.int .i64 i).wf = true) (hw' : (Lit.int .i64 p).wf = true) :
    HFun Try.prog 10 [.lst false (strs a), .lst false (strs b), .v (.int .i64 i), .v (.int .i64 p)] (fun h st => h = .v (.bool true)) := hunkBack_law a b i p (i64_of_wf hw).1 (i64_of_wf hw).2 (i64_of_wf hw').1 (i64_of_wf hw').2 (by omega) (by omega) hs0.2
end Go.Proofs.Ytlfenddhppoflaa
