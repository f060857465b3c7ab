/-
  The laws UndoBack, UndoOnce.
-/
import Derived.Test.YtkonlklieacjoaaDoorUlw
import Derived.Test.YtkonlklieacjoaaDoorUaw
set_option linter.unusedSimpArgs false
set_option linter.unusedVariables false
set_option maxRecDepth 20000
namespace Go.Tr
open Go Go.Eng
theorem all3_iff (T : Tri) : all3 T = true ↔ Tree3 T := by
 unfold all3
 simp only [Bool.and_eq_true, decide_eq_true_eq, tree_iff]
 exact ⟨fun ⟨a, b, c⟩ => ⟨a, b, c⟩, fun ⟨a, b, c⟩ => ⟨a, b, c⟩⟩
structure Big (T : Tri) : Prop where
 len : ∀ i, i < 3 → (tr T i).length ≤ 1048576
 size : ∀ i, i < 3 → ∀ e ∈ tr T i, e.1.size ≤ 1048576
theorem Tree3.big {T : Tri} (h : Tree3 T) : Big T := ⟨fun i _ => by have := (h.tr i).len; omega, fun i _ => (h.tr i).size⟩
theorem Tree3.len {T : Tri} (h : Tree3 T) : ∀ i, i < 3 → (Go.Tr.tr T i).length ≤ 200 := fun i _ => (h.tr i).len
theorem lend_rec {st : Store} {i j k : Int} {L : List Chg} {h : HV} (l : Lend st h (.lst false (chs L))) : Lend st (.agg [.v (.int .i64 i), .v (.int .i64 j), .v (.int .i64 k), h]) (recH i j k L) := .agg rfl fun m h1 h2 => by
 match m, h1 with
 | 0, _ => exact .v _
 | 1, _ => exact .v _
 | 2, _ => exact .v _
 | 3, _ => exact l
end Go.Tr
namespace Go.Proofs.YtkonlklieacjoaaDoor
open Go Go.Eng Go.RowKit Go.Tr
end Go.Proofs.YtkonlklieacjoaaDoor
