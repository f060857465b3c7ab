/-
  No cell of these rows narrows 'for every input' (looked for: loops, veiled, ifaces, maps, wideKeys, modest, calm, conditions, laid).
  DERIVED. THE GIVEN ROWS OF THIS SEAT. 17 by the template 'for every input the law returns true; each argument reads behind the call as it read before'; 0 by the template 'total and deterministic' (their statements: YtlfenddhppoflaaTotals.lean).
  GIVEN WITH THE SEED: the statements are not yours to turn. If you find one false, say at which input.
  Laid BY PROGRAM, IN A SANDBOX (cutbox-rows.mjs): the forced cells as the released guide's own fill.sh prints them over the translation 6cda71d2453817ed… (all of the seat's roots in one cut). By AI agents, Wed Nov 11 2026. No macro, syntax, notation, axiom, sorry.
-/
import Derived.Test.YtlfenddhppoflaaChecked
import GoSem.Claim
import GoSem.ClaimJoined
import GoSem.ClaimMapViews
import Derived.JoinedTies
import Derived.KernelRfl
namespace Go.Proofs.Ytlfenddhppoflaa
/- THE CELL 'sum', in the pinned program and in every row, IS THE sha256 OF THE DUMP (.gsa) THAT YtlfenddhppoflaaProg.lean LOADS. Nothing in Lean hashes anything: it is a label: what it is worth is what the hold of that sum in a sandbox is worth. -/
noncomputable def Try.pinned : Pinned := { name := "ytlfenddhppoflaa", sum := "6cda71d2453817ed79aed6eede271bc1e9d36a8e0ccd2498d3786a934c65f4be", checked := Try.checked }
namespace Rows
def none {H : Type} : Left H := { results := [], args := [] }

/-- 'tetherlaw12.DiffMakes': WHATEVER THE INPUT: true; the input reads as it did. -/
def diffMakesSpec : ChangeSpec := { name := "diffMakes", fn := fun _ => fun
  | [d1, d2] => { results := [.lit (.bool true)], args := [d1, d2] }
  | _ => none }
def diffMakesRow : OpenClaim := { program := "ytlfenddhppoflaa", sum := "6cda71d2453817ed79aed6eede271bc1e9d36a8e0ccd2498d3786a934c65f4be", func := "tether/tetherlaw12.DiffMakes", spec := "diffMakes", apart := false }
def DiffMakesSaid : Prop := diffMakesRow.holds Try.pinned (OpenSpec.ofChange diffMakesSpec)

/-- ITS FALSE NEIGHBOUR: 'it returns false'. Refute it at one input. -/
def diffMakesWrong : ChangeSpec := { name := "diffMakes", fn := fun _ => fun
  | [d1, d2] => { results := [.lit (.bool false)], args := [d1, d2] }
  | _ => none }
def DiffMakesWrongFalsely : Prop := diffMakesRow.holds Try.pinned (OpenSpec.ofChange diffMakesWrong)

/-- 'tetherlaw12.DiffSame': WHATEVER THE INPUT: true; the input reads as it did. -/
def diffSameSpec : ChangeSpec := { name := "diffSame", fn := fun _ => fun
  | [d1, d2, d3] => { results := [.lit (.bool true)], args := [d1, d2, d3] }
  | _ => none }
def diffSameRow : OpenClaim := { program := "ytlfenddhppoflaa", sum := "6cda71d2453817ed79aed6eede271bc1e9d36a8e0ccd2498d3786a934c65f4be", func := "tether/tetherlaw12.DiffSame", spec := "diffSame", apart := false }
def DiffSameSaid : Prop := diffSameRow.holds Try.pinned (OpenSpec.ofChange diffSameSpec)

/-- ITS FALSE NEIGHBOUR: 'it returns false'. Refute it at one input. -/
def diffSameWrong : ChangeSpec := { name := "diffSame", fn := fun _ => fun
  | [d1, d2, d3] => { results := [.lit (.bool false)], args := [d1, d2, d3] }
  | _ => none }
def DiffSameWrongFalsely : Prop := diffSameRow.holds Try.pinned (OpenSpec.ofChange diffSameWrong)

/-- 'tetherlaw12.DiffScripts': WHATEVER THE INPUT: true; the input reads as it did. -/
def diffScriptsSpec : ChangeSpec := { name := "diffScripts", fn := fun _ => fun
  | [d1, d2] => { results := [.lit (.bool true)], args := [d1, d2] }
  | _ => none }
def diffScriptsRow : OpenClaim := { program := "ytlfenddhppoflaa", sum := "6cda71d2453817ed79aed6eede271bc1e9d36a8e0ccd2498d3786a934c65f4be", func := "tether/tetherlaw12.DiffScripts", spec := "diffScripts", apart := false }
def DiffScriptsSaid : Prop := diffScriptsRow.holds Try.pinned (OpenSpec.ofChange diffScriptsSpec)

/-- ITS FALSE NEIGHBOUR: 'it returns false'. Refute it at one input. -/
def diffScriptsWrong : ChangeSpec := { name := "diffScripts", fn := fun _ => fun
  | [d1, d2] => { results := [.lit (.bool false)], args := [d1, d2] }
  | _ => none }
def DiffScriptsWrongFalsely : Prop := diffScriptsRow.holds Try.pinned (OpenSpec.ofChange diffScriptsWrong)

/-- 'tetherlaw12.DiffLeast': WHATEVER THE INPUT: true; the input reads as it did. -/
def diffLeastSpec : ChangeSpec := { name := "diffLeast", fn := fun _ => fun
  | [d1, d2, d3] => { results := [.lit (.bool true)], args := [d1, d2, d3] }
  | _ => none }
def diffLeastRow : OpenClaim := { program := "ytlfenddhppoflaa", sum := "6cda71d2453817ed79aed6eede271bc1e9d36a8e0ccd2498d3786a934c65f4be", func := "tether/tetherlaw12.DiffLeast", spec := "diffLeast", apart := false }
def DiffLeastSaid : Prop := diffLeastRow.holds Try.pinned (OpenSpec.ofChange diffLeastSpec)

/-- ITS FALSE NEIGHBOUR: 'it returns false'. Refute it at one input. -/
def diffLeastWrong : ChangeSpec := { name := "diffLeast", fn := fun _ => fun
  | [d1, d2, d3] => { results := [.lit (.bool false)], args := [d1, d2, d3] }
  | _ => none }
def DiffLeastWrongFalsely : Prop := diffLeastRow.holds Try.pinned (OpenSpec.ofChange diffLeastWrong)

/-- 'tetherlaw13.HunkPieces': WHATEVER THE INPUT: true; the input reads as it did. -/
def hunkPiecesSpec : ChangeSpec := { name := "hunkPieces", fn := fun _ => fun
  | [d1, d2, d3] => { results := [.lit (.bool true)], args := [d1, d2, d3] }
  | _ => none }
def hunkPiecesRow : OpenClaim := { program := "ytlfenddhppoflaa", sum := "6cda71d2453817ed79aed6eede271bc1e9d36a8e0ccd2498d3786a934c65f4be", func := "tether/tetherlaw13.HunkPieces", spec := "hunkPieces", apart := false }
def HunkPiecesSaid : Prop := hunkPiecesRow.holds Try.pinned (OpenSpec.ofChange hunkPiecesSpec)

/-- ITS FALSE NEIGHBOUR: 'it returns false'. Refute it at one input. -/
def hunkPiecesWrong : ChangeSpec := { name := "hunkPieces", fn := fun _ => fun
  | [d1, d2, d3] => { results := [.lit (.bool false)], args := [d1, d2, d3] }
  | _ => none }
def HunkPiecesWrongFalsely : Prop := hunkPiecesRow.holds Try.pinned (OpenSpec.ofChange hunkPiecesWrong)

/-- 'tetherlaw13.HunkApart': WHATEVER THE INPUT: true; the input reads as it did. -/
def hunkApartSpec : ChangeSpec := { name := "hunkApart", fn := fun _ => fun
  | [d1, d2, d3] => { results := [.lit (.bool true)], args := [d1, d2, d3] }
  | _ => none }
def hunkApartRow : OpenClaim := { program := "ytlfenddhppoflaa", sum := "6cda71d2453817ed79aed6eede271bc1e9d36a8e0ccd2498d3786a934c65f4be", func := "tether/tetherlaw13.HunkApart", spec := "hunkApart", apart := false }
def HunkApartSaid : Prop := hunkApartRow.holds Try.pinned (OpenSpec.ofChange hunkApartSpec)

/-- ITS FALSE NEIGHBOUR: 'it returns false'. Refute it at one input. -/
def hunkApartWrong : ChangeSpec := { name := "hunkApart", fn := fun _ => fun
  | [d1, d2, d3] => { results := [.lit (.bool false)], args := [d1, d2, d3] }
  | _ => none }
def HunkApartWrongFalsely : Prop := hunkApartRow.holds Try.pinned (OpenSpec.ofChange hunkApartWrong)

/-- 'tetherlaw13.HunkApplies': WHATEVER THE INPUT: true; the input reads as it did. -/
def hunkAppliesSpec : ChangeSpec := { name := "hunkApplies", fn := fun _ => fun
  | [d1, d2] => { results := [.lit (.bool true)], args := [d1, d2] }
  | _ => none }
def hunkAppliesRow : OpenClaim := { program := "ytlfenddhppoflaa", sum := "6cda71d2453817ed79aed6eede271bc1e9d36a8e0ccd2498d3786a934c65f4be", func := "tether/tetherlaw13.HunkApplies", spec := "hunkApplies", apart := false }
def HunkAppliesSaid : Prop := hunkAppliesRow.holds Try.pinned (OpenSpec.ofChange hunkAppliesSpec)

/-- ITS FALSE NEIGHBOUR: 'it returns false'. Refute it at one input. -/
def hunkAppliesWrong : ChangeSpec := { name := "hunkApplies", fn := fun _ => fun
  | [d1, d2] => { results := [.lit (.bool false)], args := [d1, d2] }
  | _ => none }
def HunkAppliesWrongFalsely : Prop := hunkAppliesRow.holds Try.pinned (OpenSpec.ofChange hunkAppliesWrong)

/-- 'tetherlaw13.HunkBack': WHATEVER THE INPUT: true; the input reads as it did. -/
def hunkBackSpec : ChangeSpec := { name := "hunkBack", fn := fun _ => fun
  | [d1, d2, d3, d4] => { results := [.lit (.bool true)], args := [d1, d2, d3, d4] }
  | _ => none }
def hunkBackRow : OpenClaim := { program := "ytlfenddhppoflaa", sum := "6cda71d2453817ed79aed6eede271bc1e9d36a8e0ccd2498d3786a934c65f4be", func := "tether/tetherlaw13.HunkBack", spec := "hunkBack", apart := false }
def HunkBackSaid : Prop := hunkBackRow.holds Try.pinned (OpenSpec.ofChange hunkBackSpec)

/-- ITS FALSE NEIGHBOUR: 'it returns false'. Refute it at one input. -/
def hunkBackWrong : ChangeSpec := { name := "hunkBack", fn := fun _ => fun
  | [d1, d2, d3, d4] => { results := [.lit (.bool false)], args := [d1, d2, d3, d4] }
  | _ => none }
def HunkBackWrongFalsely : Prop := hunkBackRow.holds Try.pinned (OpenSpec.ofChange hunkBackWrong)

/-- 'tetherlaw11.LinesSplits': WHATEVER THE INPUT: true; the input reads as it did. -/
def linesSplitsSpec : ChangeSpec := { name := "linesSplits", fn := fun _ => fun
  | [d] => { results := [.lit (.bool true)], args := [d] }
  | _ => none }
def linesSplitsRow : OpenClaim := { program := "ytlfenddhppoflaa", sum := "6cda71d2453817ed79aed6eede271bc1e9d36a8e0ccd2498d3786a934c65f4be", func := "tether/tetherlaw11.LinesSplits", spec := "linesSplits", inPlace := ["internal/bytealg.IndexByteString", "internal/bytealg.CountString", "internal/bytealg.IndexString"], named := ["internal/bytealg.MaxLen"], apart := false }
def LinesSplitsSaid : Prop := linesSplitsRow.holds Try.pinned (OpenSpec.ofChange linesSplitsSpec)

/-- ITS FALSE NEIGHBOUR: 'it returns false'. Refute it at one input. -/
def linesSplitsWrong : ChangeSpec := { name := "linesSplits", fn := fun _ => fun
  | [d] => { results := [.lit (.bool false)], args := [d] }
  | _ => none }
def LinesSplitsWrongFalsely : Prop := linesSplitsRow.holds Try.pinned (OpenSpec.ofChange linesSplitsWrong)

/-- 'tetherlaw11.LinesJoins': WHATEVER THE INPUT: true; the input reads as it did. -/
def linesJoinsSpec : ChangeSpec := { name := "linesJoins", fn := fun _ => fun
  | [d] => { results := [.lit (.bool true)], args := [d] }
  | _ => none }
def linesJoinsRow : OpenClaim := { program := "ytlfenddhppoflaa", sum := "6cda71d2453817ed79aed6eede271bc1e9d36a8e0ccd2498d3786a934c65f4be", func := "tether/tetherlaw11.LinesJoins", spec := "linesJoins", inPlace := ["internal/bytealg.IndexByteString", "internal/bytealg.CountString", "internal/bytealg.IndexString", "internal/abi.NoEscape", "internal/bytealg.MakeNoZero"], named := ["internal/bytealg.MaxLen"], apart := false }
def LinesJoinsSaid : Prop := linesJoinsRow.holds Try.pinned (OpenSpec.ofChange linesJoinsSpec)

/-- ITS FALSE NEIGHBOUR: 'it returns false'. Refute it at one input. -/
def linesJoinsWrong : ChangeSpec := { name := "linesJoins", fn := fun _ => fun
  | [d] => { results := [.lit (.bool false)], args := [d] }
  | _ => none }
def LinesJoinsWrongFalsely : Prop := linesJoinsRow.holds Try.pinned (OpenSpec.ofChange linesJoinsWrong)

/-- 'tetherlaw11.LinesBack': WHATEVER THE INPUT: true; the input reads as it did. -/
def linesBackSpec : ChangeSpec := { name := "linesBack", fn := fun _ => fun
  | [d] => { results := [.lit (.bool true)], args := [d] }
  | _ => none }
def linesBackRow : OpenClaim := { program := "ytlfenddhppoflaa", sum := "6cda71d2453817ed79aed6eede271bc1e9d36a8e0ccd2498d3786a934c65f4be", func := "tether/tetherlaw11.LinesBack", spec := "linesBack", inPlace := ["internal/bytealg.IndexByteString", "internal/bytealg.CountString", "internal/bytealg.IndexString", "internal/abi.NoEscape", "internal/bytealg.MakeNoZero"], named := ["internal/bytealg.MaxLen"], apart := false }
def LinesBackSaid : Prop := linesBackRow.holds Try.pinned (OpenSpec.ofChange linesBackSpec)

/-- ITS FALSE NEIGHBOUR: 'it returns false'. Refute it at one input. -/
def linesBackWrong : ChangeSpec := { name := "linesBack", fn := fun _ => fun
  | [d] => { results := [.lit (.bool false)], args := [d] }
  | _ => none }
def LinesBackWrongFalsely : Prop := linesBackRow.holds Try.pinned (OpenSpec.ofChange linesBackWrong)

/-- 'tetherlaw14.MergeChunks': WHATEVER THE INPUT: true; the input reads as it did. -/
def mergeChunksSpec : ChangeSpec := { name := "mergeChunks", fn := fun _ => fun
  | [d1, d2, d3] => { results := [.lit (.bool true)], args := [d1, d2, d3] }
  | _ => none }
def mergeChunksRow : OpenClaim := { program := "ytlfenddhppoflaa", sum := "6cda71d2453817ed79aed6eede271bc1e9d36a8e0ccd2498d3786a934c65f4be", func := "tether/tetherlaw14.MergeChunks", spec := "mergeChunks", inPlace := ["internal/bytealg.CountString", "internal/bytealg.IndexByteString", "internal/bytealg.IndexString", "internal/abi.NoEscape", "internal/bytealg.MakeNoZero"], named := ["internal/bytealg.MaxLen"], apart := false }
def MergeChunksSaid : Prop := mergeChunksRow.holds Try.pinned (OpenSpec.ofChange mergeChunksSpec)

/-- ITS FALSE NEIGHBOUR: 'it returns false'. Refute it at one input. -/
def mergeChunksWrong : ChangeSpec := { name := "mergeChunks", fn := fun _ => fun
  | [d1, d2, d3] => { results := [.lit (.bool false)], args := [d1, d2, d3] }
  | _ => none }
def MergeChunksWrongFalsely : Prop := mergeChunksRow.holds Try.pinned (OpenSpec.ofChange mergeChunksWrong)

/-- 'tetherlaw14.MergeTexts': WHATEVER THE INPUT: true; the input reads as it did. -/
def mergeTextsSpec : ChangeSpec := { name := "mergeTexts", fn := fun _ => fun
  | [d1, d2, d3] => { results := [.lit (.bool true)], args := [d1, d2, d3] }
  | _ => none }
def mergeTextsRow : OpenClaim := { program := "ytlfenddhppoflaa", sum := "6cda71d2453817ed79aed6eede271bc1e9d36a8e0ccd2498d3786a934c65f4be", func := "tether/tetherlaw14.MergeTexts", spec := "mergeTexts", inPlace := ["internal/bytealg.CountString", "internal/bytealg.IndexByteString", "internal/bytealg.IndexString", "internal/abi.NoEscape", "internal/bytealg.MakeNoZero"], named := ["internal/bytealg.MaxLen"], apart := false }
def MergeTextsSaid : Prop := mergeTextsRow.holds Try.pinned (OpenSpec.ofChange mergeTextsSpec)

/-- ITS FALSE NEIGHBOUR: 'it returns false'. Refute it at one input. -/
def mergeTextsWrong : ChangeSpec := { name := "mergeTexts", fn := fun _ => fun
  | [d1, d2, d3] => { results := [.lit (.bool false)], args := [d1, d2, d3] }
  | _ => none }
def MergeTextsWrongFalsely : Prop := mergeTextsRow.holds Try.pinned (OpenSpec.ofChange mergeTextsWrong)

/-- 'tetherlaw14.MergeParts': WHATEVER THE INPUT: true; the input reads as it did. -/
def mergePartsSpec : ChangeSpec := { name := "mergeParts", fn := fun _ => fun
  | [d1, d2, d3] => { results := [.lit (.bool true)], args := [d1, d2, d3] }
  | _ => none }
def mergePartsRow : OpenClaim := { program := "ytlfenddhppoflaa", sum := "6cda71d2453817ed79aed6eede271bc1e9d36a8e0ccd2498d3786a934c65f4be", func := "tether/tetherlaw14.MergeParts", spec := "mergeParts", inPlace := ["internal/bytealg.CountString", "internal/bytealg.IndexByteString", "internal/bytealg.IndexString", "internal/abi.NoEscape", "internal/bytealg.MakeNoZero"], named := ["internal/bytealg.MaxLen"], apart := false }
def MergePartsSaid : Prop := mergePartsRow.holds Try.pinned (OpenSpec.ofChange mergePartsSpec)

/-- ITS FALSE NEIGHBOUR: 'it returns false'. Refute it at one input. -/
def mergePartsWrong : ChangeSpec := { name := "mergeParts", fn := fun _ => fun
  | [d1, d2, d3] => { results := [.lit (.bool false)], args := [d1, d2, d3] }
  | _ => none }
def MergePartsWrongFalsely : Prop := mergePartsRow.holds Try.pinned (OpenSpec.ofChange mergePartsWrong)

/-- 'tetherlaw14.MergeOne': WHATEVER THE INPUT: true; the input reads as it did. -/
def mergeOneSpec : ChangeSpec := { name := "mergeOne", fn := fun _ => fun
  | [d1, d2, d3] => { results := [.lit (.bool true)], args := [d1, d2, d3] }
  | _ => none }
def mergeOneRow : OpenClaim := { program := "ytlfenddhppoflaa", sum := "6cda71d2453817ed79aed6eede271bc1e9d36a8e0ccd2498d3786a934c65f4be", func := "tether/tetherlaw14.MergeOne", spec := "mergeOne", inPlace := ["internal/bytealg.CountString", "internal/bytealg.IndexByteString", "internal/bytealg.IndexString", "internal/abi.NoEscape", "internal/bytealg.MakeNoZero"], named := ["internal/bytealg.MaxLen"], apart := false }
def MergeOneSaid : Prop := mergeOneRow.holds Try.pinned (OpenSpec.ofChange mergeOneSpec)

/-- ITS FALSE NEIGHBOUR: 'it returns false'. Refute it at one input. -/
def mergeOneWrong : ChangeSpec := { name := "mergeOne", fn := fun _ => fun
  | [d1, d2, d3] => { results := [.lit (.bool false)], args := [d1, d2, d3] }
  | _ => none }
def MergeOneWrongFalsely : Prop := mergeOneRow.holds Try.pinned (OpenSpec.ofChange mergeOneWrong)

/-- 'tetherlaw14.MergeApart': WHATEVER THE INPUT: true; the input reads as it did. -/
def mergeApartSpec : ChangeSpec := { name := "mergeApart", fn := fun _ => fun
  | [d1, d2, d3, d4] => { results := [.lit (.bool true)], args := [d1, d2, d3, d4] }
  | _ => none }
def mergeApartRow : OpenClaim := { program := "ytlfenddhppoflaa", sum := "6cda71d2453817ed79aed6eede271bc1e9d36a8e0ccd2498d3786a934c65f4be", func := "tether/tetherlaw14.MergeApart", spec := "mergeApart", inPlace := ["internal/bytealg.CountString", "internal/bytealg.IndexByteString", "internal/bytealg.IndexString", "internal/abi.NoEscape", "internal/bytealg.MakeNoZero"], named := ["internal/bytealg.MaxLen"], apart := false }
def MergeApartSaid : Prop := mergeApartRow.holds Try.pinned (OpenSpec.ofChange mergeApartSpec)

/-- ITS FALSE NEIGHBOUR: 'it returns false'. Refute it at one input. -/
def mergeApartWrong : ChangeSpec := { name := "mergeApart", fn := fun _ => fun
  | [d1, d2, d3, d4] => { results := [.lit (.bool false)], args := [d1, d2, d3, d4] }
  | _ => none }
def MergeApartWrongFalsely : Prop := mergeApartRow.holds Try.pinned (OpenSpec.ofChange mergeApartWrong)

/-- 'tetherlaw14.MergeMarks': WHATEVER THE INPUT: true; the input reads as it did. -/
def mergeMarksSpec : ChangeSpec := { name := "mergeMarks", fn := fun _ => fun
  | [d1, d2, d3] => { results := [.lit (.bool true)], args := [d1, d2, d3] }
  | _ => none }
def mergeMarksRow : OpenClaim := { program := "ytlfenddhppoflaa", sum := "6cda71d2453817ed79aed6eede271bc1e9d36a8e0ccd2498d3786a934c65f4be", func := "tether/tetherlaw14.MergeMarks", spec := "mergeMarks", inPlace := ["internal/bytealg.CountString", "internal/bytealg.IndexByteString", "internal/bytealg.IndexString", "internal/abi.NoEscape", "internal/bytealg.MakeNoZero"], named := ["internal/bytealg.MaxLen"], apart := false }
def MergeMarksSaid : Prop := mergeMarksRow.holds Try.pinned (OpenSpec.ofChange mergeMarksSpec)

/-- ITS FALSE NEIGHBOUR: 'it returns false'. Refute it at one input. -/
def mergeMarksWrong : ChangeSpec := { name := "mergeMarks", fn := fun _ => fun
  | [d1, d2, d3] => { results := [.lit (.bool false)], args := [d1, d2, d3] }
  | _ => none }
def MergeMarksWrongFalsely : Prop := mergeMarksRow.holds Try.pinned (OpenSpec.ofChange mergeMarksWrong)

/- THE SECOND FORM. 'bulk': how many values and letters a reading holds, each counted each time it is reached (what is shared counts as often as it is met; a slice's spare places count too). A statement '..UptoSaid' is the law's where the arguments, and the package variables that the reading takes, are together of bulk at most 1048576: NARROWER than '..Said'. Prove '..Said' where nothing that the law and all that it calls make is longer than what came in: it says more and counts as full. Else prove '..UptoSaid'. A law counts once. -/
mutual
def uptoBulk {H : Type} : DataW H → Nat
  | .lit (.string bytes) => bytes.length + 1
  | .lit _ => 1
  | .nil => 1
  | .ptr d => uptoBulk d + 1
  | .slice elems spare => uptoBulkAll elems + uptoBulkAll spare + 1
  | .agg parts => uptoBulkAll parts + 1
  | .iface _ d => uptoBulk d + 1
  | .map entries => uptoBulkEntries entries + 1
  | .held _ => 1
def uptoBulkAll {H : Type} : List (DataW H) → Nat
  | [] => 0
  | d :: r => uptoBulk d + uptoBulkAll r
def uptoBulkEntries {H : Type} : List (Lit × DataW H) → Nat
  | [] => 0
  | x :: r => uptoBulkEntry x + uptoBulkEntries r
def uptoBulkEntry {H : Type} : Lit × DataW H → Nat
  | (.string bytes, d) => bytes.length + uptoBulk d + 1
  | (_, d) => uptoBulk d + 1
 end
def uptoSmall : (H : Type) → List (DataW H) → Bool := fun _ ds => decide (uptoBulkAll ds ≤ 1048576)
def OpenSpec.upto (s : _root_.Go.ChangeSpec) : _root_.Go.OpenSpec := { _root_.Go.OpenSpec.ofChange s with cond := some uptoSmall }

/-- 'tetherlaw12.DiffMakes', WHERE WHAT IT READS IS OF BULK AT MOST 1048576: true; the input reads as it did. -/
def diffMakesUptoRow : OpenClaim := { program := "ytlfenddhppoflaa", sum := "6cda71d2453817ed79aed6eede271bc1e9d36a8e0ccd2498d3786a934c65f4be", func := "tether/tetherlaw12.DiffMakes", spec := "diffMakes", apart := false, narrowed := true }
def DiffMakesUptoSaid : Prop := diffMakesUptoRow.holds Try.pinned (OpenSpec.upto diffMakesSpec)

/-- 'tetherlaw12.DiffSame', WHERE WHAT IT READS IS OF BULK AT MOST 1048576: true; the input reads as it did. -/
def diffSameUptoRow : OpenClaim := { program := "ytlfenddhppoflaa", sum := "6cda71d2453817ed79aed6eede271bc1e9d36a8e0ccd2498d3786a934c65f4be", func := "tether/tetherlaw12.DiffSame", spec := "diffSame", apart := false, narrowed := true }
def DiffSameUptoSaid : Prop := diffSameUptoRow.holds Try.pinned (OpenSpec.upto diffSameSpec)

/-- 'tetherlaw12.DiffScripts', WHERE WHAT IT READS IS OF BULK AT MOST 1048576: true; the input reads as it did. -/
def diffScriptsUptoRow : OpenClaim := { program := "ytlfenddhppoflaa", sum := "6cda71d2453817ed79aed6eede271bc1e9d36a8e0ccd2498d3786a934c65f4be", func := "tether/tetherlaw12.DiffScripts", spec := "diffScripts", apart := false, narrowed := true }
def DiffScriptsUptoSaid : Prop := diffScriptsUptoRow.holds Try.pinned (OpenSpec.upto diffScriptsSpec)

/-- 'tetherlaw12.DiffLeast', WHERE WHAT IT READS IS OF BULK AT MOST 1048576: true; the input reads as it did. -/
def diffLeastUptoRow : OpenClaim := { program := "ytlfenddhppoflaa", sum := "6cda71d2453817ed79aed6eede271bc1e9d36a8e0ccd2498d3786a934c65f4be", func := "tether/tetherlaw12.DiffLeast", spec := "diffLeast", apart := false, narrowed := true }
def DiffLeastUptoSaid : Prop := diffLeastUptoRow.holds Try.pinned (OpenSpec.upto diffLeastSpec)

/-- 'tetherlaw13.HunkPieces', WHERE WHAT IT READS IS OF BULK AT MOST 1048576: true; the input reads as it did. -/
def hunkPiecesUptoRow : OpenClaim := { program := "ytlfenddhppoflaa", sum := "6cda71d2453817ed79aed6eede271bc1e9d36a8e0ccd2498d3786a934c65f4be", func := "tether/tetherlaw13.HunkPieces", spec := "hunkPieces", apart := false, narrowed := true }
def HunkPiecesUptoSaid : Prop := hunkPiecesUptoRow.holds Try.pinned (OpenSpec.upto hunkPiecesSpec)

/-- 'tetherlaw13.HunkApart', WHERE WHAT IT READS IS OF BULK AT MOST 1048576: true; the input reads as it did. -/
def hunkApartUptoRow : OpenClaim := { program := "ytlfenddhppoflaa", sum := "6cda71d2453817ed79aed6eede271bc1e9d36a8e0ccd2498d3786a934c65f4be", func := "tether/tetherlaw13.HunkApart", spec := "hunkApart", apart := false, narrowed := true }
def HunkApartUptoSaid : Prop := hunkApartUptoRow.holds Try.pinned (OpenSpec.upto hunkApartSpec)

/-- 'tetherlaw13.HunkApplies', WHERE WHAT IT READS IS OF BULK AT MOST 1048576: true; the input reads as it did. -/
def hunkAppliesUptoRow : OpenClaim := { program := "ytlfenddhppoflaa", sum := "6cda71d2453817ed79aed6eede271bc1e9d36a8e0ccd2498d3786a934c65f4be", func := "tether/tetherlaw13.HunkApplies", spec := "hunkApplies", apart := false, narrowed := true }
def HunkAppliesUptoSaid : Prop := hunkAppliesUptoRow.holds Try.pinned (OpenSpec.upto hunkAppliesSpec)

/-- 'tetherlaw13.HunkBack', WHERE WHAT IT READS IS OF BULK AT MOST 1048576: true; the input reads as it did. -/
def hunkBackUptoRow : OpenClaim := { program := "ytlfenddhppoflaa", sum := "6cda71d2453817ed79aed6eede271bc1e9d36a8e0ccd2498d3786a934c65f4be", func := "tether/tetherlaw13.HunkBack", spec := "hunkBack", apart := false, narrowed := true }
def HunkBackUptoSaid : Prop := hunkBackUptoRow.holds Try.pinned (OpenSpec.upto hunkBackSpec)

/-- 'tetherlaw11.LinesSplits', WHERE WHAT IT READS IS OF BULK AT MOST 1048576: true; the input reads as it did. -/
def linesSplitsUptoRow : OpenClaim := { program := "ytlfenddhppoflaa", sum := "6cda71d2453817ed79aed6eede271bc1e9d36a8e0ccd2498d3786a934c65f4be", func := "tether/tetherlaw11.LinesSplits", spec := "linesSplits", inPlace := ["internal/bytealg.IndexByteString", "internal/bytealg.CountString", "internal/bytealg.IndexString"], named := ["internal/bytealg.MaxLen"], apart := false, narrowed := true }
def LinesSplitsUptoSaid : Prop := linesSplitsUptoRow.holds Try.pinned (OpenSpec.upto linesSplitsSpec)

/-- 'tetherlaw11.LinesJoins', WHERE WHAT IT READS IS OF BULK AT MOST 1048576: true; the input reads as it did. -/
def linesJoinsUptoRow : OpenClaim := { program := "ytlfenddhppoflaa", sum := "6cda71d2453817ed79aed6eede271bc1e9d36a8e0ccd2498d3786a934c65f4be", func := "tether/tetherlaw11.LinesJoins", spec := "linesJoins", inPlace := ["internal/bytealg.IndexByteString", "internal/bytealg.CountString", "internal/bytealg.IndexString", "internal/abi.NoEscape", "internal/bytealg.MakeNoZero"], named := ["internal/bytealg.MaxLen"], apart := false, narrowed := true }
def LinesJoinsUptoSaid : Prop := linesJoinsUptoRow.holds Try.pinned (OpenSpec.upto linesJoinsSpec)

/-- 'tetherlaw11.LinesBack', WHERE WHAT IT READS IS OF BULK AT MOST 1048576: true; the input reads as it did. -/
def linesBackUptoRow : OpenClaim := { program := "ytlfenddhppoflaa", sum := "6cda71d2453817ed79aed6eede271bc1e9d36a8e0ccd2498d3786a934c65f4be", func := "tether/tetherlaw11.LinesBack", spec := "linesBack", inPlace := ["internal/bytealg.IndexByteString", "internal/bytealg.CountString", "internal/bytealg.IndexString", "internal/abi.NoEscape", "internal/bytealg.MakeNoZero"], named := ["internal/bytealg.MaxLen"], apart := false, narrowed := true }
def LinesBackUptoSaid : Prop := linesBackUptoRow.holds Try.pinned (OpenSpec.upto linesBackSpec)

/-- 'tetherlaw14.MergeChunks', WHERE WHAT IT READS IS OF BULK AT MOST 1048576: true; the input reads as it did. -/
def mergeChunksUptoRow : OpenClaim := { program := "ytlfenddhppoflaa", sum := "6cda71d2453817ed79aed6eede271bc1e9d36a8e0ccd2498d3786a934c65f4be", func := "tether/tetherlaw14.MergeChunks", spec := "mergeChunks", inPlace := ["internal/bytealg.CountString", "internal/bytealg.IndexByteString", "internal/bytealg.IndexString", "internal/abi.NoEscape", "internal/bytealg.MakeNoZero"], named := ["internal/bytealg.MaxLen"], apart := false, narrowed := true }
def MergeChunksUptoSaid : Prop := mergeChunksUptoRow.holds Try.pinned (OpenSpec.upto mergeChunksSpec)

/-- 'tetherlaw14.MergeTexts', WHERE WHAT IT READS IS OF BULK AT MOST 1048576: true; the input reads as it did. -/
def mergeTextsUptoRow : OpenClaim := { program := "ytlfenddhppoflaa", sum := "6cda71d2453817ed79aed6eede271bc1e9d36a8e0ccd2498d3786a934c65f4be", func := "tether/tetherlaw14.MergeTexts", spec := "mergeTexts", inPlace := ["internal/bytealg.CountString", "internal/bytealg.IndexByteString", "internal/bytealg.IndexString", "internal/abi.NoEscape", "internal/bytealg.MakeNoZero"], named := ["internal/bytealg.MaxLen"], apart := false, narrowed := true }
def MergeTextsUptoSaid : Prop := mergeTextsUptoRow.holds Try.pinned (OpenSpec.upto mergeTextsSpec)

/-- 'tetherlaw14.MergeParts', WHERE WHAT IT READS IS OF BULK AT MOST 1048576: true; the input reads as it did. -/
def mergePartsUptoRow : OpenClaim := { program := "ytlfenddhppoflaa", sum := "6cda71d2453817ed79aed6eede271bc1e9d36a8e0ccd2498d3786a934c65f4be", func := "tether/tetherlaw14.MergeParts", spec := "mergeParts", inPlace := ["internal/bytealg.CountString", "internal/bytealg.IndexByteString", "internal/bytealg.IndexString", "internal/abi.NoEscape", "internal/bytealg.MakeNoZero"], named := ["internal/bytealg.MaxLen"], apart := false, narrowed := true }
def MergePartsUptoSaid : Prop := mergePartsUptoRow.holds Try.pinned (OpenSpec.upto mergePartsSpec)

/-- 'tetherlaw14.MergeOne', WHERE WHAT IT READS IS OF BULK AT MOST 1048576: true; the input reads as it did. -/
def mergeOneUptoRow : OpenClaim := { program := "ytlfenddhppoflaa", sum := "6cda71d2453817ed79aed6eede271bc1e9d36a8e0ccd2498d3786a934c65f4be", func := "tether/tetherlaw14.MergeOne", spec := "mergeOne", inPlace := ["internal/bytealg.CountString", "internal/bytealg.IndexByteString", "internal/bytealg.IndexString", "internal/abi.NoEscape", "internal/bytealg.MakeNoZero"], named := ["internal/bytealg.MaxLen"], apart := false, narrowed := true }
def MergeOneUptoSaid : Prop := mergeOneUptoRow.holds Try.pinned (OpenSpec.upto mergeOneSpec)

/-- 'tetherlaw14.MergeApart', WHERE WHAT IT READS IS OF BULK AT MOST 1048576: true; the input reads as it did. -/
def mergeApartUptoRow : OpenClaim := { program := "ytlfenddhppoflaa", sum := "6cda71d2453817ed79aed6eede271bc1e9d36a8e0ccd2498d3786a934c65f4be", func := "tether/tetherlaw14.MergeApart", spec := "mergeApart", inPlace := ["internal/bytealg.CountString", "internal/bytealg.IndexByteString", "internal/bytealg.IndexString", "internal/abi.NoEscape", "internal/bytealg.MakeNoZero"], named := ["internal/bytealg.MaxLen"], apart := false, narrowed := true }
def MergeApartUptoSaid : Prop := mergeApartUptoRow.holds Try.pinned (OpenSpec.upto mergeApartSpec)

/-- 'tetherlaw14.MergeMarks', WHERE WHAT IT READS IS OF BULK AT MOST 1048576: true; the input reads as it did. -/
def mergeMarksUptoRow : OpenClaim := { program := "ytlfenddhppoflaa", sum := "6cda71d2453817ed79aed6eede271bc1e9d36a8e0ccd2498d3786a934c65f4be", func := "tether/tetherlaw14.MergeMarks", spec := "mergeMarks", inPlace := ["internal/bytealg.CountString", "internal/bytealg.IndexByteString", "internal/bytealg.IndexString", "internal/abi.NoEscape", "internal/bytealg.MakeNoZero"], named := ["internal/bytealg.MaxLen"], apart := false, narrowed := true }
def MergeMarksUptoSaid : Prop := mergeMarksUptoRow.holds Try.pinned (OpenSpec.upto mergeMarksSpec)

end Rows
end Go.Proofs.Ytlfenddhppoflaa
