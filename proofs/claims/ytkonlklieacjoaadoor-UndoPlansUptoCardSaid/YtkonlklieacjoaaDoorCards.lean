/-
  DERIVED. GIVEN WITH THE SEED: THE CARDS: each row of YtkonlklieacjoaaDoorRows.lean that lists a variable, with what it lists TIED to the program's text (the seventh form; the later family's looks); each row that meets fmt, with fmt's text TOLD by the authors' own Lean function (tested against real Go, not proved from fmt's source: count such statements apart). THE CARD IS WHAT COUNTS. Prove the row's statement (the work); the ties are given (YtkonlklieacjoaaDoorTie.lean); close each card by the builder's one call (the guide's Derived/Test/ToyasCard.lean, 'card_holds'). Laid BY PROGRAM, IN A SANDBOX (cutbox-door.mjs). By AI agents, Wed Nov 11 2026. No macro, syntax, notation, axiom, sorry.
-/
import Derived.Test.YtkonlklieacjoaaDoorRows
import GoSem.ClaimSeven
namespace Go.Proofs.YtkonlklieacjoaaDoor
namespace Rows

/-- THE TIED CARD OF 'tetherlaw04.TreeChecks'. -/
def treeChecksCard : Claim7 := { stood := { row := treeChecksRow, standIns := [], harness := (true, "c784d6db7645200c9dc886835e7bb2c80cbc100f3457de13662e37e2d4dce54f"), looks := false }, kinds := [], alts := [], laidByText := true, laidKinds := [.data, .pinned], laidTests := true, laidLooks := .later }
def TreeChecksCardSaid : Prop := Claim7.holds Tryd.pinned (.plain (OpenSpec.ofChange treeChecksSpec)) treeChecksCard

/-- THE TIED CARD OF 'tetherlaw04.TreePuts'. -/
def treePutsCard : Claim7 := { stood := { row := treePutsRow, standIns := [], harness := (true, "c784d6db7645200c9dc886835e7bb2c80cbc100f3457de13662e37e2d4dce54f"), looks := false }, kinds := [], alts := [], laidByText := true, laidKinds := [.data, .pinned], laidTests := true, laidLooks := .later }
def TreePutsCardSaid : Prop := Claim7.holds Tryd.pinned (.plain (OpenSpec.ofChange treePutsSpec)) treePutsCard

/-- THE TIED CARD OF 'tetherlaw04.TreeGets'. -/
def treeGetsCard : Claim7 := { stood := { row := treeGetsRow, standIns := [], harness := (true, "c784d6db7645200c9dc886835e7bb2c80cbc100f3457de13662e37e2d4dce54f"), looks := false }, kinds := [], alts := [], laidByText := true, laidKinds := [.data, .pinned], laidTests := true, laidLooks := .later }
def TreeGetsCardSaid : Prop := Claim7.holds Tryd.pinned (.plain (OpenSpec.ofChange treeGetsSpec)) treeGetsCard

/-- THE TIED CARD OF 'tetherlaw04.TreeDiffs'. -/
def treeDiffsCard : Claim7 := { stood := { row := treeDiffsRow, standIns := [], harness := (true, "c784d6db7645200c9dc886835e7bb2c80cbc100f3457de13662e37e2d4dce54f"), looks := false }, kinds := [], alts := [], laidByText := true, laidKinds := [.data, .pinned], laidTests := true, laidLooks := .later }
def TreeDiffsCardSaid : Prop := Claim7.holds Tryd.pinned (.plain (OpenSpec.ofChange treeDiffsSpec)) treeDiffsCard

/-- THE TIED CARD OF 'tetherlaw15.ScanChanges'. -/
def scanChangesCard : Claim7 := { stood := { row := scanChangesRow, standIns := [], harness := (true, "c784d6db7645200c9dc886835e7bb2c80cbc100f3457de13662e37e2d4dce54f"), looks := false }, kinds := [], alts := [], laidByText := true, laidKinds := [.data, .pinned], laidTests := true, laidLooks := .later }
def ScanChangesCardSaid : Prop := Claim7.holds Tryd.pinned (.plain (OpenSpec.ofChange scanChangesSpec)) scanChangesCard

/-- THE TIED CARD OF 'tetherlaw04.TreeReplaces'. -/
def treeReplacesCard : Claim7 := { stood := { row := treeReplacesRow, standIns := [], harness := (true, "c784d6db7645200c9dc886835e7bb2c80cbc100f3457de13662e37e2d4dce54f"), looks := false }, kinds := [], alts := [], laidByText := true, laidKinds := [.data, .pinned], laidTests := true, laidLooks := .later }
def TreeReplacesCardSaid : Prop := Claim7.holds Tryd.pinned (.plain (OpenSpec.ofChange treeReplacesSpec)) treeReplacesCard

/-- THE TIED CARD OF 'tetherlaw22.UndoPlans'. -/
def undoPlansCard : Claim7 := { stood := { row := undoPlansRow, standIns := [], harness := (true, "c784d6db7645200c9dc886835e7bb2c80cbc100f3457de13662e37e2d4dce54f"), looks := false }, kinds := [], alts := [], laidByText := true, laidKinds := [.data, .pinned], laidTests := true, laidLooks := .later }
def UndoPlansCardSaid : Prop := Claim7.holds Tryd.pinned (.plain (OpenSpec.ofChange undoPlansSpec)) undoPlansCard

/-- THE TIED CARD OF 'tetherlaw22.UndoBack'. -/
def undoBackCard : Claim7 := { stood := { row := undoBackRow, standIns := [], harness := (true, "c784d6db7645200c9dc886835e7bb2c80cbc100f3457de13662e37e2d4dce54f"), looks := false }, kinds := [], alts := [], laidByText := true, laidKinds := [.data, .pinned], laidTests := true, laidLooks := .later }
def UndoBackCardSaid : Prop := Claim7.holds Tryd.pinned (.plain (OpenSpec.ofChange undoBackSpec)) undoBackCard

/-- THE TIED CARD OF 'tetherlaw22.UndoLeaves'. -/
def undoLeavesCard : Claim7 := { stood := { row := undoLeavesRow, standIns := [], harness := (true, "c784d6db7645200c9dc886835e7bb2c80cbc100f3457de13662e37e2d4dce54f"), looks := false }, kinds := [], alts := [], laidByText := true, laidKinds := [.data, .pinned], laidTests := true, laidLooks := .later }
def UndoLeavesCardSaid : Prop := Claim7.holds Tryd.pinned (.plain (OpenSpec.ofChange undoLeavesSpec)) undoLeavesCard

/-- THE TIED CARD OF 'tetherlaw22.UndoOnce'. -/
def undoOnceCard : Claim7 := { stood := { row := undoOnceRow, standIns := [], harness := (true, "c784d6db7645200c9dc886835e7bb2c80cbc100f3457de13662e37e2d4dce54f"), looks := false }, kinds := [], alts := [], laidByText := true, laidKinds := [.data, .pinned], laidTests := true, laidLooks := .later }
def UndoOnceCardSaid : Prop := Claim7.holds Tryd.pinned (.plain (OpenSpec.ofChange undoOnceSpec)) undoOnceCard

/-- THE SECOND FORM's CARD OF 'tetherlaw04.TreeChecks'. -/
def treeChecksUptoCard : Claim7 := { stood := { row := treeChecksUptoRow, standIns := [], harness := (true, "c784d6db7645200c9dc886835e7bb2c80cbc100f3457de13662e37e2d4dce54f"), looks := false }, kinds := [], alts := [], laidByText := true, laidKinds := [.data, .pinned], laidTests := true, laidLooks := .later }
def TreeChecksUptoCardSaid : Prop := Claim7.holds Tryd.pinned (.plain (OpenSpec.upto treeChecksSpec)) treeChecksUptoCard

/-- THE SECOND FORM's CARD OF 'tetherlaw04.TreePuts'. -/
def treePutsUptoCard : Claim7 := { stood := { row := treePutsUptoRow, standIns := [], harness := (true, "c784d6db7645200c9dc886835e7bb2c80cbc100f3457de13662e37e2d4dce54f"), looks := false }, kinds := [], alts := [], laidByText := true, laidKinds := [.data, .pinned], laidTests := true, laidLooks := .later }
def TreePutsUptoCardSaid : Prop := Claim7.holds Tryd.pinned (.plain (OpenSpec.upto treePutsSpec)) treePutsUptoCard

/-- THE SECOND FORM's CARD OF 'tetherlaw04.TreeGets'. -/
def treeGetsUptoCard : Claim7 := { stood := { row := treeGetsUptoRow, standIns := [], harness := (true, "c784d6db7645200c9dc886835e7bb2c80cbc100f3457de13662e37e2d4dce54f"), looks := false }, kinds := [], alts := [], laidByText := true, laidKinds := [.data, .pinned], laidTests := true, laidLooks := .later }
def TreeGetsUptoCardSaid : Prop := Claim7.holds Tryd.pinned (.plain (OpenSpec.upto treeGetsSpec)) treeGetsUptoCard

/-- THE SECOND FORM's CARD OF 'tetherlaw04.TreeDiffs'. -/
def treeDiffsUptoCard : Claim7 := { stood := { row := treeDiffsUptoRow, standIns := [], harness := (true, "c784d6db7645200c9dc886835e7bb2c80cbc100f3457de13662e37e2d4dce54f"), looks := false }, kinds := [], alts := [], laidByText := true, laidKinds := [.data, .pinned], laidTests := true, laidLooks := .later }
def TreeDiffsUptoCardSaid : Prop := Claim7.holds Tryd.pinned (.plain (OpenSpec.upto treeDiffsSpec)) treeDiffsUptoCard

/-- THE SECOND FORM's CARD OF 'tetherlaw15.ScanChanges'. -/
def scanChangesUptoCard : Claim7 := { stood := { row := scanChangesUptoRow, standIns := [], harness := (true, "c784d6db7645200c9dc886835e7bb2c80cbc100f3457de13662e37e2d4dce54f"), looks := false }, kinds := [], alts := [], laidByText := true, laidKinds := [.data, .pinned], laidTests := true, laidLooks := .later }
def ScanChangesUptoCardSaid : Prop := Claim7.holds Tryd.pinned (.plain (OpenSpec.upto scanChangesSpec)) scanChangesUptoCard

/-- THE SECOND FORM's CARD OF 'tetherlaw04.TreeReplaces'. -/
def treeReplacesUptoCard : Claim7 := { stood := { row := treeReplacesUptoRow, standIns := [], harness := (true, "c784d6db7645200c9dc886835e7bb2c80cbc100f3457de13662e37e2d4dce54f"), looks := false }, kinds := [], alts := [], laidByText := true, laidKinds := [.data, .pinned], laidTests := true, laidLooks := .later }
def TreeReplacesUptoCardSaid : Prop := Claim7.holds Tryd.pinned (.plain (OpenSpec.upto treeReplacesSpec)) treeReplacesUptoCard

/-- THE SECOND FORM's CARD OF 'tetherlaw22.UndoPlans'. -/
def undoPlansUptoCard : Claim7 := { stood := { row := undoPlansUptoRow, standIns := [], harness := (true, "c784d6db7645200c9dc886835e7bb2c80cbc100f3457de13662e37e2d4dce54f"), looks := false }, kinds := [], alts := [], laidByText := true, laidKinds := [.data, .pinned], laidTests := true, laidLooks := .later }
def UndoPlansUptoCardSaid : Prop := Claim7.holds Tryd.pinned (.plain (OpenSpec.upto undoPlansSpec)) undoPlansUptoCard

/-- THE SECOND FORM's CARD OF 'tetherlaw22.UndoBack'. -/
def undoBackUptoCard : Claim7 := { stood := { row := undoBackUptoRow, standIns := [], harness := (true, "c784d6db7645200c9dc886835e7bb2c80cbc100f3457de13662e37e2d4dce54f"), looks := false }, kinds := [], alts := [], laidByText := true, laidKinds := [.data, .pinned], laidTests := true, laidLooks := .later }
def UndoBackUptoCardSaid : Prop := Claim7.holds Tryd.pinned (.plain (OpenSpec.upto undoBackSpec)) undoBackUptoCard

/-- THE SECOND FORM's CARD OF 'tetherlaw22.UndoLeaves'. -/
def undoLeavesUptoCard : Claim7 := { stood := { row := undoLeavesUptoRow, standIns := [], harness := (true, "c784d6db7645200c9dc886835e7bb2c80cbc100f3457de13662e37e2d4dce54f"), looks := false }, kinds := [], alts := [], laidByText := true, laidKinds := [.data, .pinned], laidTests := true, laidLooks := .later }
def UndoLeavesUptoCardSaid : Prop := Claim7.holds Tryd.pinned (.plain (OpenSpec.upto undoLeavesSpec)) undoLeavesUptoCard

/-- THE SECOND FORM's CARD OF 'tetherlaw22.UndoOnce'. -/
def undoOnceUptoCard : Claim7 := { stood := { row := undoOnceUptoRow, standIns := [], harness := (true, "c784d6db7645200c9dc886835e7bb2c80cbc100f3457de13662e37e2d4dce54f"), looks := false }, kinds := [], alts := [], laidByText := true, laidKinds := [.data, .pinned], laidTests := true, laidLooks := .later }
def UndoOnceUptoCardSaid : Prop := Claim7.holds Tryd.pinned (.plain (OpenSpec.upto undoOnceSpec)) undoOnceUptoCard
end Rows
end Go.Proofs.YtkonlklieacjoaaDoor
