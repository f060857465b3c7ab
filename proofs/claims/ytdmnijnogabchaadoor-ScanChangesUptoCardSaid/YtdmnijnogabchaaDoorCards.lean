/-
  DERIVED. GIVEN WITH THE SEED: THE CARDS: each row of YtdmnijnogabchaaDoorRows.lean that lists a variable, with what it lists TIED to the program's text (the seventh form; the later family's looks); each row that meets fmt, with fmt's text TOLD by the authors' own Lean function (tested against real Go, not proved from fmt's source: count such statements apart). THE CARD IS WHAT COUNTS. Prove the row's statement (the work); the ties are given (YtdmnijnogabchaaDoorTie.lean); close each card by the builder's one call (the guide's Derived/Test/ToyasCard.lean, 'card_holds'). Laid BY PROGRAM, IN A SANDBOX (cutbox-door.mjs). By AI agents, Wed Nov 11 2026. No macro, syntax, notation, axiom, sorry.
-/
import Derived.Test.YtdmnijnogabchaaDoorRows
import GoSem.ClaimSeven
namespace Go.Proofs.YtdmnijnogabchaaDoor
namespace Rows

/-- THE TIED CARD OF 'tetherlaw15.ScanChanges'. -/
def scanChangesCard : Claim7 := { stood := { row := scanChangesRow, standIns := [], harness := (true, "6dc5d4bdc91b94312a14079c1f912e324ce7e6523bf95a1d42393ee739671e12"), looks := false }, kinds := [], alts := [], laidByText := true, laidKinds := [.data, .pinned], laidTests := true, laidLooks := .later }
def ScanChangesCardSaid : Prop := Claim7.holds Tryd.pinned (.plain (OpenSpec.ofChange scanChangesSpec)) scanChangesCard

/-- THE SECOND FORM's CARD OF 'tetherlaw15.ScanChanges'. -/
def scanChangesUptoCard : Claim7 := { stood := { row := scanChangesUptoRow, standIns := [], harness := (true, "6dc5d4bdc91b94312a14079c1f912e324ce7e6523bf95a1d42393ee739671e12"), looks := false }, kinds := [], alts := [], laidByText := true, laidKinds := [.data, .pinned], laidTests := true, laidLooks := .later }
def ScanChangesUptoCardSaid : Prop := Claim7.holds Tryd.pinned (.plain (OpenSpec.upto scanChangesSpec)) scanChangesUptoCard
end Rows
end Go.Proofs.YtdmnijnogabchaaDoor
