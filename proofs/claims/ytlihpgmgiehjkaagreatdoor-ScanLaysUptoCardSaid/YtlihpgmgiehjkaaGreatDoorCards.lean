/-
  DERIVED. GIVEN WITH THE SEED: THE CARDS: each row of YtlihpgmgiehjkaaGreatDoorRows.lean that lists a variable, with what it lists TIED to the program's text (the seventh form; the later family's looks); each row that meets fmt, with fmt's text TOLD by the authors' own Lean function (tested against real Go, not proved from fmt's source: count such statements apart). THE CARD IS WHAT COUNTS. Prove the row's statement (the work); the ties are given (YtlihpgmgiehjkaaGreatDoorTie.lean); close each card by the builder's one call (the guide's Derived/Test/ToyasCard.lean, 'card_holds'). Laid BY PROGRAM, IN A SANDBOX (cutbox-door.mjs). By AI agents, Wed Nov 11 2026. No macro, syntax, notation, axiom, sorry.
-/
import Derived.Test.YtlihpgmgiehjkaaGreatDoorRows
import GoSem.ClaimSeven
namespace Go.Proofs.YtlihpgmgiehjkaaGreatDoor
namespace Rows

/-- THE TIED CARD OF 'tetherlaw15.ScanPlays'. -/
def scanPlaysCard : Claim7 := { stood := { row := scanPlaysRow, standIns := [], harness := (true, "c46b7d8637ad136a59ba7a4d5b49f879d13160f09b586890e491a4f322ae633b"), looks := false }, kinds := [], alts := [], laidByText := true, laidKinds := [.data, .pinned], laidTests := true, laidLooks := .later }
def ScanPlaysCardSaid : Prop := Claim7.holds Tryz.pinned (.plain (OpenSpec.ofChange scanPlaysSpec)) scanPlaysCard

/-- THE TIED CARD OF 'tetherlaw15.ScanLays'. -/
def scanLaysCard : Claim7 := { stood := { row := scanLaysRow, standIns := [], harness := (true, "c46b7d8637ad136a59ba7a4d5b49f879d13160f09b586890e491a4f322ae633b"), looks := false }, kinds := [], alts := [], laidByText := true, laidKinds := [.data, .pinned], laidTests := true, laidLooks := .later }
def ScanLaysCardSaid : Prop := Claim7.holds Tryz.pinned (.plain (OpenSpec.ofChange scanLaysSpec)) scanLaysCard

/-- THE SECOND FORM's CARD OF 'tetherlaw15.ScanPlays'. -/
def scanPlaysUptoCard : Claim7 := { stood := { row := scanPlaysUptoRow, standIns := [], harness := (true, "c46b7d8637ad136a59ba7a4d5b49f879d13160f09b586890e491a4f322ae633b"), looks := false }, kinds := [], alts := [], laidByText := true, laidKinds := [.data, .pinned], laidTests := true, laidLooks := .later }
def ScanPlaysUptoCardSaid : Prop := Claim7.holds Tryz.pinned (.plain (OpenSpec.upto scanPlaysSpec)) scanPlaysUptoCard

/-- THE SECOND FORM's CARD OF 'tetherlaw15.ScanLays'. -/
def scanLaysUptoCard : Claim7 := { stood := { row := scanLaysUptoRow, standIns := [], harness := (true, "c46b7d8637ad136a59ba7a4d5b49f879d13160f09b586890e491a4f322ae633b"), looks := false }, kinds := [], alts := [], laidByText := true, laidKinds := [.data, .pinned], laidTests := true, laidLooks := .later }
def ScanLaysUptoCardSaid : Prop := Claim7.holds Tryz.pinned (.plain (OpenSpec.upto scanLaysSpec)) scanLaysUptoCard
end Rows
end Go.Proofs.YtlihpgmgiehjkaaGreatDoor
