/-
  DERIVED. GIVEN WITH THE SEED: THE CARDS: each row of YtojolcpblacjjaaGreatDoorRows.lean that lists a variable, with what it lists TIED to the program's text (the seventh form; the later family's looks); each row that meets fmt, with fmt's text TOLD by the authors' own Lean function (tested against real Go, not proved from fmt's source: count such statements apart). THE CARD IS WHAT COUNTS. Prove the row's statement (the work); the ties are given (YtojolcpblacjjaaGreatDoorTie.lean); close each card by the builder's one call (the guide's Derived/Test/ToyasCard.lean, 'card_holds'). Laid BY PROGRAM, IN A SANDBOX (cutbox-door.mjs). By AI agents, Wed Nov 11 2026. No macro, syntax, notation, axiom, sorry.
-/
import Derived.Test.YtojolcpblacjjaaGreatDoorRows
import GoSem.ClaimSeven
namespace Go.Proofs.YtojolcpblacjjaaGreatDoor
namespace Rows

/-- THE TIED CARD OF 'tetherlaw05.DiskPlays'. -/
def diskPlaysCard : Claim7 := { stood := { row := diskPlaysRow, standIns := [], harness := (true, "4ff7e10e65e96daedd54458dab8a66baba847647b77c2cc25a0980557826f7a5"), looks := false }, kinds := [], alts := [], laidByText := true, laidKinds := [.data, .pinned], laidTests := true, laidLooks := .later }
def DiskPlaysCardSaid : Prop := Claim7.holds Tryz.pinned (.plain (OpenSpec.ofChange diskPlaysSpec)) diskPlaysCard

/-- THE TIED CARD OF 'tetherlaw05.DiskApart'. -/
def diskApartCard : Claim7 := { stood := { row := diskApartRow, standIns := [], harness := (true, "4ff7e10e65e96daedd54458dab8a66baba847647b77c2cc25a0980557826f7a5"), looks := false }, kinds := [], alts := [], laidByText := true, laidKinds := [.data, .pinned], laidTests := true, laidLooks := .later }
def DiskApartCardSaid : Prop := Claim7.holds Tryz.pinned (.plain (OpenSpec.ofChange diskApartSpec)) diskApartCard

/-- THE SECOND FORM's CARD OF 'tetherlaw05.DiskPlays'. -/
def diskPlaysUptoCard : Claim7 := { stood := { row := diskPlaysUptoRow, standIns := [], harness := (true, "4ff7e10e65e96daedd54458dab8a66baba847647b77c2cc25a0980557826f7a5"), looks := false }, kinds := [], alts := [], laidByText := true, laidKinds := [.data, .pinned], laidTests := true, laidLooks := .later }
def DiskPlaysUptoCardSaid : Prop := Claim7.holds Tryz.pinned (.plain (OpenSpec.upto diskPlaysSpec)) diskPlaysUptoCard

/-- THE SECOND FORM's CARD OF 'tetherlaw05.DiskApart'. -/
def diskApartUptoCard : Claim7 := { stood := { row := diskApartUptoRow, standIns := [], harness := (true, "4ff7e10e65e96daedd54458dab8a66baba847647b77c2cc25a0980557826f7a5"), looks := false }, kinds := [], alts := [], laidByText := true, laidKinds := [.data, .pinned], laidTests := true, laidLooks := .later }
def DiskApartUptoCardSaid : Prop := Claim7.holds Tryz.pinned (.plain (OpenSpec.upto diskApartSpec)) diskApartUptoCard
end Rows
end Go.Proofs.YtojolcpblacjjaaGreatDoor
