/-
  DERIVED. GIVEN WITH THE SEED: THE CARDS: each row of YtojolcpblacjjaaDoorRows.lean that lists a variable, with what it lists TIED to the program's text (the seventh form; the later family's looks); each row that meets fmt, with fmt's text TOLD by the authors' own Lean function (tested against real Go, not proved from fmt's source: count such statements apart). THE CARD IS WHAT COUNTS. Prove the row's statement (the work); the ties are given (YtojolcpblacjjaaDoorTie.lean); close each card by the builder's one call (the guide's Derived/Test/ToyasCard.lean, 'card_holds'). Laid BY PROGRAM, IN A SANDBOX (cutbox-door.mjs). By AI agents, Wed Nov 11 2026. No macro, syntax, notation, axiom, sorry.
-/
import Derived.Test.YtojolcpblacjjaaDoorRows
import GoSem.ClaimSeven
namespace Go.Proofs.YtojolcpblacjjaaDoor
namespace Rows

/-- THE TIED CARD OF 'tetherlaw05.DiskFills'. -/
def diskFillsCard : Claim7 := { stood := { row := diskFillsRow, standIns := [], harness := (true, "453f9d21fa935e89c190b23e6868819e752d21b6d060c4a8c99a44f956b1e7b8"), looks := false }, kinds := [], alts := [], laidByText := true, laidKinds := [.data, .pinned], laidTests := true, laidLooks := .later }
def DiskFillsCardSaid : Prop := Claim7.holds Tryd.pinned (.plain (OpenSpec.ofChange diskFillsSpec)) diskFillsCard

/-- THE TIED CARD OF 'tetherlaw05.DiskMoves'. -/
def diskMovesCard : Claim7 := { stood := { row := diskMovesRow, standIns := [], harness := (true, "453f9d21fa935e89c190b23e6868819e752d21b6d060c4a8c99a44f956b1e7b8"), looks := false }, kinds := [], alts := [], laidByText := true, laidKinds := [.data, .pinned], laidTests := true, laidLooks := .later }
def DiskMovesCardSaid : Prop := Claim7.holds Tryd.pinned (.plain (OpenSpec.ofChange diskMovesSpec)) diskMovesCard

/-- THE TIED CARD OF 'tetherlaw05.DiskKeeps'. -/
def diskKeepsCard : Claim7 := { stood := { row := diskKeepsRow, standIns := [], harness := (true, "453f9d21fa935e89c190b23e6868819e752d21b6d060c4a8c99a44f956b1e7b8"), looks := false }, kinds := [], alts := [], laidByText := true, laidKinds := [.data, .pinned], laidTests := true, laidLooks := .later }
def DiskKeepsCardSaid : Prop := Claim7.holds Tryd.pinned (.plain (OpenSpec.ofChange diskKeepsSpec)) diskKeepsCard

/-- THE TIED CARD OF 'tetherlaw05.DiskStops'. -/
def diskStopsCard : Claim7 := { stood := { row := diskStopsRow, standIns := [], harness := (true, "453f9d21fa935e89c190b23e6868819e752d21b6d060c4a8c99a44f956b1e7b8"), looks := false }, kinds := [], alts := [], laidByText := true, laidKinds := [.data, .pinned], laidTests := true, laidLooks := .later }
def DiskStopsCardSaid : Prop := Claim7.holds Tryd.pinned (.plain (OpenSpec.ofChange diskStopsSpec)) diskStopsCard

/-- THE TIED CARD OF 'tetherlaw05.DiskNil'. -/
def diskNilCard : Claim7 := { stood := { row := diskNilRow, standIns := [], harness := (true, "453f9d21fa935e89c190b23e6868819e752d21b6d060c4a8c99a44f956b1e7b8"), looks := false }, kinds := [], alts := [], laidByText := true, laidKinds := [.data, .pinned], laidTests := true, laidLooks := .later }
def DiskNilCardSaid : Prop := Claim7.holds Tryd.pinned (.plain (OpenSpec.ofChange diskNilSpec)) diskNilCard

/-- THE SECOND FORM's CARD OF 'tetherlaw05.DiskFills'. -/
def diskFillsUptoCard : Claim7 := { stood := { row := diskFillsUptoRow, standIns := [], harness := (true, "453f9d21fa935e89c190b23e6868819e752d21b6d060c4a8c99a44f956b1e7b8"), looks := false }, kinds := [], alts := [], laidByText := true, laidKinds := [.data, .pinned], laidTests := true, laidLooks := .later }
def DiskFillsUptoCardSaid : Prop := Claim7.holds Tryd.pinned (.plain (OpenSpec.upto diskFillsSpec)) diskFillsUptoCard

/-- THE SECOND FORM's CARD OF 'tetherlaw05.DiskMoves'. -/
def diskMovesUptoCard : Claim7 := { stood := { row := diskMovesUptoRow, standIns := [], harness := (true, "453f9d21fa935e89c190b23e6868819e752d21b6d060c4a8c99a44f956b1e7b8"), looks := false }, kinds := [], alts := [], laidByText := true, laidKinds := [.data, .pinned], laidTests := true, laidLooks := .later }
def DiskMovesUptoCardSaid : Prop := Claim7.holds Tryd.pinned (.plain (OpenSpec.upto diskMovesSpec)) diskMovesUptoCard

/-- THE SECOND FORM's CARD OF 'tetherlaw05.DiskKeeps'. -/
def diskKeepsUptoCard : Claim7 := { stood := { row := diskKeepsUptoRow, standIns := [], harness := (true, "453f9d21fa935e89c190b23e6868819e752d21b6d060c4a8c99a44f956b1e7b8"), looks := false }, kinds := [], alts := [], laidByText := true, laidKinds := [.data, .pinned], laidTests := true, laidLooks := .later }
def DiskKeepsUptoCardSaid : Prop := Claim7.holds Tryd.pinned (.plain (OpenSpec.upto diskKeepsSpec)) diskKeepsUptoCard

/-- THE SECOND FORM's CARD OF 'tetherlaw05.DiskStops'. -/
def diskStopsUptoCard : Claim7 := { stood := { row := diskStopsUptoRow, standIns := [], harness := (true, "453f9d21fa935e89c190b23e6868819e752d21b6d060c4a8c99a44f956b1e7b8"), looks := false }, kinds := [], alts := [], laidByText := true, laidKinds := [.data, .pinned], laidTests := true, laidLooks := .later }
def DiskStopsUptoCardSaid : Prop := Claim7.holds Tryd.pinned (.plain (OpenSpec.upto diskStopsSpec)) diskStopsUptoCard

/-- THE SECOND FORM's CARD OF 'tetherlaw05.DiskNil'. -/
def diskNilUptoCard : Claim7 := { stood := { row := diskNilUptoRow, standIns := [], harness := (true, "453f9d21fa935e89c190b23e6868819e752d21b6d060c4a8c99a44f956b1e7b8"), looks := false }, kinds := [], alts := [], laidByText := true, laidKinds := [.data, .pinned], laidTests := true, laidLooks := .later }
def DiskNilUptoCardSaid : Prop := Claim7.holds Tryd.pinned (.plain (OpenSpec.upto diskNilSpec)) diskNilUptoCard
end Rows
end Go.Proofs.YtojolcpblacjjaaDoor
