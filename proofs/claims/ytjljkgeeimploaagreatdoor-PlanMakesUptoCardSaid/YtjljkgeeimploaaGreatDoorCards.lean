/-
  DERIVED. GIVEN WITH THE SEED: THE CARDS: each row of YtjljkgeeimploaaGreatDoorRows.lean that lists a variable, with what it lists TIED to the program's text (the seventh form; the later family's looks); each row that meets fmt, with fmt's text TOLD by the authors' own Lean function (tested against real Go, not proved from fmt's source: count such statements apart). THE CARD IS WHAT COUNTS. Prove the row's statement (the work); the ties are given (YtjljkgeeimploaaGreatDoorTie.lean); close each card by the builder's one call (the guide's Derived/Test/ToyasCard.lean, 'card_holds'). Laid BY PROGRAM, IN A SANDBOX (cutbox-door.mjs). By AI agents, Wed Nov 11 2026. No macro, syntax, notation, axiom, sorry.
-/
import Derived.Test.YtjljkgeeimploaaGreatDoorRows
import GoSem.ClaimSeven
namespace Go.Proofs.YtjljkgeeimploaaGreatDoor
namespace Rows

/-- THE TIED CARD OF 'tetherlaw18.PlanMakes'. -/
def planMakesCard : Claim7 := { stood := { row := planMakesRow, standIns := [], harness := (true, "27732fb9f30f230d49dab41737ecbfa87d96d41c0f81617e28c6ac0011df0d92"), looks := false }, kinds := [], alts := [], laidByText := true, laidKinds := [.data, .pinned], laidTests := true, laidLooks := .later }
def PlanMakesCardSaid : Prop := Claim7.holds Tryz.pinned (.plain (OpenSpec.ofChange planMakesSpec)) planMakesCard

/-- THE SECOND FORM's CARD OF 'tetherlaw18.PlanMakes'. -/
def planMakesUptoCard : Claim7 := { stood := { row := planMakesUptoRow, standIns := [], harness := (true, "27732fb9f30f230d49dab41737ecbfa87d96d41c0f81617e28c6ac0011df0d92"), looks := false }, kinds := [], alts := [], laidByText := true, laidKinds := [.data, .pinned], laidTests := true, laidLooks := .later }
def PlanMakesUptoCardSaid : Prop := Claim7.holds Tryz.pinned (.plain (OpenSpec.upto planMakesSpec)) planMakesUptoCard
end Rows
end Go.Proofs.YtjljkgeeimploaaGreatDoor
