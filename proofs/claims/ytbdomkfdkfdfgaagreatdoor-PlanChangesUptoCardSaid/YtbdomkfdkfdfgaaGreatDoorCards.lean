/-
  DERIVED. GIVEN WITH THE SEED: THE CARDS: each row of YtbdomkfdkfdfgaaGreatDoorRows.lean that lists a variable, with what it lists TIED to the program's text (the seventh form; the later family's looks); each row that meets fmt, with fmt's text TOLD by the authors' own Lean function (tested against real Go, not proved from fmt's source: count such statements apart). THE CARD IS WHAT COUNTS. Prove the row's statement (the work); the ties are given (YtbdomkfdkfdfgaaGreatDoorTie.lean); close each card by the builder's one call (the guide's Derived/Test/ToyasCard.lean, 'card_holds'). Laid BY PROGRAM, IN A SANDBOX (cutbox-door.mjs). By AI agents, Wed Nov 11 2026. No macro, syntax, notation, axiom, sorry.
-/
import Derived.Test.YtbdomkfdkfdfgaaGreatDoorRows
import GoSem.ClaimSeven
namespace Go.Proofs.YtbdomkfdkfdfgaaGreatDoor
namespace Rows

/-- THE TIED CARD OF 'tetherlaw18.PlanMakes'. -/
def planMakesCard : Claim7 := { stood := { row := planMakesRow, standIns := [], harness := (true, "b7c061e6f586d941fa7bd7f0750d570682c7209d010a7bdbbf82f77c05a7b559"), looks := false }, kinds := [], alts := [], laidByText := true, laidKinds := [.data, .pinned], laidTests := true, laidLooks := .later }
def PlanMakesCardSaid : Prop := Claim7.holds Tryz.pinned (.plain (OpenSpec.ofChange planMakesSpec)) planMakesCard

/-- THE TIED CARD OF 'tetherlaw18.PlanChanges'. -/
def planChangesCard : Claim7 := { stood := { row := planChangesRow, standIns := [], harness := (true, "b7c061e6f586d941fa7bd7f0750d570682c7209d010a7bdbbf82f77c05a7b559"), looks := false }, kinds := [], alts := [], laidByText := true, laidKinds := [.data, .pinned], laidTests := true, laidLooks := .later }
def PlanChangesCardSaid : Prop := Claim7.holds Tryz.pinned (.plain (OpenSpec.ofChange planChangesSpec)) planChangesCard

/-- THE TIED CARD OF 'tetherlaw18.PlanDoes'. -/
def planDoesCard : Claim7 := { stood := { row := planDoesRow, standIns := [], harness := (true, "b7c061e6f586d941fa7bd7f0750d570682c7209d010a7bdbbf82f77c05a7b559"), looks := false }, kinds := [], alts := [], laidByText := true, laidKinds := [.data, .pinned], laidTests := true, laidLooks := .later }
def PlanDoesCardSaid : Prop := Claim7.holds Tryz.pinned (.plain (OpenSpec.ofChange planDoesSpec)) planDoesCard

/-- THE TIED CARD OF 'tetherlaw18.PlanPrefix'. -/
def planPrefixCard : Claim7 := { stood := { row := planPrefixRow, standIns := [], harness := (true, "b7c061e6f586d941fa7bd7f0750d570682c7209d010a7bdbbf82f77c05a7b559"), looks := false }, kinds := [], alts := [], laidByText := true, laidKinds := [.data, .pinned], laidTests := true, laidLooks := .later }
def PlanPrefixCardSaid : Prop := Claim7.holds Tryz.pinned (.plain (OpenSpec.ofChange planPrefixSpec)) planPrefixCard

/-- THE TIED CARD OF 'tetherlaw18.PlanSteps'. -/
def planStepsCard : Claim7 := { stood := { row := planStepsRow, standIns := [], harness := (true, "b7c061e6f586d941fa7bd7f0750d570682c7209d010a7bdbbf82f77c05a7b559"), looks := false }, kinds := [], alts := [], laidByText := true, laidKinds := [.data, .pinned], laidTests := true, laidLooks := .later }
def PlanStepsCardSaid : Prop := Claim7.holds Tryz.pinned (.plain (OpenSpec.ofChange planStepsSpec)) planStepsCard

/-- THE SECOND FORM's CARD OF 'tetherlaw18.PlanMakes'. -/
def planMakesUptoCard : Claim7 := { stood := { row := planMakesUptoRow, standIns := [], harness := (true, "b7c061e6f586d941fa7bd7f0750d570682c7209d010a7bdbbf82f77c05a7b559"), looks := false }, kinds := [], alts := [], laidByText := true, laidKinds := [.data, .pinned], laidTests := true, laidLooks := .later }
def PlanMakesUptoCardSaid : Prop := Claim7.holds Tryz.pinned (.plain (OpenSpec.upto planMakesSpec)) planMakesUptoCard

/-- THE SECOND FORM's CARD OF 'tetherlaw18.PlanChanges'. -/
def planChangesUptoCard : Claim7 := { stood := { row := planChangesUptoRow, standIns := [], harness := (true, "b7c061e6f586d941fa7bd7f0750d570682c7209d010a7bdbbf82f77c05a7b559"), looks := false }, kinds := [], alts := [], laidByText := true, laidKinds := [.data, .pinned], laidTests := true, laidLooks := .later }
def PlanChangesUptoCardSaid : Prop := Claim7.holds Tryz.pinned (.plain (OpenSpec.upto planChangesSpec)) planChangesUptoCard

/-- THE SECOND FORM's CARD OF 'tetherlaw18.PlanDoes'. -/
def planDoesUptoCard : Claim7 := { stood := { row := planDoesUptoRow, standIns := [], harness := (true, "b7c061e6f586d941fa7bd7f0750d570682c7209d010a7bdbbf82f77c05a7b559"), looks := false }, kinds := [], alts := [], laidByText := true, laidKinds := [.data, .pinned], laidTests := true, laidLooks := .later }
def PlanDoesUptoCardSaid : Prop := Claim7.holds Tryz.pinned (.plain (OpenSpec.upto planDoesSpec)) planDoesUptoCard

/-- THE SECOND FORM's CARD OF 'tetherlaw18.PlanPrefix'. -/
def planPrefixUptoCard : Claim7 := { stood := { row := planPrefixUptoRow, standIns := [], harness := (true, "b7c061e6f586d941fa7bd7f0750d570682c7209d010a7bdbbf82f77c05a7b559"), looks := false }, kinds := [], alts := [], laidByText := true, laidKinds := [.data, .pinned], laidTests := true, laidLooks := .later }
def PlanPrefixUptoCardSaid : Prop := Claim7.holds Tryz.pinned (.plain (OpenSpec.upto planPrefixSpec)) planPrefixUptoCard

/-- THE SECOND FORM's CARD OF 'tetherlaw18.PlanSteps'. -/
def planStepsUptoCard : Claim7 := { stood := { row := planStepsUptoRow, standIns := [], harness := (true, "b7c061e6f586d941fa7bd7f0750d570682c7209d010a7bdbbf82f77c05a7b559"), looks := false }, kinds := [], alts := [], laidByText := true, laidKinds := [.data, .pinned], laidTests := true, laidLooks := .later }
def PlanStepsUptoCardSaid : Prop := Claim7.holds Tryz.pinned (.plain (OpenSpec.upto planStepsSpec)) planStepsUptoCard
end Rows
end Go.Proofs.YtbdomkfdkfdfgaaGreatDoor
