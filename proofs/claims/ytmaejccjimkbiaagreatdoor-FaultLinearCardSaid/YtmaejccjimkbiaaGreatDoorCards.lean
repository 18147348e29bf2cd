/-
  DERIVED. GIVEN WITH THE SEED: THE CARDS: each row of YtmaejccjimkbiaaGreatDoorRows.lean that lists a variable, with what it lists TIED to the program's text (the seventh form; the later family's looks); each row that meets fmt, with fmt's text TOLD by the authors' own Lean function (tested against real Go, not proved from fmt's source: count such statements apart). THE CARD IS WHAT COUNTS. Prove the row's statement (the work); the ties are given (YtmaejccjimkbiaaGreatDoorTie.lean); close each card by the builder's one call (the guide's Derived/Test/ToyasCard.lean, 'card_holds'). Laid BY PROGRAM, IN A SANDBOX (cutbox-door.mjs). By AI agents, Wed Nov 11 2026. No macro, syntax, notation, axiom, sorry.
-/
import Derived.Test.YtmaejccjimkbiaaGreatDoorRows
import GoSem.ClaimSeven
namespace Go.Proofs.YtmaejccjimkbiaaGreatDoor
namespace Rows

/-- THE TIED CARD OF 'tidewaylaw07.FaultMonotone'. -/
def faultMonotoneCard : Claim7 := { stood := { row := faultMonotoneRow, standIns := [], harness := (true, "d4b5928b0ee75f14d67f6a87314adafca09e00c2c9ce9ce192c1211a315ea12b"), looks := false }, kinds := [], alts := [], laidByText := true, laidKinds := [.data, .data, .data], laidTests := true, laidLooks := .later }
def FaultMonotoneCardSaid : Prop := Claim7.holds Tryz.pinned (.plain (OpenSpec.ofChange faultMonotoneSpec)) faultMonotoneCard

/-- THE TIED CARD OF 'tidewaylaw07.FaultDuals'. -/
def faultDualsCard : Claim7 := { stood := { row := faultDualsRow, standIns := [], harness := (true, "d4b5928b0ee75f14d67f6a87314adafca09e00c2c9ce9ce192c1211a315ea12b"), looks := false }, kinds := [], alts := [], laidByText := true, laidKinds := [.data, .data, .data], laidTests := true, laidLooks := .later }
def FaultDualsCardSaid : Prop := Claim7.holds Tryz.pinned (.plain (OpenSpec.ofChange faultDualsSpec)) faultDualsCard

/-- THE TIED CARD OF 'tidewaylaw07.FaultChanges'. -/
def faultChangesCard : Claim7 := { stood := { row := faultChangesRow, standIns := [], harness := (true, "d4b5928b0ee75f14d67f6a87314adafca09e00c2c9ce9ce192c1211a315ea12b"), looks := false }, kinds := [], alts := [], laidByText := true, laidKinds := [.data, .data, .data], laidTests := true, laidLooks := .later }
def FaultChangesCardSaid : Prop := Claim7.holds Tryz.pinned (.plain (OpenSpec.ofChange faultChangesSpec)) faultChangesCard

/-- THE TIED CARD OF 'tidewaylaw07.FaultLinear'. -/
def faultLinearCard : Claim7 := { stood := { row := faultLinearRow, standIns := [], harness := (true, "d4b5928b0ee75f14d67f6a87314adafca09e00c2c9ce9ce192c1211a315ea12b"), looks := false }, kinds := [], alts := [], laidByText := true, laidKinds := [.data, .data, .data], laidTests := true, laidLooks := .later }
def FaultLinearCardSaid : Prop := Claim7.holds Tryz.pinned (.plain (OpenSpec.ofChange faultLinearSpec)) faultLinearCard

/-- THE TIED CARD OF 'tidewaylaw07.FaultMerges'. -/
def faultMergesCard : Claim7 := { stood := { row := faultMergesRow, standIns := [], harness := (true, "d4b5928b0ee75f14d67f6a87314adafca09e00c2c9ce9ce192c1211a315ea12b"), looks := false }, kinds := [], alts := [], laidByText := true, laidKinds := [.data, .data, .data], laidTests := true, laidLooks := .later }
def FaultMergesCardSaid : Prop := Claim7.holds Tryz.pinned (.plain (OpenSpec.ofChange faultMergesSpec)) faultMergesCard

/-- THE TIED CARD OF 'tidewaylaw07.FaultMerged'. -/
def faultMergedCard : Claim7 := { stood := { row := faultMergedRow, standIns := [], harness := (true, "d4b5928b0ee75f14d67f6a87314adafca09e00c2c9ce9ce192c1211a315ea12b"), looks := false }, kinds := [], alts := [], laidByText := true, laidKinds := [.data, .data, .data], laidTests := true, laidLooks := .later }
def FaultMergedCardSaid : Prop := Claim7.holds Tryz.pinned (.plain (OpenSpec.ofChange faultMergedSpec)) faultMergedCard

/-- THE TIED CARD OF 'tidewaylaw07.FaultTexts'. -/
def faultTextsCard : Claim7 := { stood := { row := faultTextsRow, standIns := [], harness := (true, "d4b5928b0ee75f14d67f6a87314adafca09e00c2c9ce9ce192c1211a315ea12b"), looks := false }, kinds := [], alts := [], laidByText := true, laidKinds := [.data, .data, .data, .data, .pinned], laidTests := true, laidLooks := .later }
def FaultTextsCardSaid : Prop := Claim7.holds Tryz.pinned (.plain (OpenSpec.ofChange faultTextsSpec)) faultTextsCard

/-- THE TIED CARD OF 'tidewaylaw07.FaultBack'. -/
def faultBackCard : Claim7 := { stood := { row := faultBackRow, standIns := [], harness := (true, "d4b5928b0ee75f14d67f6a87314adafca09e00c2c9ce9ce192c1211a315ea12b"), looks := false }, kinds := [], alts := [], laidByText := true, laidKinds := [.data, .data, .data, .data, .pinned], laidTests := true, laidLooks := .later }
def FaultBackCardSaid : Prop := Claim7.holds Tryz.pinned (.plain (OpenSpec.ofChange faultBackSpec)) faultBackCard

/-- THE SECOND FORM's CARD OF 'tidewaylaw07.FaultMonotone'. -/
def faultMonotoneUptoCard : Claim7 := { stood := { row := faultMonotoneUptoRow, standIns := [], harness := (true, "d4b5928b0ee75f14d67f6a87314adafca09e00c2c9ce9ce192c1211a315ea12b"), looks := false }, kinds := [], alts := [], laidByText := true, laidKinds := [.data, .data, .data], laidTests := true, laidLooks := .later }
def FaultMonotoneUptoCardSaid : Prop := Claim7.holds Tryz.pinned (.plain (OpenSpec.upto faultMonotoneSpec)) faultMonotoneUptoCard

/-- THE SECOND FORM's CARD OF 'tidewaylaw07.FaultDuals'. -/
def faultDualsUptoCard : Claim7 := { stood := { row := faultDualsUptoRow, standIns := [], harness := (true, "d4b5928b0ee75f14d67f6a87314adafca09e00c2c9ce9ce192c1211a315ea12b"), looks := false }, kinds := [], alts := [], laidByText := true, laidKinds := [.data, .data, .data], laidTests := true, laidLooks := .later }
def FaultDualsUptoCardSaid : Prop := Claim7.holds Tryz.pinned (.plain (OpenSpec.upto faultDualsSpec)) faultDualsUptoCard

/-- THE SECOND FORM's CARD OF 'tidewaylaw07.FaultChanges'. -/
def faultChangesUptoCard : Claim7 := { stood := { row := faultChangesUptoRow, standIns := [], harness := (true, "d4b5928b0ee75f14d67f6a87314adafca09e00c2c9ce9ce192c1211a315ea12b"), looks := false }, kinds := [], alts := [], laidByText := true, laidKinds := [.data, .data, .data], laidTests := true, laidLooks := .later }
def FaultChangesUptoCardSaid : Prop := Claim7.holds Tryz.pinned (.plain (OpenSpec.upto faultChangesSpec)) faultChangesUptoCard

/-- THE SECOND FORM's CARD OF 'tidewaylaw07.FaultLinear'. -/
def faultLinearUptoCard : Claim7 := { stood := { row := faultLinearUptoRow, standIns := [], harness := (true, "d4b5928b0ee75f14d67f6a87314adafca09e00c2c9ce9ce192c1211a315ea12b"), looks := false }, kinds := [], alts := [], laidByText := true, laidKinds := [.data, .data, .data], laidTests := true, laidLooks := .later }
def FaultLinearUptoCardSaid : Prop := Claim7.holds Tryz.pinned (.plain (OpenSpec.upto faultLinearSpec)) faultLinearUptoCard

/-- THE SECOND FORM's CARD OF 'tidewaylaw07.FaultMerges'. -/
def faultMergesUptoCard : Claim7 := { stood := { row := faultMergesUptoRow, standIns := [], harness := (true, "d4b5928b0ee75f14d67f6a87314adafca09e00c2c9ce9ce192c1211a315ea12b"), looks := false }, kinds := [], alts := [], laidByText := true, laidKinds := [.data, .data, .data], laidTests := true, laidLooks := .later }
def FaultMergesUptoCardSaid : Prop := Claim7.holds Tryz.pinned (.plain (OpenSpec.upto faultMergesSpec)) faultMergesUptoCard

/-- THE SECOND FORM's CARD OF 'tidewaylaw07.FaultMerged'. -/
def faultMergedUptoCard : Claim7 := { stood := { row := faultMergedUptoRow, standIns := [], harness := (true, "d4b5928b0ee75f14d67f6a87314adafca09e00c2c9ce9ce192c1211a315ea12b"), looks := false }, kinds := [], alts := [], laidByText := true, laidKinds := [.data, .data, .data], laidTests := true, laidLooks := .later }
def FaultMergedUptoCardSaid : Prop := Claim7.holds Tryz.pinned (.plain (OpenSpec.upto faultMergedSpec)) faultMergedUptoCard

/-- THE SECOND FORM's CARD OF 'tidewaylaw07.FaultTexts'. -/
def faultTextsUptoCard : Claim7 := { stood := { row := faultTextsUptoRow, standIns := [], harness := (true, "d4b5928b0ee75f14d67f6a87314adafca09e00c2c9ce9ce192c1211a315ea12b"), looks := false }, kinds := [], alts := [], laidByText := true, laidKinds := [.data, .data, .data, .data, .pinned], laidTests := true, laidLooks := .later }
def FaultTextsUptoCardSaid : Prop := Claim7.holds Tryz.pinned (.plain (OpenSpec.upto faultTextsSpec)) faultTextsUptoCard

/-- THE SECOND FORM's CARD OF 'tidewaylaw07.FaultBack'. -/
def faultBackUptoCard : Claim7 := { stood := { row := faultBackUptoRow, standIns := [], harness := (true, "d4b5928b0ee75f14d67f6a87314adafca09e00c2c9ce9ce192c1211a315ea12b"), looks := false }, kinds := [], alts := [], laidByText := true, laidKinds := [.data, .data, .data, .data, .pinned], laidTests := true, laidLooks := .later }
def FaultBackUptoCardSaid : Prop := Claim7.holds Tryz.pinned (.plain (OpenSpec.upto faultBackSpec)) faultBackUptoCard
end Rows
end Go.Proofs.YtmaejccjimkbiaaGreatDoor
