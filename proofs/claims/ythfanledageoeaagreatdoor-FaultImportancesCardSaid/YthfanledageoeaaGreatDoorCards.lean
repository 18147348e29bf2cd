/-
  DERIVED. GIVEN WITH THE SEED: THE CARDS: each row of YthfanledageoeaaGreatDoorRows.lean that lists a variable, with what it lists TIED to the program's text (the seventh form; the later family's looks); each row that meets fmt, with fmt's text TOLD by the authors' own Lean function (tested against real Go, not proved from fmt's source: count such statements apart). THE CARD IS WHAT COUNTS. Prove the row's statement (the work); the ties are given (YthfanledageoeaaGreatDoorTie.lean); close each card by the builder's one call (the guide's Derived/Test/ToyasCard.lean, 'card_holds'). Laid BY PROGRAM, IN A SANDBOX (cutbox-door.mjs). By AI agents, Wed Nov 11 2026. No macro, syntax, notation, axiom, sorry.
-/
import Derived.Test.YthfanledageoeaaGreatDoorRows
import GoSem.ClaimSeven
namespace Go.Proofs.YthfanledageoeaaGreatDoor
namespace Rows

/-- THE TIED CARD OF 'tidewaylaw07.FaultSets'. -/
def faultSetsCard : Claim7 := { stood := { row := faultSetsRow, standIns := [], harness := (true, "e7f8f8d9b74919644b0bb55bbd5e2ac611d6e91e58b97c08302ecef50638e6a2"), looks := false }, kinds := [], alts := [], laidByText := true, laidKinds := [.data, .data, .data], laidTests := true, laidLooks := .later }
def FaultSetsCardSaid : Prop := Claim7.holds Tryz.pinned (.plain (OpenSpec.ofChange faultSetsSpec)) faultSetsCard

/-- THE TIED CARD OF 'tidewaylaw07.FaultProofs'. -/
def faultProofsCard : Claim7 := { stood := { row := faultProofsRow, standIns := [], harness := (true, "e7f8f8d9b74919644b0bb55bbd5e2ac611d6e91e58b97c08302ecef50638e6a2"), looks := false }, kinds := [], alts := [], laidByText := true, laidKinds := [.data, .data, .data], laidTests := true, laidLooks := .later }
def FaultProofsCardSaid : Prop := Claim7.holds Tryz.pinned (.plain (OpenSpec.ofChange faultProofsSpec)) faultProofsCard

/-- THE TIED CARD OF 'tidewaylaw07.FaultChances'. -/
def faultChancesCard : Claim7 := { stood := { row := faultChancesRow, standIns := [], harness := (true, "e7f8f8d9b74919644b0bb55bbd5e2ac611d6e91e58b97c08302ecef50638e6a2"), looks := false }, kinds := [], alts := [], laidByText := true, laidKinds := [.data, .data, .data], laidTests := true, laidLooks := .later }
def FaultChancesCardSaid : Prop := Claim7.holds Tryz.pinned (.plain (OpenSpec.ofChange faultChancesSpec)) faultChancesCard

/-- THE TIED CARD OF 'tidewaylaw07.FaultImportances'. -/
def faultImportancesCard : Claim7 := { stood := { row := faultImportancesRow, standIns := [], harness := (true, "e7f8f8d9b74919644b0bb55bbd5e2ac611d6e91e58b97c08302ecef50638e6a2"), looks := false }, kinds := [], alts := [], laidByText := true, laidKinds := [.data, .data, .data], laidTests := true, laidLooks := .later }
def FaultImportancesCardSaid : Prop := Claim7.holds Tryz.pinned (.plain (OpenSpec.ofChange faultImportancesSpec)) faultImportancesCard

/-- THE TIED CARD OF 'tidewaylaw07.FaultBounds'. -/
def faultBoundsCard : Claim7 := { stood := { row := faultBoundsRow, standIns := [], harness := (true, "e7f8f8d9b74919644b0bb55bbd5e2ac611d6e91e58b97c08302ecef50638e6a2"), looks := false }, kinds := [], alts := [], laidByText := true, laidKinds := [.data, .data, .data], laidTests := true, laidLooks := .later }
def FaultBoundsCardSaid : Prop := Claim7.holds Tryz.pinned (.plain (OpenSpec.ofChange faultBoundsSpec)) faultBoundsCard

/-- THE TIED CARD OF 'tidewaylaw07.FaultTrees'. -/
def faultTreesCard : Claim7 := { stood := { row := faultTreesRow, standIns := [], harness := (true, "e7f8f8d9b74919644b0bb55bbd5e2ac611d6e91e58b97c08302ecef50638e6a2"), looks := false }, kinds := [], alts := [], laidByText := true, laidKinds := [.data, .data, .data], laidTests := true, laidLooks := .later }
def FaultTreesCardSaid : Prop := Claim7.holds Tryz.pinned (.plain (OpenSpec.ofChange faultTreesSpec)) faultTreesCard

/-- THE SECOND FORM's CARD OF 'tidewaylaw07.FaultSets'. -/
def faultSetsUptoCard : Claim7 := { stood := { row := faultSetsUptoRow, standIns := [], harness := (true, "e7f8f8d9b74919644b0bb55bbd5e2ac611d6e91e58b97c08302ecef50638e6a2"), looks := false }, kinds := [], alts := [], laidByText := true, laidKinds := [.data, .data, .data], laidTests := true, laidLooks := .later }
def FaultSetsUptoCardSaid : Prop := Claim7.holds Tryz.pinned (.plain (OpenSpec.upto faultSetsSpec)) faultSetsUptoCard

/-- THE SECOND FORM's CARD OF 'tidewaylaw07.FaultProofs'. -/
def faultProofsUptoCard : Claim7 := { stood := { row := faultProofsUptoRow, standIns := [], harness := (true, "e7f8f8d9b74919644b0bb55bbd5e2ac611d6e91e58b97c08302ecef50638e6a2"), looks := false }, kinds := [], alts := [], laidByText := true, laidKinds := [.data, .data, .data], laidTests := true, laidLooks := .later }
def FaultProofsUptoCardSaid : Prop := Claim7.holds Tryz.pinned (.plain (OpenSpec.upto faultProofsSpec)) faultProofsUptoCard

/-- THE SECOND FORM's CARD OF 'tidewaylaw07.FaultChances'. -/
def faultChancesUptoCard : Claim7 := { stood := { row := faultChancesUptoRow, standIns := [], harness := (true, "e7f8f8d9b74919644b0bb55bbd5e2ac611d6e91e58b97c08302ecef50638e6a2"), looks := false }, kinds := [], alts := [], laidByText := true, laidKinds := [.data, .data, .data], laidTests := true, laidLooks := .later }
def FaultChancesUptoCardSaid : Prop := Claim7.holds Tryz.pinned (.plain (OpenSpec.upto faultChancesSpec)) faultChancesUptoCard

/-- THE SECOND FORM's CARD OF 'tidewaylaw07.FaultImportances'. -/
def faultImportancesUptoCard : Claim7 := { stood := { row := faultImportancesUptoRow, standIns := [], harness := (true, "e7f8f8d9b74919644b0bb55bbd5e2ac611d6e91e58b97c08302ecef50638e6a2"), looks := false }, kinds := [], alts := [], laidByText := true, laidKinds := [.data, .data, .data], laidTests := true, laidLooks := .later }
def FaultImportancesUptoCardSaid : Prop := Claim7.holds Tryz.pinned (.plain (OpenSpec.upto faultImportancesSpec)) faultImportancesUptoCard

/-- THE SECOND FORM's CARD OF 'tidewaylaw07.FaultBounds'. -/
def faultBoundsUptoCard : Claim7 := { stood := { row := faultBoundsUptoRow, standIns := [], harness := (true, "e7f8f8d9b74919644b0bb55bbd5e2ac611d6e91e58b97c08302ecef50638e6a2"), looks := false }, kinds := [], alts := [], laidByText := true, laidKinds := [.data, .data, .data], laidTests := true, laidLooks := .later }
def FaultBoundsUptoCardSaid : Prop := Claim7.holds Tryz.pinned (.plain (OpenSpec.upto faultBoundsSpec)) faultBoundsUptoCard

/-- THE SECOND FORM's CARD OF 'tidewaylaw07.FaultTrees'. -/
def faultTreesUptoCard : Claim7 := { stood := { row := faultTreesUptoRow, standIns := [], harness := (true, "e7f8f8d9b74919644b0bb55bbd5e2ac611d6e91e58b97c08302ecef50638e6a2"), looks := false }, kinds := [], alts := [], laidByText := true, laidKinds := [.data, .data, .data], laidTests := true, laidLooks := .later }
def FaultTreesUptoCardSaid : Prop := Claim7.holds Tryz.pinned (.plain (OpenSpec.upto faultTreesSpec)) faultTreesUptoCard
end Rows
end Go.Proofs.YthfanledageoeaaGreatDoor
