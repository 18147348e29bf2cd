/-
  DERIVED. GIVEN WITH THE SEED: THE CARDS: each row of YtgopmebjbkdfgaaGreatDoorRows.lean that lists a variable, with what it lists TIED to the program's text (the seventh form; the later family's looks); each row that meets fmt, with fmt's text TOLD by the authors' own Lean function (tested against real Go, not proved from fmt's source: count such statements apart). THE CARD IS WHAT COUNTS. Prove the row's statement (the work); the ties are given (YtgopmebjbkdfgaaGreatDoorTie.lean); close each card by the builder's one call (the guide's Derived/Test/ToyasCard.lean, 'card_holds'). Laid BY PROGRAM, IN A SANDBOX (cutbox-door.mjs). By AI agents, Wed Nov 11 2026. No macro, syntax, notation, axiom, sorry.
-/
import Derived.Test.YtgopmebjbkdfgaaGreatDoorRows
import GoSem.ClaimSeven
namespace Go.Proofs.YtgopmebjbkdfgaaGreatDoor
namespace Rows

/-- THE TIED CARD OF 'tidewaylaw07.FaultMerges'. -/
def faultMergesCard : Claim7 := { stood := { row := faultMergesRow, standIns := [], harness := (true, "b02331708c9359f52fbb41f74177e275fef37bdb55148ae51fbdeff00332fd97"), looks := false }, kinds := [], alts := [], laidByText := true, laidKinds := [.data, .data, .data], laidTests := true, laidLooks := .later }
def FaultMergesCardSaid : Prop := Claim7.holds Tryz.pinned (.plain (OpenSpec.ofChange faultMergesSpec)) faultMergesCard

/-- THE TIED CARD OF 'tidewaylaw07.FaultMerged'. -/
def faultMergedCard : Claim7 := { stood := { row := faultMergedRow, standIns := [], harness := (true, "b02331708c9359f52fbb41f74177e275fef37bdb55148ae51fbdeff00332fd97"), looks := false }, kinds := [], alts := [], laidByText := true, laidKinds := [.data, .data, .data], laidTests := true, laidLooks := .later }
def FaultMergedCardSaid : Prop := Claim7.holds Tryz.pinned (.plain (OpenSpec.ofChange faultMergedSpec)) faultMergedCard

/-- THE TIED CARD OF 'tidewaylaw07.FaultTexts'. -/
def faultTextsCard : Claim7 := { stood := { row := faultTextsRow, standIns := [], harness := (true, "b02331708c9359f52fbb41f74177e275fef37bdb55148ae51fbdeff00332fd97"), looks := false }, kinds := [], alts := [], laidByText := true, laidKinds := [.data, .data, .data, .data, .pinned], laidTests := true, laidLooks := .later }
def FaultTextsCardSaid : Prop := Claim7.holds Tryz.pinned (.plain (OpenSpec.ofChange faultTextsSpec)) faultTextsCard

/-- THE TIED CARD OF 'tidewaylaw07.FaultBack'. -/
def faultBackCard : Claim7 := { stood := { row := faultBackRow, standIns := [], harness := (true, "b02331708c9359f52fbb41f74177e275fef37bdb55148ae51fbdeff00332fd97"), looks := false }, kinds := [], alts := [], laidByText := true, laidKinds := [.data, .data, .data, .data, .pinned], laidTests := true, laidLooks := .later }
def FaultBackCardSaid : Prop := Claim7.holds Tryz.pinned (.plain (OpenSpec.ofChange faultBackSpec)) faultBackCard

/-- THE SECOND FORM's CARD OF 'tidewaylaw07.FaultMerges'. -/
def faultMergesUptoCard : Claim7 := { stood := { row := faultMergesUptoRow, standIns := [], harness := (true, "b02331708c9359f52fbb41f74177e275fef37bdb55148ae51fbdeff00332fd97"), looks := false }, kinds := [], alts := [], laidByText := true, laidKinds := [.data, .data, .data], laidTests := true, laidLooks := .later }
def FaultMergesUptoCardSaid : Prop := Claim7.holds Tryz.pinned (.plain (OpenSpec.upto faultMergesSpec)) faultMergesUptoCard

/-- THE SECOND FORM's CARD OF 'tidewaylaw07.FaultMerged'. -/
def faultMergedUptoCard : Claim7 := { stood := { row := faultMergedUptoRow, standIns := [], harness := (true, "b02331708c9359f52fbb41f74177e275fef37bdb55148ae51fbdeff00332fd97"), looks := false }, kinds := [], alts := [], laidByText := true, laidKinds := [.data, .data, .data], laidTests := true, laidLooks := .later }
def FaultMergedUptoCardSaid : Prop := Claim7.holds Tryz.pinned (.plain (OpenSpec.upto faultMergedSpec)) faultMergedUptoCard

/-- THE SECOND FORM's CARD OF 'tidewaylaw07.FaultTexts'. -/
def faultTextsUptoCard : Claim7 := { stood := { row := faultTextsUptoRow, standIns := [], harness := (true, "b02331708c9359f52fbb41f74177e275fef37bdb55148ae51fbdeff00332fd97"), looks := false }, kinds := [], alts := [], laidByText := true, laidKinds := [.data, .data, .data, .data, .pinned], laidTests := true, laidLooks := .later }
def FaultTextsUptoCardSaid : Prop := Claim7.holds Tryz.pinned (.plain (OpenSpec.upto faultTextsSpec)) faultTextsUptoCard

/-- THE SECOND FORM's CARD OF 'tidewaylaw07.FaultBack'. -/
def faultBackUptoCard : Claim7 := { stood := { row := faultBackUptoRow, standIns := [], harness := (true, "b02331708c9359f52fbb41f74177e275fef37bdb55148ae51fbdeff00332fd97"), looks := false }, kinds := [], alts := [], laidByText := true, laidKinds := [.data, .data, .data, .data, .pinned], laidTests := true, laidLooks := .later }
def FaultBackUptoCardSaid : Prop := Claim7.holds Tryz.pinned (.plain (OpenSpec.upto faultBackSpec)) faultBackUptoCard
end Rows
end Go.Proofs.YtgopmebjbkdfgaaGreatDoor
