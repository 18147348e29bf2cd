/-
  DERIVED. GIVEN WITH THE SEED: THE CARDS: each row of YthnobngcipaljaaGreatDoorRows.lean that lists a variable, with what it lists TIED to the program's text (the seventh form; the later family's looks); each row that meets fmt, with fmt's text TOLD by the authors' own Lean function (tested against real Go, not proved from fmt's source: count such statements apart). THE CARD IS WHAT COUNTS. Prove the row's statement (the work); the ties are given (YthnobngcipaljaaGreatDoorTie.lean); close each card by the builder's one call (the guide's Derived/Test/ToyasCard.lean, 'card_holds'). Laid BY PROGRAM, IN A SANDBOX (cutbox-door.mjs). By AI agents, Wed Nov 11 2026. No macro, syntax, notation, axiom, sorry.
-/
import Derived.Test.YthnobngcipaljaaGreatDoorRows
import GoSem.ClaimSeven
namespace Go.Proofs.YthnobngcipaljaaGreatDoor
namespace Rows

/-- THE TIED CARD OF 'tidewaylaw05.PolicySearches'. -/
def policySearchesCard : Claim7 := { stood := { row := policySearchesRow, standIns := [], harness := (true, "0b660d95248b3c145bbd72e99af89e00484ec903c2e40656b5f441191b969afc"), looks := false }, kinds := [], alts := [], laidByText := true, laidKinds := [.data, .data, .data, .widerDeep], laidTests := true, laidLooks := .later }
def PolicySearchesCardSaid : Prop := Claim7.holds Tryz.pinned (.plain (OpenSpec.ofChange policySearchesSpec)) policySearchesCard

/-- THE TIED CARD OF 'tidewaylaw05.PolicyBest'. -/
def policyBestCard : Claim7 := { stood := { row := policyBestRow, standIns := [], harness := (true, "0b660d95248b3c145bbd72e99af89e00484ec903c2e40656b5f441191b969afc"), looks := false }, kinds := [], alts := [], laidByText := true, laidKinds := [.data, .data, .data, .widerDeep], laidTests := true, laidLooks := .later }
def PolicyBestCardSaid : Prop := Claim7.holds Tryz.pinned (.plain (OpenSpec.ofChange policyBestSpec)) policyBestCard

/-- THE TIED CARD OF 'tidewaylaw05.PolicyFiner'. -/
def policyFinerCard : Claim7 := { stood := { row := policyFinerRow, standIns := [], harness := (true, "0b660d95248b3c145bbd72e99af89e00484ec903c2e40656b5f441191b969afc"), looks := false }, kinds := [], alts := [], laidByText := true, laidKinds := [.data, .data, .data, .widerDeep], laidTests := true, laidLooks := .later }
def PolicyFinerCardSaid : Prop := Claim7.holds Tryz.pinned (.plain (OpenSpec.ofChange policyFinerSpec)) policyFinerCard

/-- THE TIED CARD OF 'tidewaylaw05.PolicySeasons'. -/
def policySeasonsCard : Claim7 := { stood := { row := policySeasonsRow, standIns := [], harness := (true, "0b660d95248b3c145bbd72e99af89e00484ec903c2e40656b5f441191b969afc"), looks := false }, kinds := [], alts := [], laidByText := true, laidKinds := [.data, .data, .data, .widerDeep], laidTests := true, laidLooks := .later }
def PolicySeasonsCardSaid : Prop := Claim7.holds Tryz.pinned (.plain (OpenSpec.ofChange policySeasonsSpec)) policySeasonsCard

/-- THE TIED CARD OF 'tidewaylaw05.PolicyFollows'. -/
def policyFollowsCard : Claim7 := { stood := { row := policyFollowsRow, standIns := [], harness := (true, "0b660d95248b3c145bbd72e99af89e00484ec903c2e40656b5f441191b969afc"), looks := false }, kinds := [], alts := [], laidByText := true, laidKinds := [.data, .data, .data, .widerDeep], laidTests := true, laidLooks := .later }
def PolicyFollowsCardSaid : Prop := Claim7.holds Tryz.pinned (.plain (OpenSpec.ofChange policyFollowsSpec)) policyFollowsCard

/-- THE TIED CARD OF 'tidewaylaw05.PolicyPlays'. -/
def policyPlaysCard : Claim7 := { stood := { row := policyPlaysRow, standIns := [], harness := (true, "0b660d95248b3c145bbd72e99af89e00484ec903c2e40656b5f441191b969afc"), looks := false }, kinds := [], alts := [], laidByText := true, laidKinds := [.data, .data, .data, .widerDeep], laidTests := true, laidLooks := .later }
def PolicyPlaysCardSaid : Prop := Claim7.holds Tryz.pinned (.plain (OpenSpec.ofChange policyPlaysSpec)) policyPlaysCard

/-- THE TIED CARD OF 'tidewaylaw05.PolicyNumbers'. -/
def policyNumbersCard : Claim7 := { stood := { row := policyNumbersRow, standIns := [], harness := (true, "0b660d95248b3c145bbd72e99af89e00484ec903c2e40656b5f441191b969afc"), looks := false }, kinds := [], alts := [], laidByText := true, laidKinds := [.data, .data, .data, .widerDeep], laidTests := true, laidLooks := .later }
def PolicyNumbersCardSaid : Prop := Claim7.holds Tryz.pinned (.plain (OpenSpec.ofChange policyNumbersSpec)) policyNumbersCard

/-- THE TIED CARD OF 'tidewaylaw05.PolicyInformed'. -/
def policyInformedCard : Claim7 := { stood := { row := policyInformedRow, standIns := [], harness := (true, "0b660d95248b3c145bbd72e99af89e00484ec903c2e40656b5f441191b969afc"), looks := false }, kinds := [], alts := [], laidByText := true, laidKinds := [.data, .data, .data, .widerDeep], laidTests := true, laidLooks := .later }
def PolicyInformedCardSaid : Prop := Claim7.holds Tryz.pinned (.plain (OpenSpec.ofChange policyInformedSpec)) policyInformedCard

/-- THE TIED CARD OF 'tidewaylaw05.PolicyProofs'. -/
def policyProofsCard : Claim7 := { stood := { row := policyProofsRow, standIns := [], harness := (true, "0b660d95248b3c145bbd72e99af89e00484ec903c2e40656b5f441191b969afc"), looks := false }, kinds := [], alts := [], laidByText := true, laidKinds := [.data, .data, .data, .widerDeep], laidTests := true, laidLooks := .later }
def PolicyProofsCardSaid : Prop := Claim7.holds Tryz.pinned (.plain (OpenSpec.ofChange policyProofsSpec)) policyProofsCard

/-- THE TIED CARD OF 'tidewaylaw05.PolicyCertifies'. -/
def policyCertifiesCard : Claim7 := { stood := { row := policyCertifiesRow, standIns := [], harness := (true, "0b660d95248b3c145bbd72e99af89e00484ec903c2e40656b5f441191b969afc"), looks := false }, kinds := [], alts := [], laidByText := true, laidKinds := [.data, .data, .data, .widerDeep], laidTests := true, laidLooks := .later }
def PolicyCertifiesCardSaid : Prop := Claim7.holds Tryz.pinned (.plain (OpenSpec.ofChange policyCertifiesSpec)) policyCertifiesCard

/-- THE TIED CARD OF 'tidewaylaw05.PolicyTexts'. -/
def policyTextsCard : Claim7 := { stood := { row := policyTextsRow, standIns := [], harness := (true, "0b660d95248b3c145bbd72e99af89e00484ec903c2e40656b5f441191b969afc"), looks := false }, kinds := [], alts := [], laidByText := true, laidKinds := [.data, .data, .data, .data, .widerDeep, .pinned], laidTests := true, laidLooks := .later }
def PolicyTextsCardSaid : Prop := Claim7.holds Tryz.pinned (.plain (OpenSpec.ofChange policyTextsSpec)) policyTextsCard

/-- THE TIED CARD OF 'tidewaylaw05.PolicyReads'. -/
def policyReadsCard : Claim7 := { stood := { row := policyReadsRow, standIns := [], harness := (true, "0b660d95248b3c145bbd72e99af89e00484ec903c2e40656b5f441191b969afc"), looks := false }, kinds := [], alts := [], laidByText := true, laidKinds := [.data, .data, .data, .data, .widerDeep, .pinned], laidTests := true, laidLooks := .later }
def PolicyReadsCardSaid : Prop := Claim7.holds Tryz.pinned (.plain (OpenSpec.ofChange policyReadsSpec)) policyReadsCard

/-- THE SECOND FORM's CARD OF 'tidewaylaw05.PolicySearches'. -/
def policySearchesUptoCard : Claim7 := { stood := { row := policySearchesUptoRow, standIns := [], harness := (true, "0b660d95248b3c145bbd72e99af89e00484ec903c2e40656b5f441191b969afc"), looks := false }, kinds := [], alts := [], laidByText := true, laidKinds := [.data, .data, .data, .widerDeep], laidTests := true, laidLooks := .later }
def PolicySearchesUptoCardSaid : Prop := Claim7.holds Tryz.pinned (.plain (OpenSpec.upto policySearchesSpec)) policySearchesUptoCard

/-- THE SECOND FORM's CARD OF 'tidewaylaw05.PolicyBest'. -/
def policyBestUptoCard : Claim7 := { stood := { row := policyBestUptoRow, standIns := [], harness := (true, "0b660d95248b3c145bbd72e99af89e00484ec903c2e40656b5f441191b969afc"), looks := false }, kinds := [], alts := [], laidByText := true, laidKinds := [.data, .data, .data, .widerDeep], laidTests := true, laidLooks := .later }
def PolicyBestUptoCardSaid : Prop := Claim7.holds Tryz.pinned (.plain (OpenSpec.upto policyBestSpec)) policyBestUptoCard

/-- THE SECOND FORM's CARD OF 'tidewaylaw05.PolicyFiner'. -/
def policyFinerUptoCard : Claim7 := { stood := { row := policyFinerUptoRow, standIns := [], harness := (true, "0b660d95248b3c145bbd72e99af89e00484ec903c2e40656b5f441191b969afc"), looks := false }, kinds := [], alts := [], laidByText := true, laidKinds := [.data, .data, .data, .widerDeep], laidTests := true, laidLooks := .later }
def PolicyFinerUptoCardSaid : Prop := Claim7.holds Tryz.pinned (.plain (OpenSpec.upto policyFinerSpec)) policyFinerUptoCard

/-- THE SECOND FORM's CARD OF 'tidewaylaw05.PolicySeasons'. -/
def policySeasonsUptoCard : Claim7 := { stood := { row := policySeasonsUptoRow, standIns := [], harness := (true, "0b660d95248b3c145bbd72e99af89e00484ec903c2e40656b5f441191b969afc"), looks := false }, kinds := [], alts := [], laidByText := true, laidKinds := [.data, .data, .data, .widerDeep], laidTests := true, laidLooks := .later }
def PolicySeasonsUptoCardSaid : Prop := Claim7.holds Tryz.pinned (.plain (OpenSpec.upto policySeasonsSpec)) policySeasonsUptoCard

/-- THE SECOND FORM's CARD OF 'tidewaylaw05.PolicyFollows'. -/
def policyFollowsUptoCard : Claim7 := { stood := { row := policyFollowsUptoRow, standIns := [], harness := (true, "0b660d95248b3c145bbd72e99af89e00484ec903c2e40656b5f441191b969afc"), looks := false }, kinds := [], alts := [], laidByText := true, laidKinds := [.data, .data, .data, .widerDeep], laidTests := true, laidLooks := .later }
def PolicyFollowsUptoCardSaid : Prop := Claim7.holds Tryz.pinned (.plain (OpenSpec.upto policyFollowsSpec)) policyFollowsUptoCard

/-- THE SECOND FORM's CARD OF 'tidewaylaw05.PolicyPlays'. -/
def policyPlaysUptoCard : Claim7 := { stood := { row := policyPlaysUptoRow, standIns := [], harness := (true, "0b660d95248b3c145bbd72e99af89e00484ec903c2e40656b5f441191b969afc"), looks := false }, kinds := [], alts := [], laidByText := true, laidKinds := [.data, .data, .data, .widerDeep], laidTests := true, laidLooks := .later }
def PolicyPlaysUptoCardSaid : Prop := Claim7.holds Tryz.pinned (.plain (OpenSpec.upto policyPlaysSpec)) policyPlaysUptoCard

/-- THE SECOND FORM's CARD OF 'tidewaylaw05.PolicyNumbers'. -/
def policyNumbersUptoCard : Claim7 := { stood := { row := policyNumbersUptoRow, standIns := [], harness := (true, "0b660d95248b3c145bbd72e99af89e00484ec903c2e40656b5f441191b969afc"), looks := false }, kinds := [], alts := [], laidByText := true, laidKinds := [.data, .data, .data, .widerDeep], laidTests := true, laidLooks := .later }
def PolicyNumbersUptoCardSaid : Prop := Claim7.holds Tryz.pinned (.plain (OpenSpec.upto policyNumbersSpec)) policyNumbersUptoCard

/-- THE SECOND FORM's CARD OF 'tidewaylaw05.PolicyInformed'. -/
def policyInformedUptoCard : Claim7 := { stood := { row := policyInformedUptoRow, standIns := [], harness := (true, "0b660d95248b3c145bbd72e99af89e00484ec903c2e40656b5f441191b969afc"), looks := false }, kinds := [], alts := [], laidByText := true, laidKinds := [.data, .data, .data, .widerDeep], laidTests := true, laidLooks := .later }
def PolicyInformedUptoCardSaid : Prop := Claim7.holds Tryz.pinned (.plain (OpenSpec.upto policyInformedSpec)) policyInformedUptoCard

/-- THE SECOND FORM's CARD OF 'tidewaylaw05.PolicyProofs'. -/
def policyProofsUptoCard : Claim7 := { stood := { row := policyProofsUptoRow, standIns := [], harness := (true, "0b660d95248b3c145bbd72e99af89e00484ec903c2e40656b5f441191b969afc"), looks := false }, kinds := [], alts := [], laidByText := true, laidKinds := [.data, .data, .data, .widerDeep], laidTests := true, laidLooks := .later }
def PolicyProofsUptoCardSaid : Prop := Claim7.holds Tryz.pinned (.plain (OpenSpec.upto policyProofsSpec)) policyProofsUptoCard

/-- THE SECOND FORM's CARD OF 'tidewaylaw05.PolicyCertifies'. -/
def policyCertifiesUptoCard : Claim7 := { stood := { row := policyCertifiesUptoRow, standIns := [], harness := (true, "0b660d95248b3c145bbd72e99af89e00484ec903c2e40656b5f441191b969afc"), looks := false }, kinds := [], alts := [], laidByText := true, laidKinds := [.data, .data, .data, .widerDeep], laidTests := true, laidLooks := .later }
def PolicyCertifiesUptoCardSaid : Prop := Claim7.holds Tryz.pinned (.plain (OpenSpec.upto policyCertifiesSpec)) policyCertifiesUptoCard

/-- THE SECOND FORM's CARD OF 'tidewaylaw05.PolicyTexts'. -/
def policyTextsUptoCard : Claim7 := { stood := { row := policyTextsUptoRow, standIns := [], harness := (true, "0b660d95248b3c145bbd72e99af89e00484ec903c2e40656b5f441191b969afc"), looks := false }, kinds := [], alts := [], laidByText := true, laidKinds := [.data, .data, .data, .data, .widerDeep, .pinned], laidTests := true, laidLooks := .later }
def PolicyTextsUptoCardSaid : Prop := Claim7.holds Tryz.pinned (.plain (OpenSpec.upto policyTextsSpec)) policyTextsUptoCard

/-- THE SECOND FORM's CARD OF 'tidewaylaw05.PolicyReads'. -/
def policyReadsUptoCard : Claim7 := { stood := { row := policyReadsUptoRow, standIns := [], harness := (true, "0b660d95248b3c145bbd72e99af89e00484ec903c2e40656b5f441191b969afc"), looks := false }, kinds := [], alts := [], laidByText := true, laidKinds := [.data, .data, .data, .data, .widerDeep, .pinned], laidTests := true, laidLooks := .later }
def PolicyReadsUptoCardSaid : Prop := Claim7.holds Tryz.pinned (.plain (OpenSpec.upto policyReadsSpec)) policyReadsUptoCard
end Rows
end Go.Proofs.YthnobngcipaljaaGreatDoor
