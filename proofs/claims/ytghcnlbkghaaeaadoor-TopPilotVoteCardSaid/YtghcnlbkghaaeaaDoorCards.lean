/-
  DERIVED. GIVEN WITH THE SEED: THE CARDS: each row of YtghcnlbkghaaeaaDoorRows.lean that lists a variable, with what it lists TIED to the program's text (the seventh form; the later family's looks); each row that meets fmt, with fmt's text TOLD by the authors' own Lean function (tested against real Go, not proved from fmt's source: count such statements apart). THE CARD IS WHAT COUNTS. Prove the row's statement (the work); the ties are given (YtghcnlbkghaaeaaDoorTie.lean); close each card by the builder's one call (the guide's Derived/Test/ToyasCard.lean, 'card_holds'). Laid BY PROGRAM, IN A SANDBOX (cutbox-door.mjs). By AI agents, Wed Nov 11 2026. No macro, syntax, notation, axiom, sorry.
-/
import Derived.Test.YtghcnlbkghaaeaaDoorRows
import GoSem.ClaimSeven
namespace Go.Proofs.YtghcnlbkghaaeaaDoor
namespace Rows

/-- THE TIED CARD OF 'tidewaytop.TopSkipperTwice'. -/
def topSkipperTwiceCard : Claim7 := { stood := { row := topSkipperTwiceRow, standIns := [], harness := (true, "12374b5d14022335fdaf58c5667ea859a7a64a9fb796915a3a217688b6fb7210"), looks := false }, kinds := [], alts := [], laidByText := true, laidKinds := [.funcsDeep], laidTests := true, laidLooks := .later }
def TopSkipperTwiceCardSaid : Prop := Claim7.holds Tryd.pinned (.plain (OpenSpec.ofChange topSkipperTwiceSpec)) topSkipperTwiceCard

/-- THE TIED CARD OF 'tidewaytop.TopPilotVote'. -/
def topPilotVoteCard : Claim7 := { stood := { row := topPilotVoteRow, standIns := [], harness := (true, "12374b5d14022335fdaf58c5667ea859a7a64a9fb796915a3a217688b6fb7210"), looks := false }, kinds := [], alts := [], laidByText := true, laidKinds := [.data, .data], laidTests := true, laidLooks := .later }
def TopPilotVoteCardSaid : Prop := Claim7.holds Tryd.pinned (.plain (OpenSpec.ofChange topPilotVoteSpec)) topPilotVoteCard

/-- THE SECOND FORM's CARD OF 'tidewaytop.TopSkipperTwice'. -/
def topSkipperTwiceUptoCard : Claim7 := { stood := { row := topSkipperTwiceUptoRow, standIns := [], harness := (true, "12374b5d14022335fdaf58c5667ea859a7a64a9fb796915a3a217688b6fb7210"), looks := false }, kinds := [], alts := [], laidByText := true, laidKinds := [.funcsDeep], laidTests := true, laidLooks := .later }
def TopSkipperTwiceUptoCardSaid : Prop := Claim7.holds Tryd.pinned (.plain (OpenSpec.upto topSkipperTwiceSpec)) topSkipperTwiceUptoCard

/-- THE SECOND FORM's CARD OF 'tidewaytop.TopPilotVote'. -/
def topPilotVoteUptoCard : Claim7 := { stood := { row := topPilotVoteUptoRow, standIns := [], harness := (true, "12374b5d14022335fdaf58c5667ea859a7a64a9fb796915a3a217688b6fb7210"), looks := false }, kinds := [], alts := [], laidByText := true, laidKinds := [.data, .data], laidTests := true, laidLooks := .later }
def TopPilotVoteUptoCardSaid : Prop := Claim7.holds Tryd.pinned (.plain (OpenSpec.upto topPilotVoteSpec)) topPilotVoteUptoCard
end Rows
end Go.Proofs.YtghcnlbkghaaeaaDoor
