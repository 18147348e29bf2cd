/-
  No cell of these rows narrows 'for every input' (looked for: loops, veiled, ifaces, maps, wideKeys, modest, calm, conditions, laid).
  DERIVED. THE GIVEN ROWS OF THIS SEAT. 3 by the template 'for every input the law returns true; each argument reads behind the call as it read before'; 0 by the template 'total and deterministic' (their statements: YtodinjclfmiohaaGreatTotals.lean).
  GIVEN WITH THE SEED: the statements are not yours to turn. If you find one false, say at which input.
  Laid BY PROGRAM, IN A SANDBOX (cutbox-rows.mjs): the forced cells as the released guide's own fill.sh prints them over the translation 7e51bc3383a0bb0a… (all of the seat's roots in one cut). By AI agents, Wed Nov 11 2026. No macro, syntax, notation, axiom, sorry.
-/
import Derived.Test.YtodinjclfmiohaaGreatChecked
import GoSem.Claim
import GoSem.ClaimJoined
import GoSem.ClaimMapViews
import Derived.JoinedTies
import Derived.KernelRfl
namespace Go.Proofs.YtodinjclfmiohaaGreat
/- THE CELL 'sum', in the pinned program and in every row, IS THE sha256 OF THE DUMP (.gsa) THAT YtodinjclfmiohaaGreatProg.lean LOADS. Nothing in Lean hashes anything: it is a label: what it is worth is what the hold of that sum in a sandbox is worth. -/
noncomputable def Tryz.pinned : Pinned := { name := "ytodinjclfmiohaagreat", sum := "7e51bc3383a0bb0a666daaeebab276b1190b6e3b6fb96b1d00d3fb625cdbc606", checked := Tryz.checked }
namespace Rows
def none {H : Type} : Left H := { results := [], args := [] }

/-- 'tidewaytop.TopKeelClosing': WHATEVER THE INPUT: true; the input reads as it did. -/
def topKeelClosingSpec : ChangeSpec := { name := "topKeelClosing", fn := fun _ => fun
  | [d1, d2, d3] => { results := [.lit (.bool true)], args := [d1, d2, d3] }
  | _ => none }
def topKeelClosingRow : OpenClaim := { program := "ytodinjclfmiohaagreat", sum := "7e51bc3383a0bb0a666daaeebab276b1190b6e3b6fb96b1d00d3fb625cdbc606", func := "tideway/tidewaytop.TopKeelClosing", spec := "topKeelClosing", unfollowed := true, recurses := true, apart := false }
def TopKeelClosingSaid : Prop := topKeelClosingRow.holds Tryz.pinned (OpenSpec.ofChange topKeelClosingSpec)

/-- ITS FALSE NEIGHBOUR: 'it returns false'. Refute it at one input. -/
def topKeelClosingWrong : ChangeSpec := { name := "topKeelClosing", fn := fun _ => fun
  | [d1, d2, d3] => { results := [.lit (.bool false)], args := [d1, d2, d3] }
  | _ => none }
def TopKeelClosingWrongFalsely : Prop := topKeelClosingRow.holds Tryz.pinned (OpenSpec.ofChange topKeelClosingWrong)

/-- 'tidewaytop.TopKeelPlayed': WHATEVER THE INPUT: true; the input reads as it did. -/
def topKeelPlayedSpec : ChangeSpec := { name := "topKeelPlayed", fn := fun _ => fun
  | [d1, d2] => { results := [.lit (.bool true)], args := [d1, d2] }
  | _ => none }
def topKeelPlayedRow : OpenClaim := { program := "ytodinjclfmiohaagreat", sum := "7e51bc3383a0bb0a666daaeebab276b1190b6e3b6fb96b1d00d3fb625cdbc606", func := "tideway/tidewaytop.TopKeelPlayed", spec := "topKeelPlayed", unfollowed := true, recurses := true, apart := false }
def TopKeelPlayedSaid : Prop := topKeelPlayedRow.holds Tryz.pinned (OpenSpec.ofChange topKeelPlayedSpec)

/-- ITS FALSE NEIGHBOUR: 'it returns false'. Refute it at one input. -/
def topKeelPlayedWrong : ChangeSpec := { name := "topKeelPlayed", fn := fun _ => fun
  | [d1, d2] => { results := [.lit (.bool false)], args := [d1, d2] }
  | _ => none }
def TopKeelPlayedWrongFalsely : Prop := topKeelPlayedRow.holds Tryz.pinned (OpenSpec.ofChange topKeelPlayedWrong)

/-- 'tidewaytop.TopKeelCertain': WHATEVER THE INPUT: true; the input reads as it did. -/
def topKeelCertainSpec : ChangeSpec := { name := "topKeelCertain", fn := fun _ => fun
  | [d] => { results := [.lit (.bool true)], args := [d] }
  | _ => none }
def topKeelCertainRow : OpenClaim := { program := "ytodinjclfmiohaagreat", sum := "7e51bc3383a0bb0a666daaeebab276b1190b6e3b6fb96b1d00d3fb625cdbc606", func := "tideway/tidewaytop.TopKeelCertain", spec := "topKeelCertain", unfollowed := true, recurses := true, apart := false }
def TopKeelCertainSaid : Prop := topKeelCertainRow.holds Tryz.pinned (OpenSpec.ofChange topKeelCertainSpec)

/-- ITS FALSE NEIGHBOUR: 'it returns false'. Refute it at one input. -/
def topKeelCertainWrong : ChangeSpec := { name := "topKeelCertain", fn := fun _ => fun
  | [d] => { results := [.lit (.bool false)], args := [d] }
  | _ => none }
def TopKeelCertainWrongFalsely : Prop := topKeelCertainRow.holds Tryz.pinned (OpenSpec.ofChange topKeelCertainWrong)

/- THE SECOND FORM. 'bulk': how many values and letters a reading holds, each counted each time it is reached (what is shared counts as often as it is met; a slice's spare places count too). A statement '..UptoSaid' is the law's where the arguments, and the package variables that the reading takes, are together of bulk at most 1048576: NARROWER than '..Said'. Prove '..Said' where nothing that the law and all that it calls make is longer than what came in: it says more and counts as full. Else prove '..UptoSaid'. A law counts once. -/
mutual
def uptoBulk {H : Type} : DataW H → Nat
  | .lit (.string bytes) => bytes.length + 1
  | .lit _ => 1
  | .nil => 1
  | .ptr d => uptoBulk d + 1
  | .slice elems spare => uptoBulkAll elems + uptoBulkAll spare + 1
  | .agg parts => uptoBulkAll parts + 1
  | .iface _ d => uptoBulk d + 1
  | .map entries => uptoBulkEntries entries + 1
  | .held _ => 1
def uptoBulkAll {H : Type} : List (DataW H) → Nat
  | [] => 0
  | d :: r => uptoBulk d + uptoBulkAll r
def uptoBulkEntries {H : Type} : List (Lit × DataW H) → Nat
  | [] => 0
  | x :: r => uptoBulkEntry x + uptoBulkEntries r
def uptoBulkEntry {H : Type} : Lit × DataW H → Nat
  | (.string bytes, d) => bytes.length + uptoBulk d + 1
  | (_, d) => uptoBulk d + 1
 end
def uptoSmall : (H : Type) → List (DataW H) → Bool := fun _ ds => decide (uptoBulkAll ds ≤ 1048576)
def OpenSpec.upto (s : _root_.Go.ChangeSpec) : _root_.Go.OpenSpec := { _root_.Go.OpenSpec.ofChange s with cond := some uptoSmall }

/-- 'tidewaytop.TopKeelClosing', WHERE WHAT IT READS IS OF BULK AT MOST 1048576: true; the input reads as it did. -/
def topKeelClosingUptoRow : OpenClaim := { program := "ytodinjclfmiohaagreat", sum := "7e51bc3383a0bb0a666daaeebab276b1190b6e3b6fb96b1d00d3fb625cdbc606", func := "tideway/tidewaytop.TopKeelClosing", spec := "topKeelClosing", unfollowed := true, recurses := true, apart := false, narrowed := true }
def TopKeelClosingUptoSaid : Prop := topKeelClosingUptoRow.holds Tryz.pinned (OpenSpec.upto topKeelClosingSpec)

/-- 'tidewaytop.TopKeelPlayed', WHERE WHAT IT READS IS OF BULK AT MOST 1048576: true; the input reads as it did. -/
def topKeelPlayedUptoRow : OpenClaim := { program := "ytodinjclfmiohaagreat", sum := "7e51bc3383a0bb0a666daaeebab276b1190b6e3b6fb96b1d00d3fb625cdbc606", func := "tideway/tidewaytop.TopKeelPlayed", spec := "topKeelPlayed", unfollowed := true, recurses := true, apart := false, narrowed := true }
def TopKeelPlayedUptoSaid : Prop := topKeelPlayedUptoRow.holds Tryz.pinned (OpenSpec.upto topKeelPlayedSpec)

/-- 'tidewaytop.TopKeelCertain', WHERE WHAT IT READS IS OF BULK AT MOST 1048576: true; the input reads as it did. -/
def topKeelCertainUptoRow : OpenClaim := { program := "ytodinjclfmiohaagreat", sum := "7e51bc3383a0bb0a666daaeebab276b1190b6e3b6fb96b1d00d3fb625cdbc606", func := "tideway/tidewaytop.TopKeelCertain", spec := "topKeelCertain", unfollowed := true, recurses := true, apart := false, narrowed := true }
def TopKeelCertainUptoSaid : Prop := topKeelCertainUptoRow.holds Tryz.pinned (OpenSpec.upto topKeelCertainSpec)

end Rows
end Go.Proofs.YtodinjclfmiohaaGreat
