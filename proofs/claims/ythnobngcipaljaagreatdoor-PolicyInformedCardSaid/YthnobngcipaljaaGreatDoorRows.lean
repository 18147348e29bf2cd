/-
  NARROWER THAN 'FOR EVERY INPUT', by the rows' own cells (each row's printed sentence says how): PolicySearches: laid · PolicyBest: laid · PolicyFiner: laid · PolicySeasons: laid · PolicyFollows: laid · PolicyPlays: laid · PolicyNumbers: laid · PolicyInformed: laid · PolicyProofs: laid · PolicyCertifies: laid · PolicyTexts: laid · PolicyReads: laid.
  DERIVED. THE GIVEN ROWS OF THIS SEAT. 12 by the template 'for every input the law returns true; each argument reads behind the call as it read before'; 0 by the template 'total and deterministic' (their statements: YthnobngcipaljaaGreatDoorTotals.lean).
  GIVEN WITH THE SEED: the statements are not yours to turn. If you find one false, say at which input.
  Laid BY PROGRAM, IN A SANDBOX (cutbox-rows.mjs): the forced cells as the released guide's own fill.sh prints them over the translation 8c6d2b4254de2fdb… (all of the seat's roots in one cut). By AI agents, Wed Nov 11 2026. No macro, syntax, notation, axiom, sorry.
-/
import Derived.Test.YthnobngcipaljaaGreatDoorChecked
import GoSem.PinnedTables
import GoSem.Claim
import GoSem.ClaimJoined
import GoSem.ClaimMapViews
import Derived.JoinedTies
import Derived.KernelRfl
namespace Go.Proofs.YthnobngcipaljaaGreatDoor
/- THE CELL 'sum', in the pinned program and in every row, IS THE sha256 OF THE DUMP (.gsa) THAT YthnobngcipaljaaGreatDoorProg.lean LOADS. Nothing in Lean hashes anything: it is a label: what it is worth is what the hold of that sum in a sandbox is worth. -/
noncomputable def Tryz.pinned : Pinned := { name := "ythnobngcipaljaagreatdoor", sum := "8c6d2b4254de2fdb5128b74a53dec573158be8aeba87fd7760affeba5966d399", checked := Tryz.checked }
namespace Rows
def none {H : Type} : Left H := { results := [], args := [] }

/- WHAT THE LISTED PACKAGE-LEVEL VARIABLES READ AS WHEN THE CALL BEGINS. Each datum BY PROGRAM (the guide's laid-datum.mjs) off the statement by which the dump's own 'gosem.cut.vars' lays the variable. In a bare row this is a premise. The card (YthnobngcipaljaaGreatDoorCards.lean) ties it to the program's text. -/
def laid_math_bits_deBruijn32tab {H : Type} : DataW H := .agg [.lit (.int .u8 0), .lit (.int .u8 1), .lit (.int .u8 28), .lit (.int .u8 2), .lit (.int .u8 29), .lit (.int .u8 14), .lit (.int .u8 24), .lit (.int .u8 3), .lit (.int .u8 30), .lit (.int .u8 22), .lit (.int .u8 20), .lit (.int .u8 15), .lit (.int .u8 25), .lit (.int .u8 17), .lit (.int .u8 4), .lit (.int .u8 8), .lit (.int .u8 31), .lit (.int .u8 27), .lit (.int .u8 13), .lit (.int .u8 23), .lit (.int .u8 21), .lit (.int .u8 19), .lit (.int .u8 16), .lit (.int .u8 7), .lit (.int .u8 26), .lit (.int .u8 12), .lit (.int .u8 18), .lit (.int .u8 6), .lit (.int .u8 11), .lit (.int .u8 5), .lit (.int .u8 10), .lit (.int .u8 9)]
def laid_math_bits_deBruijn64tab {H : Type} : DataW H := .agg [.lit (.int .u8 0), .lit (.int .u8 1), .lit (.int .u8 56), .lit (.int .u8 2), .lit (.int .u8 57), .lit (.int .u8 49), .lit (.int .u8 28), .lit (.int .u8 3), .lit (.int .u8 61), .lit (.int .u8 58), .lit (.int .u8 42), .lit (.int .u8 50), .lit (.int .u8 38), .lit (.int .u8 29), .lit (.int .u8 17), .lit (.int .u8 4), .lit (.int .u8 62), .lit (.int .u8 47), .lit (.int .u8 59), .lit (.int .u8 36), .lit (.int .u8 45), .lit (.int .u8 43), .lit (.int .u8 51), .lit (.int .u8 22), .lit (.int .u8 53), .lit (.int .u8 39), .lit (.int .u8 33), .lit (.int .u8 30), .lit (.int .u8 24), .lit (.int .u8 18), .lit (.int .u8 12), .lit (.int .u8 5), .lit (.int .u8 63), .lit (.int .u8 55), .lit (.int .u8 48), .lit (.int .u8 27), .lit (.int .u8 60), .lit (.int .u8 41), .lit (.int .u8 37), .lit (.int .u8 16), .lit (.int .u8 46), .lit (.int .u8 35), .lit (.int .u8 44), .lit (.int .u8 21), .lit (.int .u8 52), .lit (.int .u8 32), .lit (.int .u8 23), .lit (.int .u8 11), .lit (.int .u8 54), .lit (.int .u8 26), .lit (.int .u8 40), .lit (.int .u8 15), .lit (.int .u8 34), .lit (.int .u8 20), .lit (.int .u8 31), .lit (.int .u8 10), .lit (.int .u8 25), .lit (.int .u8 14), .lit (.int .u8 19), .lit (.int .u8 9), .lit (.int .u8 13), .lit (.int .u8 8), .lit (.int .u8 7), .lit (.int .u8 6)]
def laid_internal_strconv_uint64pow10 {H : Type} : DataW H := .agg [.lit (.int .u64 1), .lit (.int .u64 10), .lit (.int .u64 100), .lit (.int .u64 1000), .lit (.int .u64 10000), .lit (.int .u64 100000), .lit (.int .u64 1000000), .lit (.int .u64 10000000), .lit (.int .u64 100000000), .lit (.int .u64 1000000000), .lit (.int .u64 10000000000), .lit (.int .u64 100000000000), .lit (.int .u64 1000000000000), .lit (.int .u64 10000000000000), .lit (.int .u64 100000000000000), .lit (.int .u64 1000000000000000), .lit (.int .u64 10000000000000000), .lit (.int .u64 100000000000000000), .lit (.int .u64 1000000000000000000), .lit (.int .u64 10000000000000000000)]
def laid_tideway_policy_words {H : Type} : DataW H := .agg [.lit (.string [111, 112, 101, 110]), .lit (.string [99, 108, 111, 115, 101])]
def laid_unicode_utf8_acceptRanges {H : Type} : DataW H := .agg [.agg [.lit (.int .u8 128), .lit (.int .u8 191)], .agg [.lit (.int .u8 160), .lit (.int .u8 191)], .agg [.lit (.int .u8 128), .lit (.int .u8 159)], .agg [.lit (.int .u8 144), .lit (.int .u8 191)], .agg [.lit (.int .u8 128), .lit (.int .u8 143)], .agg [.lit (.int .u8 0), .lit (.int .u8 0)], .agg [.lit (.int .u8 0), .lit (.int .u8 0)], .agg [.lit (.int .u8 0), .lit (.int .u8 0)], .agg [.lit (.int .u8 0), .lit (.int .u8 0)], .agg [.lit (.int .u8 0), .lit (.int .u8 0)], .agg [.lit (.int .u8 0), .lit (.int .u8 0)], .agg [.lit (.int .u8 0), .lit (.int .u8 0)], .agg [.lit (.int .u8 0), .lit (.int .u8 0)], .agg [.lit (.int .u8 0), .lit (.int .u8 0)], .agg [.lit (.int .u8 0), .lit (.int .u8 0)], .agg [.lit (.int .u8 0), .lit (.int .u8 0)]]
/-- One of Go's own tables, pinned by name: the form's constant. -/
def laid_unicode_utf8_first : DataW Unit := Go.Pinned.utf8First

/-- 'tidewaylaw05.PolicySearches': WHATEVER THE INPUT: true; the input reads as it did. -/
def policySearchesSpec : ChangeSpec := { name := "policySearches", fn := fun _ => fun
  | [d1, d2] => { results := [.lit (.bool true)], args := [d1, d2] }
  | _ => none }
def policySearchesRow : OpenClaim := { program := "ythnobngcipaljaagreatdoor", sum := "8c6d2b4254de2fdb5128b74a53dec573158be8aeba87fd7760affeba5966d399", func := "tideway/tidewaylaw05.PolicySearches", spec := "policySearches", inPlace := ["internal/abi.NoEscape", "internal/bytealg.MakeNoZero"], unfollowed := true, recurses := true, named := ["tideway/policy.words", "internal/strconv.uint64pow10", "math/bits.deBruijn32tab", "math/bits.deBruijn64tab"], apart := false, laid := [("math/bits.deBruijn32tab", laid_math_bits_deBruijn32tab), ("math/bits.deBruijn64tab", laid_math_bits_deBruijn64tab), ("internal/strconv.uint64pow10", laid_internal_strconv_uint64pow10), ("tideway/policy.words", laid_tideway_policy_words)] }
def PolicySearchesSaid : Prop := policySearchesRow.holds Tryz.pinned (OpenSpec.ofChange policySearchesSpec)

/-- ITS FALSE NEIGHBOUR: 'it returns false'. Refute it at one input. -/
def policySearchesWrong : ChangeSpec := { name := "policySearches", fn := fun _ => fun
  | [d1, d2] => { results := [.lit (.bool false)], args := [d1, d2] }
  | _ => none }
def PolicySearchesWrongFalsely : Prop := policySearchesRow.holds Tryz.pinned (OpenSpec.ofChange policySearchesWrong)

/-- 'tidewaylaw05.PolicyBest': WHATEVER THE INPUT: true; the input reads as it did. -/
def policyBestSpec : ChangeSpec := { name := "policyBest", fn := fun _ => fun
  | [d1, d2, d3] => { results := [.lit (.bool true)], args := [d1, d2, d3] }
  | _ => none }
def policyBestRow : OpenClaim := { program := "ythnobngcipaljaagreatdoor", sum := "8c6d2b4254de2fdb5128b74a53dec573158be8aeba87fd7760affeba5966d399", func := "tideway/tidewaylaw05.PolicyBest", spec := "policyBest", inPlace := ["internal/abi.NoEscape", "internal/bytealg.MakeNoZero"], unfollowed := true, recurses := true, named := ["tideway/policy.words", "internal/strconv.uint64pow10", "math/bits.deBruijn32tab", "math/bits.deBruijn64tab"], apart := false, laid := [("math/bits.deBruijn32tab", laid_math_bits_deBruijn32tab), ("math/bits.deBruijn64tab", laid_math_bits_deBruijn64tab), ("internal/strconv.uint64pow10", laid_internal_strconv_uint64pow10), ("tideway/policy.words", laid_tideway_policy_words)] }
def PolicyBestSaid : Prop := policyBestRow.holds Tryz.pinned (OpenSpec.ofChange policyBestSpec)

/-- ITS FALSE NEIGHBOUR: 'it returns false'. Refute it at one input. -/
def policyBestWrong : ChangeSpec := { name := "policyBest", fn := fun _ => fun
  | [d1, d2, d3] => { results := [.lit (.bool false)], args := [d1, d2, d3] }
  | _ => none }
def PolicyBestWrongFalsely : Prop := policyBestRow.holds Tryz.pinned (OpenSpec.ofChange policyBestWrong)

/-- 'tidewaylaw05.PolicyFiner': WHATEVER THE INPUT: true; the input reads as it did. -/
def policyFinerSpec : ChangeSpec := { name := "policyFiner", fn := fun _ => fun
  | [d1, d2, d3] => { results := [.lit (.bool true)], args := [d1, d2, d3] }
  | _ => none }
def policyFinerRow : OpenClaim := { program := "ythnobngcipaljaagreatdoor", sum := "8c6d2b4254de2fdb5128b74a53dec573158be8aeba87fd7760affeba5966d399", func := "tideway/tidewaylaw05.PolicyFiner", spec := "policyFiner", inPlace := ["internal/abi.NoEscape", "internal/bytealg.MakeNoZero"], unfollowed := true, recurses := true, named := ["tideway/policy.words", "internal/strconv.uint64pow10", "math/bits.deBruijn32tab", "math/bits.deBruijn64tab"], apart := false, laid := [("math/bits.deBruijn32tab", laid_math_bits_deBruijn32tab), ("math/bits.deBruijn64tab", laid_math_bits_deBruijn64tab), ("internal/strconv.uint64pow10", laid_internal_strconv_uint64pow10), ("tideway/policy.words", laid_tideway_policy_words)] }
def PolicyFinerSaid : Prop := policyFinerRow.holds Tryz.pinned (OpenSpec.ofChange policyFinerSpec)

/-- ITS FALSE NEIGHBOUR: 'it returns false'. Refute it at one input. -/
def policyFinerWrong : ChangeSpec := { name := "policyFiner", fn := fun _ => fun
  | [d1, d2, d3] => { results := [.lit (.bool false)], args := [d1, d2, d3] }
  | _ => none }
def PolicyFinerWrongFalsely : Prop := policyFinerRow.holds Tryz.pinned (OpenSpec.ofChange policyFinerWrong)

/-- 'tidewaylaw05.PolicySeasons': WHATEVER THE INPUT: true; the input reads as it did. -/
def policySeasonsSpec : ChangeSpec := { name := "policySeasons", fn := fun _ => fun
  | [d] => { results := [.lit (.bool true)], args := [d] }
  | _ => none }
def policySeasonsRow : OpenClaim := { program := "ythnobngcipaljaagreatdoor", sum := "8c6d2b4254de2fdb5128b74a53dec573158be8aeba87fd7760affeba5966d399", func := "tideway/tidewaylaw05.PolicySeasons", spec := "policySeasons", inPlace := ["internal/abi.NoEscape", "internal/bytealg.MakeNoZero"], unfollowed := true, recurses := true, named := ["tideway/policy.words", "internal/strconv.uint64pow10", "math/bits.deBruijn32tab", "math/bits.deBruijn64tab"], apart := false, laid := [("math/bits.deBruijn32tab", laid_math_bits_deBruijn32tab), ("math/bits.deBruijn64tab", laid_math_bits_deBruijn64tab), ("internal/strconv.uint64pow10", laid_internal_strconv_uint64pow10), ("tideway/policy.words", laid_tideway_policy_words)] }
def PolicySeasonsSaid : Prop := policySeasonsRow.holds Tryz.pinned (OpenSpec.ofChange policySeasonsSpec)

/-- ITS FALSE NEIGHBOUR: 'it returns false'. Refute it at one input. -/
def policySeasonsWrong : ChangeSpec := { name := "policySeasons", fn := fun _ => fun
  | [d] => { results := [.lit (.bool false)], args := [d] }
  | _ => none }
def PolicySeasonsWrongFalsely : Prop := policySeasonsRow.holds Tryz.pinned (OpenSpec.ofChange policySeasonsWrong)

/-- 'tidewaylaw05.PolicyFollows': WHATEVER THE INPUT: true; the input reads as it did. -/
def policyFollowsSpec : ChangeSpec := { name := "policyFollows", fn := fun _ => fun
  | [d1, d2, d3] => { results := [.lit (.bool true)], args := [d1, d2, d3] }
  | _ => none }
def policyFollowsRow : OpenClaim := { program := "ythnobngcipaljaagreatdoor", sum := "8c6d2b4254de2fdb5128b74a53dec573158be8aeba87fd7760affeba5966d399", func := "tideway/tidewaylaw05.PolicyFollows", spec := "policyFollows", inPlace := ["internal/abi.NoEscape", "internal/bytealg.MakeNoZero"], unfollowed := true, recurses := true, named := ["tideway/policy.words", "internal/strconv.uint64pow10", "math/bits.deBruijn32tab", "math/bits.deBruijn64tab"], apart := false, laid := [("math/bits.deBruijn32tab", laid_math_bits_deBruijn32tab), ("math/bits.deBruijn64tab", laid_math_bits_deBruijn64tab), ("internal/strconv.uint64pow10", laid_internal_strconv_uint64pow10), ("tideway/policy.words", laid_tideway_policy_words)] }
def PolicyFollowsSaid : Prop := policyFollowsRow.holds Tryz.pinned (OpenSpec.ofChange policyFollowsSpec)

/-- ITS FALSE NEIGHBOUR: 'it returns false'. Refute it at one input. -/
def policyFollowsWrong : ChangeSpec := { name := "policyFollows", fn := fun _ => fun
  | [d1, d2, d3] => { results := [.lit (.bool false)], args := [d1, d2, d3] }
  | _ => none }
def PolicyFollowsWrongFalsely : Prop := policyFollowsRow.holds Tryz.pinned (OpenSpec.ofChange policyFollowsWrong)

/-- 'tidewaylaw05.PolicyPlays': WHATEVER THE INPUT: true; the input reads as it did. -/
def policyPlaysSpec : ChangeSpec := { name := "policyPlays", fn := fun _ => fun
  | [d1, d2, d3] => { results := [.lit (.bool true)], args := [d1, d2, d3] }
  | _ => none }
def policyPlaysRow : OpenClaim := { program := "ythnobngcipaljaagreatdoor", sum := "8c6d2b4254de2fdb5128b74a53dec573158be8aeba87fd7760affeba5966d399", func := "tideway/tidewaylaw05.PolicyPlays", spec := "policyPlays", inPlace := ["internal/abi.NoEscape", "internal/bytealg.MakeNoZero"], unfollowed := true, recurses := true, named := ["tideway/policy.words", "internal/strconv.uint64pow10", "math/bits.deBruijn32tab", "math/bits.deBruijn64tab"], apart := false, laid := [("math/bits.deBruijn32tab", laid_math_bits_deBruijn32tab), ("math/bits.deBruijn64tab", laid_math_bits_deBruijn64tab), ("internal/strconv.uint64pow10", laid_internal_strconv_uint64pow10), ("tideway/policy.words", laid_tideway_policy_words)] }
def PolicyPlaysSaid : Prop := policyPlaysRow.holds Tryz.pinned (OpenSpec.ofChange policyPlaysSpec)

/-- ITS FALSE NEIGHBOUR: 'it returns false'. Refute it at one input. -/
def policyPlaysWrong : ChangeSpec := { name := "policyPlays", fn := fun _ => fun
  | [d1, d2, d3] => { results := [.lit (.bool false)], args := [d1, d2, d3] }
  | _ => none }
def PolicyPlaysWrongFalsely : Prop := policyPlaysRow.holds Tryz.pinned (OpenSpec.ofChange policyPlaysWrong)

/-- 'tidewaylaw05.PolicyNumbers': WHATEVER THE INPUT: true; the input reads as it did. -/
def policyNumbersSpec : ChangeSpec := { name := "policyNumbers", fn := fun _ => fun
  | [d1, d2, d3] => { results := [.lit (.bool true)], args := [d1, d2, d3] }
  | _ => none }
def policyNumbersRow : OpenClaim := { program := "ythnobngcipaljaagreatdoor", sum := "8c6d2b4254de2fdb5128b74a53dec573158be8aeba87fd7760affeba5966d399", func := "tideway/tidewaylaw05.PolicyNumbers", spec := "policyNumbers", inPlace := ["internal/abi.NoEscape", "internal/bytealg.MakeNoZero"], unfollowed := true, recurses := true, named := ["tideway/policy.words", "internal/strconv.uint64pow10", "math/bits.deBruijn32tab", "math/bits.deBruijn64tab"], apart := false, laid := [("math/bits.deBruijn32tab", laid_math_bits_deBruijn32tab), ("math/bits.deBruijn64tab", laid_math_bits_deBruijn64tab), ("internal/strconv.uint64pow10", laid_internal_strconv_uint64pow10), ("tideway/policy.words", laid_tideway_policy_words)] }
def PolicyNumbersSaid : Prop := policyNumbersRow.holds Tryz.pinned (OpenSpec.ofChange policyNumbersSpec)

/-- ITS FALSE NEIGHBOUR: 'it returns false'. Refute it at one input. -/
def policyNumbersWrong : ChangeSpec := { name := "policyNumbers", fn := fun _ => fun
  | [d1, d2, d3] => { results := [.lit (.bool false)], args := [d1, d2, d3] }
  | _ => none }
def PolicyNumbersWrongFalsely : Prop := policyNumbersRow.holds Tryz.pinned (OpenSpec.ofChange policyNumbersWrong)

/-- 'tidewaylaw05.PolicyInformed': WHATEVER THE INPUT: true; the input reads as it did. -/
def policyInformedSpec : ChangeSpec := { name := "policyInformed", fn := fun _ => fun
  | [d1, d2, d3] => { results := [.lit (.bool true)], args := [d1, d2, d3] }
  | _ => none }
def policyInformedRow : OpenClaim := { program := "ythnobngcipaljaagreatdoor", sum := "8c6d2b4254de2fdb5128b74a53dec573158be8aeba87fd7760affeba5966d399", func := "tideway/tidewaylaw05.PolicyInformed", spec := "policyInformed", inPlace := ["internal/abi.NoEscape", "internal/bytealg.MakeNoZero"], unfollowed := true, recurses := true, named := ["tideway/policy.words", "internal/strconv.uint64pow10", "math/bits.deBruijn32tab", "math/bits.deBruijn64tab"], apart := false, laid := [("math/bits.deBruijn32tab", laid_math_bits_deBruijn32tab), ("math/bits.deBruijn64tab", laid_math_bits_deBruijn64tab), ("internal/strconv.uint64pow10", laid_internal_strconv_uint64pow10), ("tideway/policy.words", laid_tideway_policy_words)] }
def PolicyInformedSaid : Prop := policyInformedRow.holds Tryz.pinned (OpenSpec.ofChange policyInformedSpec)

/-- ITS FALSE NEIGHBOUR: 'it returns false'. Refute it at one input. -/
def policyInformedWrong : ChangeSpec := { name := "policyInformed", fn := fun _ => fun
  | [d1, d2, d3] => { results := [.lit (.bool false)], args := [d1, d2, d3] }
  | _ => none }
def PolicyInformedWrongFalsely : Prop := policyInformedRow.holds Tryz.pinned (OpenSpec.ofChange policyInformedWrong)

/-- 'tidewaylaw05.PolicyProofs': WHATEVER THE INPUT: true; the input reads as it did. -/
def policyProofsSpec : ChangeSpec := { name := "policyProofs", fn := fun _ => fun
  | [d1, d2] => { results := [.lit (.bool true)], args := [d1, d2] }
  | _ => none }
def policyProofsRow : OpenClaim := { program := "ythnobngcipaljaagreatdoor", sum := "8c6d2b4254de2fdb5128b74a53dec573158be8aeba87fd7760affeba5966d399", func := "tideway/tidewaylaw05.PolicyProofs", spec := "policyProofs", inPlace := ["internal/abi.NoEscape", "internal/bytealg.MakeNoZero"], unfollowed := true, recurses := true, named := ["tideway/policy.words", "internal/strconv.uint64pow10", "math/bits.deBruijn32tab", "math/bits.deBruijn64tab"], apart := false, laid := [("math/bits.deBruijn32tab", laid_math_bits_deBruijn32tab), ("math/bits.deBruijn64tab", laid_math_bits_deBruijn64tab), ("internal/strconv.uint64pow10", laid_internal_strconv_uint64pow10), ("tideway/policy.words", laid_tideway_policy_words)] }
def PolicyProofsSaid : Prop := policyProofsRow.holds Tryz.pinned (OpenSpec.ofChange policyProofsSpec)

/-- ITS FALSE NEIGHBOUR: 'it returns false'. Refute it at one input. -/
def policyProofsWrong : ChangeSpec := { name := "policyProofs", fn := fun _ => fun
  | [d1, d2] => { results := [.lit (.bool false)], args := [d1, d2] }
  | _ => none }
def PolicyProofsWrongFalsely : Prop := policyProofsRow.holds Tryz.pinned (OpenSpec.ofChange policyProofsWrong)

/-- 'tidewaylaw05.PolicyCertifies': WHATEVER THE INPUT: true; the input reads as it did. -/
def policyCertifiesSpec : ChangeSpec := { name := "policyCertifies", fn := fun _ => fun
  | [d1, d2] => { results := [.lit (.bool true)], args := [d1, d2] }
  | _ => none }
def policyCertifiesRow : OpenClaim := { program := "ythnobngcipaljaagreatdoor", sum := "8c6d2b4254de2fdb5128b74a53dec573158be8aeba87fd7760affeba5966d399", func := "tideway/tidewaylaw05.PolicyCertifies", spec := "policyCertifies", inPlace := ["internal/abi.NoEscape", "internal/bytealg.MakeNoZero"], unfollowed := true, recurses := true, named := ["tideway/policy.words", "internal/strconv.uint64pow10", "math/bits.deBruijn32tab", "math/bits.deBruijn64tab"], apart := false, laid := [("math/bits.deBruijn32tab", laid_math_bits_deBruijn32tab), ("math/bits.deBruijn64tab", laid_math_bits_deBruijn64tab), ("internal/strconv.uint64pow10", laid_internal_strconv_uint64pow10), ("tideway/policy.words", laid_tideway_policy_words)] }
def PolicyCertifiesSaid : Prop := policyCertifiesRow.holds Tryz.pinned (OpenSpec.ofChange policyCertifiesSpec)

/-- ITS FALSE NEIGHBOUR: 'it returns false'. Refute it at one input. -/
def policyCertifiesWrong : ChangeSpec := { name := "policyCertifies", fn := fun _ => fun
  | [d1, d2] => { results := [.lit (.bool false)], args := [d1, d2] }
  | _ => none }
def PolicyCertifiesWrongFalsely : Prop := policyCertifiesRow.holds Tryz.pinned (OpenSpec.ofChange policyCertifiesWrong)

/-- 'tidewaylaw05.PolicyTexts': WHATEVER THE INPUT: true; the input reads as it did. -/
def policyTextsSpec : ChangeSpec := { name := "policyTexts", fn := fun _ => fun
  | [d1, d2] => { results := [.lit (.bool true)], args := [d1, d2] }
  | _ => none }
def policyTextsRow : OpenClaim := { program := "ythnobngcipaljaagreatdoor", sum := "8c6d2b4254de2fdb5128b74a53dec573158be8aeba87fd7760affeba5966d399", func := "tideway/tidewaylaw05.PolicyTexts", spec := "policyTexts", inPlace := ["internal/abi.NoEscape", "internal/bytealg.MakeNoZero", "internal/bytealg.IndexByteString", "internal/bytealg.IndexString", "internal/bytealg.CountString"], unfollowed := true, recurses := true, named := ["tideway/policy.words", "internal/strconv.uint64pow10", "math/bits.deBruijn32tab", "math/bits.deBruijn64tab", "internal/bytealg.MaxLen", "unicode/utf8.first", "unicode/utf8.acceptRanges"], apart := false, laid := [("math/bits.deBruijn32tab", laid_math_bits_deBruijn32tab), ("math/bits.deBruijn64tab", laid_math_bits_deBruijn64tab), ("internal/strconv.uint64pow10", laid_internal_strconv_uint64pow10), ("unicode/utf8.acceptRanges", laid_unicode_utf8_acceptRanges), ("tideway/policy.words", laid_tideway_policy_words), ("unicode/utf8.first", laid_unicode_utf8_first)] }
def PolicyTextsSaid : Prop := policyTextsRow.holds Tryz.pinned (OpenSpec.ofChange policyTextsSpec)

/-- ITS FALSE NEIGHBOUR: 'it returns false'. Refute it at one input. -/
def policyTextsWrong : ChangeSpec := { name := "policyTexts", fn := fun _ => fun
  | [d1, d2] => { results := [.lit (.bool false)], args := [d1, d2] }
  | _ => none }
def PolicyTextsWrongFalsely : Prop := policyTextsRow.holds Tryz.pinned (OpenSpec.ofChange policyTextsWrong)

/-- 'tidewaylaw05.PolicyReads': WHATEVER THE INPUT: true; the input reads as it did. -/
def policyReadsSpec : ChangeSpec := { name := "policyReads", fn := fun _ => fun
  | [d1, d2, d3] => { results := [.lit (.bool true)], args := [d1, d2, d3] }
  | _ => none }
def policyReadsRow : OpenClaim := { program := "ythnobngcipaljaagreatdoor", sum := "8c6d2b4254de2fdb5128b74a53dec573158be8aeba87fd7760affeba5966d399", func := "tideway/tidewaylaw05.PolicyReads", spec := "policyReads", inPlace := ["internal/abi.NoEscape", "internal/bytealg.MakeNoZero", "internal/bytealg.IndexByteString", "internal/bytealg.IndexString", "internal/bytealg.CountString"], unfollowed := true, recurses := true, named := ["tideway/policy.words", "internal/strconv.uint64pow10", "math/bits.deBruijn32tab", "math/bits.deBruijn64tab", "internal/bytealg.MaxLen", "unicode/utf8.first", "unicode/utf8.acceptRanges"], apart := false, laid := [("math/bits.deBruijn32tab", laid_math_bits_deBruijn32tab), ("math/bits.deBruijn64tab", laid_math_bits_deBruijn64tab), ("internal/strconv.uint64pow10", laid_internal_strconv_uint64pow10), ("unicode/utf8.acceptRanges", laid_unicode_utf8_acceptRanges), ("tideway/policy.words", laid_tideway_policy_words), ("unicode/utf8.first", laid_unicode_utf8_first)] }
def PolicyReadsSaid : Prop := policyReadsRow.holds Tryz.pinned (OpenSpec.ofChange policyReadsSpec)

/-- ITS FALSE NEIGHBOUR: 'it returns false'. Refute it at one input. -/
def policyReadsWrong : ChangeSpec := { name := "policyReads", fn := fun _ => fun
  | [d1, d2, d3] => { results := [.lit (.bool false)], args := [d1, d2, d3] }
  | _ => none }
def PolicyReadsWrongFalsely : Prop := policyReadsRow.holds Tryz.pinned (OpenSpec.ofChange policyReadsWrong)

/- THE SECOND FORM. 'bulk': how many values and letters a reading holds, each counted each time it is reached (what is shared counts as often as it is met; a slice's spare places count too). A statement '..UptoSaid' is the law's where the arguments, and the package variables that the reading takes, are together of bulk at most 1048576: NARROWER than '..Said'. Prove '..Said' where nothing that the law and all that it calls make is longer than what came in: it says more and counts as full. Else prove '..UptoSaid'. A law counts once. -/
mutual
def uptoBulk {H : Type} : DataW H → Nat
  | .lit (.string bytes) => bytes.length + 1
  | .lit _ => 1
  | .nil => 1
  | .ptr d => uptoBulk d + 1
  | .slice elems spare => uptoBulkAll elems + uptoBulkAll spare + 1
  | .agg parts => uptoBulkAll parts + 1
  | .iface _ d => uptoBulk d + 1
  | .map entries => uptoBulkEntries entries + 1
  | .held _ => 1
def uptoBulkAll {H : Type} : List (DataW H) → Nat
  | [] => 0
  | d :: r => uptoBulk d + uptoBulkAll r
def uptoBulkEntries {H : Type} : List (Lit × DataW H) → Nat
  | [] => 0
  | x :: r => uptoBulkEntry x + uptoBulkEntries r
def uptoBulkEntry {H : Type} : Lit × DataW H → Nat
  | (.string bytes, d) => bytes.length + uptoBulk d + 1
  | (_, d) => uptoBulk d + 1
 end
def uptoSmall : (H : Type) → List (DataW H) → Bool := fun _ ds => decide (uptoBulkAll ds ≤ 1048576)
def OpenSpec.upto (s : _root_.Go.ChangeSpec) : _root_.Go.OpenSpec := { _root_.Go.OpenSpec.ofChange s with cond := some uptoSmall }

/-- 'tidewaylaw05.PolicySearches', WHERE WHAT IT READS IS OF BULK AT MOST 1048576: true; the input reads as it did. -/
def policySearchesUptoRow : OpenClaim := { program := "ythnobngcipaljaagreatdoor", sum := "8c6d2b4254de2fdb5128b74a53dec573158be8aeba87fd7760affeba5966d399", func := "tideway/tidewaylaw05.PolicySearches", spec := "policySearches", inPlace := ["internal/abi.NoEscape", "internal/bytealg.MakeNoZero"], unfollowed := true, recurses := true, named := ["tideway/policy.words", "internal/strconv.uint64pow10", "math/bits.deBruijn32tab", "math/bits.deBruijn64tab"], apart := false, laid := [("math/bits.deBruijn32tab", laid_math_bits_deBruijn32tab), ("math/bits.deBruijn64tab", laid_math_bits_deBruijn64tab), ("internal/strconv.uint64pow10", laid_internal_strconv_uint64pow10), ("tideway/policy.words", laid_tideway_policy_words)], narrowed := true }
def PolicySearchesUptoSaid : Prop := policySearchesUptoRow.holds Tryz.pinned (OpenSpec.upto policySearchesSpec)

/-- 'tidewaylaw05.PolicyBest', WHERE WHAT IT READS IS OF BULK AT MOST 1048576: true; the input reads as it did. -/
def policyBestUptoRow : OpenClaim := { program := "ythnobngcipaljaagreatdoor", sum := "8c6d2b4254de2fdb5128b74a53dec573158be8aeba87fd7760affeba5966d399", func := "tideway/tidewaylaw05.PolicyBest", spec := "policyBest", inPlace := ["internal/abi.NoEscape", "internal/bytealg.MakeNoZero"], unfollowed := true, recurses := true, named := ["tideway/policy.words", "internal/strconv.uint64pow10", "math/bits.deBruijn32tab", "math/bits.deBruijn64tab"], apart := false, laid := [("math/bits.deBruijn32tab", laid_math_bits_deBruijn32tab), ("math/bits.deBruijn64tab", laid_math_bits_deBruijn64tab), ("internal/strconv.uint64pow10", laid_internal_strconv_uint64pow10), ("tideway/policy.words", laid_tideway_policy_words)], narrowed := true }
def PolicyBestUptoSaid : Prop := policyBestUptoRow.holds Tryz.pinned (OpenSpec.upto policyBestSpec)

/-- 'tidewaylaw05.PolicyFiner', WHERE WHAT IT READS IS OF BULK AT MOST 1048576: true; the input reads as it did. -/
def policyFinerUptoRow : OpenClaim := { program := "ythnobngcipaljaagreatdoor", sum := "8c6d2b4254de2fdb5128b74a53dec573158be8aeba87fd7760affeba5966d399", func := "tideway/tidewaylaw05.PolicyFiner", spec := "policyFiner", inPlace := ["internal/abi.NoEscape", "internal/bytealg.MakeNoZero"], unfollowed := true, recurses := true, named := ["tideway/policy.words", "internal/strconv.uint64pow10", "math/bits.deBruijn32tab", "math/bits.deBruijn64tab"], apart := false, laid := [("math/bits.deBruijn32tab", laid_math_bits_deBruijn32tab), ("math/bits.deBruijn64tab", laid_math_bits_deBruijn64tab), ("internal/strconv.uint64pow10", laid_internal_strconv_uint64pow10), ("tideway/policy.words", laid_tideway_policy_words)], narrowed := true }
def PolicyFinerUptoSaid : Prop := policyFinerUptoRow.holds Tryz.pinned (OpenSpec.upto policyFinerSpec)

/-- 'tidewaylaw05.PolicySeasons', WHERE WHAT IT READS IS OF BULK AT MOST 1048576: true; the input reads as it did. -/
def policySeasonsUptoRow : OpenClaim := { program := "ythnobngcipaljaagreatdoor", sum := "8c6d2b4254de2fdb5128b74a53dec573158be8aeba87fd7760affeba5966d399", func := "tideway/tidewaylaw05.PolicySeasons", spec := "policySeasons", inPlace := ["internal/abi.NoEscape", "internal/bytealg.MakeNoZero"], unfollowed := true, recurses := true, named := ["tideway/policy.words", "internal/strconv.uint64pow10", "math/bits.deBruijn32tab", "math/bits.deBruijn64tab"], apart := false, laid := [("math/bits.deBruijn32tab", laid_math_bits_deBruijn32tab), ("math/bits.deBruijn64tab", laid_math_bits_deBruijn64tab), ("internal/strconv.uint64pow10", laid_internal_strconv_uint64pow10), ("tideway/policy.words", laid_tideway_policy_words)], narrowed := true }
def PolicySeasonsUptoSaid : Prop := policySeasonsUptoRow.holds Tryz.pinned (OpenSpec.upto policySeasonsSpec)

/-- 'tidewaylaw05.PolicyFollows', WHERE WHAT IT READS IS OF BULK AT MOST 1048576: true; the input reads as it did. -/
def policyFollowsUptoRow : OpenClaim := { program := "ythnobngcipaljaagreatdoor", sum := "8c6d2b4254de2fdb5128b74a53dec573158be8aeba87fd7760affeba5966d399", func := "tideway/tidewaylaw05.PolicyFollows", spec := "policyFollows", inPlace := ["internal/abi.NoEscape", "internal/bytealg.MakeNoZero"], unfollowed := true, recurses := true, named := ["tideway/policy.words", "internal/strconv.uint64pow10", "math/bits.deBruijn32tab", "math/bits.deBruijn64tab"], apart := false, laid := [("math/bits.deBruijn32tab", laid_math_bits_deBruijn32tab), ("math/bits.deBruijn64tab", laid_math_bits_deBruijn64tab), ("internal/strconv.uint64pow10", laid_internal_strconv_uint64pow10), ("tideway/policy.words", laid_tideway_policy_words)], narrowed := true }
def PolicyFollowsUptoSaid : Prop := policyFollowsUptoRow.holds Tryz.pinned (OpenSpec.upto policyFollowsSpec)

/-- 'tidewaylaw05.PolicyPlays', WHERE WHAT IT READS IS OF BULK AT MOST 1048576: true; the input reads as it did. -/
def policyPlaysUptoRow : OpenClaim := { program := "ythnobngcipaljaagreatdoor", sum := "8c6d2b4254de2fdb5128b74a53dec573158be8aeba87fd7760affeba5966d399", func := "tideway/tidewaylaw05.PolicyPlays", spec := "policyPlays", inPlace := ["internal/abi.NoEscape", "internal/bytealg.MakeNoZero"], unfollowed := true, recurses := true, named := ["tideway/policy.words", "internal/strconv.uint64pow10", "math/bits.deBruijn32tab", "math/bits.deBruijn64tab"], apart := false, laid := [("math/bits.deBruijn32tab", laid_math_bits_deBruijn32tab), ("math/bits.deBruijn64tab", laid_math_bits_deBruijn64tab), ("internal/strconv.uint64pow10", laid_internal_strconv_uint64pow10), ("tideway/policy.words", laid_tideway_policy_words)], narrowed := true }
def PolicyPlaysUptoSaid : Prop := policyPlaysUptoRow.holds Tryz.pinned (OpenSpec.upto policyPlaysSpec)

/-- 'tidewaylaw05.PolicyNumbers', WHERE WHAT IT READS IS OF BULK AT MOST 1048576: true; the input reads as it did. -/
def policyNumbersUptoRow : OpenClaim := { program := "ythnobngcipaljaagreatdoor", sum := "8c6d2b4254de2fdb5128b74a53dec573158be8aeba87fd7760affeba5966d399", func := "tideway/tidewaylaw05.PolicyNumbers", spec := "policyNumbers", inPlace := ["internal/abi.NoEscape", "internal/bytealg.MakeNoZero"], unfollowed := true, recurses := true, named := ["tideway/policy.words", "internal/strconv.uint64pow10", "math/bits.deBruijn32tab", "math/bits.deBruijn64tab"], apart := false, laid := [("math/bits.deBruijn32tab", laid_math_bits_deBruijn32tab), ("math/bits.deBruijn64tab", laid_math_bits_deBruijn64tab), ("internal/strconv.uint64pow10", laid_internal_strconv_uint64pow10), ("tideway/policy.words", laid_tideway_policy_words)], narrowed := true }
def PolicyNumbersUptoSaid : Prop := policyNumbersUptoRow.holds Tryz.pinned (OpenSpec.upto policyNumbersSpec)

/-- 'tidewaylaw05.PolicyInformed', WHERE WHAT IT READS IS OF BULK AT MOST 1048576: true; the input reads as it did. -/
def policyInformedUptoRow : OpenClaim := { program := "ythnobngcipaljaagreatdoor", sum := "8c6d2b4254de2fdb5128b74a53dec573158be8aeba87fd7760affeba5966d399", func := "tideway/tidewaylaw05.PolicyInformed", spec := "policyInformed", inPlace := ["internal/abi.NoEscape", "internal/bytealg.MakeNoZero"], unfollowed := true, recurses := true, named := ["tideway/policy.words", "internal/strconv.uint64pow10", "math/bits.deBruijn32tab", "math/bits.deBruijn64tab"], apart := false, laid := [("math/bits.deBruijn32tab", laid_math_bits_deBruijn32tab), ("math/bits.deBruijn64tab", laid_math_bits_deBruijn64tab), ("internal/strconv.uint64pow10", laid_internal_strconv_uint64pow10), ("tideway/policy.words", laid_tideway_policy_words)], narrowed := true }
def PolicyInformedUptoSaid : Prop := policyInformedUptoRow.holds Tryz.pinned (OpenSpec.upto policyInformedSpec)

/-- 'tidewaylaw05.PolicyProofs', WHERE WHAT IT READS IS OF BULK AT MOST 1048576: true; the input reads as it did. -/
def policyProofsUptoRow : OpenClaim := { program := "ythnobngcipaljaagreatdoor", sum := "8c6d2b4254de2fdb5128b74a53dec573158be8aeba87fd7760affeba5966d399", func := "tideway/tidewaylaw05.PolicyProofs", spec := "policyProofs", inPlace := ["internal/abi.NoEscape", "internal/bytealg.MakeNoZero"], unfollowed := true, recurses := true, named := ["tideway/policy.words", "internal/strconv.uint64pow10", "math/bits.deBruijn32tab", "math/bits.deBruijn64tab"], apart := false, laid := [("math/bits.deBruijn32tab", laid_math_bits_deBruijn32tab), ("math/bits.deBruijn64tab", laid_math_bits_deBruijn64tab), ("internal/strconv.uint64pow10", laid_internal_strconv_uint64pow10), ("tideway/policy.words", laid_tideway_policy_words)], narrowed := true }
def PolicyProofsUptoSaid : Prop := policyProofsUptoRow.holds Tryz.pinned (OpenSpec.upto policyProofsSpec)

/-- 'tidewaylaw05.PolicyCertifies', WHERE WHAT IT READS IS OF BULK AT MOST 1048576: true; the input reads as it did. -/
def policyCertifiesUptoRow : OpenClaim := { program := "ythnobngcipaljaagreatdoor", sum := "8c6d2b4254de2fdb5128b74a53dec573158be8aeba87fd7760affeba5966d399", func := "tideway/tidewaylaw05.PolicyCertifies", spec := "policyCertifies", inPlace := ["internal/abi.NoEscape", "internal/bytealg.MakeNoZero"], unfollowed := true, recurses := true, named := ["tideway/policy.words", "internal/strconv.uint64pow10", "math/bits.deBruijn32tab", "math/bits.deBruijn64tab"], apart := false, laid := [("math/bits.deBruijn32tab", laid_math_bits_deBruijn32tab), ("math/bits.deBruijn64tab", laid_math_bits_deBruijn64tab), ("internal/strconv.uint64pow10", laid_internal_strconv_uint64pow10), ("tideway/policy.words", laid_tideway_policy_words)], narrowed := true }
def PolicyCertifiesUptoSaid : Prop := policyCertifiesUptoRow.holds Tryz.pinned (OpenSpec.upto policyCertifiesSpec)

/-- 'tidewaylaw05.PolicyTexts', WHERE WHAT IT READS IS OF BULK AT MOST 1048576: true; the input reads as it did. -/
def policyTextsUptoRow : OpenClaim := { program := "ythnobngcipaljaagreatdoor", sum := "8c6d2b4254de2fdb5128b74a53dec573158be8aeba87fd7760affeba5966d399", func := "tideway/tidewaylaw05.PolicyTexts", spec := "policyTexts", inPlace := ["internal/abi.NoEscape", "internal/bytealg.MakeNoZero", "internal/bytealg.IndexByteString", "internal/bytealg.IndexString", "internal/bytealg.CountString"], unfollowed := true, recurses := true, named := ["tideway/policy.words", "internal/strconv.uint64pow10", "math/bits.deBruijn32tab", "math/bits.deBruijn64tab", "internal/bytealg.MaxLen", "unicode/utf8.first", "unicode/utf8.acceptRanges"], apart := false, laid := [("math/bits.deBruijn32tab", laid_math_bits_deBruijn32tab), ("math/bits.deBruijn64tab", laid_math_bits_deBruijn64tab), ("internal/strconv.uint64pow10", laid_internal_strconv_uint64pow10), ("unicode/utf8.acceptRanges", laid_unicode_utf8_acceptRanges), ("tideway/policy.words", laid_tideway_policy_words), ("unicode/utf8.first", laid_unicode_utf8_first)], narrowed := true }
def PolicyTextsUptoSaid : Prop := policyTextsUptoRow.holds Tryz.pinned (OpenSpec.upto policyTextsSpec)

/-- 'tidewaylaw05.PolicyReads', WHERE WHAT IT READS IS OF BULK AT MOST 1048576: true; the input reads as it did. -/
def policyReadsUptoRow : OpenClaim := { program := "ythnobngcipaljaagreatdoor", sum := "8c6d2b4254de2fdb5128b74a53dec573158be8aeba87fd7760affeba5966d399", func := "tideway/tidewaylaw05.PolicyReads", spec := "policyReads", inPlace := ["internal/abi.NoEscape", "internal/bytealg.MakeNoZero", "internal/bytealg.IndexByteString", "internal/bytealg.IndexString", "internal/bytealg.CountString"], unfollowed := true, recurses := true, named := ["tideway/policy.words", "internal/strconv.uint64pow10", "math/bits.deBruijn32tab", "math/bits.deBruijn64tab", "internal/bytealg.MaxLen", "unicode/utf8.first", "unicode/utf8.acceptRanges"], apart := false, laid := [("math/bits.deBruijn32tab", laid_math_bits_deBruijn32tab), ("math/bits.deBruijn64tab", laid_math_bits_deBruijn64tab), ("internal/strconv.uint64pow10", laid_internal_strconv_uint64pow10), ("unicode/utf8.acceptRanges", laid_unicode_utf8_acceptRanges), ("tideway/policy.words", laid_tideway_policy_words), ("unicode/utf8.first", laid_unicode_utf8_first)], narrowed := true }
def PolicyReadsUptoSaid : Prop := policyReadsUptoRow.holds Tryz.pinned (OpenSpec.upto policyReadsSpec)

end Rows
end Go.Proofs.YthnobngcipaljaaGreatDoor
