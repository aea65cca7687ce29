/-
  NARROWER THAN 'FOR EVERY INPUT', by the rows' own cells (each row's printed sentence says how): NamingViews: loops, laid · NamingPaths: loops, laid · NamingAgain: loops, laid · NamingInverse: loops, laid · NamingUnique: loops, laid · NamingStable: loops, laid · RelocationPlans: loops, laid · RelocationNames: loops, laid · RelocationLevels: loops, laid · RelocationPlain: loops, laid · RelocationUnique: loops, laid · RelocationShows: loops, laid.
  DERIVED. THE GIVEN ROWS OF THIS SEAT. 12 by the template 'for every input the law returns true; each argument reads behind the call as it read before'; 0 by the template 'total and deterministic' (their statements: YtpkeldhgfdeebaaGreatDoorTotals.lean).
  GIVEN WITH THE SEED: the statements are not yours to turn. If you find one false, say at which input.
  Laid BY PROGRAM, IN A SANDBOX (cutbox-rows.mjs): the forced cells as the released guide's own fill.sh prints them over the translation be6bb372f3587ae3… (all of the seat's roots in one cut). By AI agents, Wed Nov 11 2026. No macro, syntax, notation, axiom, sorry.
-/
import Derived.Test.YtpkeldhgfdeebaaGreatDoorChecked
import GoSem.PinnedTables
import GoSem.Claim
import GoSem.ClaimJoined
import GoSem.ClaimMapViews
import Derived.JoinedTies
import Derived.KernelRfl
namespace Go.Proofs.YtpkeldhgfdeebaaGreatDoor
/- THE CELL 'sum', in the pinned program and in every row, IS THE sha256 OF THE DUMP (.gsa) THAT YtpkeldhgfdeebaaGreatDoorProg.lean LOADS. Nothing in Lean hashes anything: it is a label: what it is worth is what the hold of that sum in a sandbox is worth. -/
noncomputable def Tryz.pinned : Pinned := { name := "ytpkeldhgfdeebaagreatdoor", sum := "be6bb372f3587ae339dfc843a5cd865d6e5811997c33d4e2dfe38b1bda5171fb", checked := Tryz.checked }
namespace Rows
def none {H : Type} : Left H := { results := [], args := [] }

/- WHAT THE LISTED PACKAGE-LEVEL VARIABLES READ AS WHEN THE CALL BEGINS. Each datum BY PROGRAM (the guide's laid-datum.mjs) off the statement by which the dump's own 'gosem.cut.vars' lays the variable. In a bare row this is a premise. The card (YtpkeldhgfdeebaaGreatDoorCards.lean) ties it to the program's text. -/
def laid_math_bits_deBruijn32tab {H : Type} : DataW H := .agg [.lit (.int .u8 0), .lit (.int .u8 1), .lit (.int .u8 28), .lit (.int .u8 2), .lit (.int .u8 29), .lit (.int .u8 14), .lit (.int .u8 24), .lit (.int .u8 3), .lit (.int .u8 30), .lit (.int .u8 22), .lit (.int .u8 20), .lit (.int .u8 15), .lit (.int .u8 25), .lit (.int .u8 17), .lit (.int .u8 4), .lit (.int .u8 8), .lit (.int .u8 31), .lit (.int .u8 27), .lit (.int .u8 13), .lit (.int .u8 23), .lit (.int .u8 21), .lit (.int .u8 19), .lit (.int .u8 16), .lit (.int .u8 7), .lit (.int .u8 26), .lit (.int .u8 12), .lit (.int .u8 18), .lit (.int .u8 6), .lit (.int .u8 11), .lit (.int .u8 5), .lit (.int .u8 10), .lit (.int .u8 9)]
def laid_math_bits_deBruijn64tab {H : Type} : DataW H := .agg [.lit (.int .u8 0), .lit (.int .u8 1), .lit (.int .u8 56), .lit (.int .u8 2), .lit (.int .u8 57), .lit (.int .u8 49), .lit (.int .u8 28), .lit (.int .u8 3), .lit (.int .u8 61), .lit (.int .u8 58), .lit (.int .u8 42), .lit (.int .u8 50), .lit (.int .u8 38), .lit (.int .u8 29), .lit (.int .u8 17), .lit (.int .u8 4), .lit (.int .u8 62), .lit (.int .u8 47), .lit (.int .u8 59), .lit (.int .u8 36), .lit (.int .u8 45), .lit (.int .u8 43), .lit (.int .u8 51), .lit (.int .u8 22), .lit (.int .u8 53), .lit (.int .u8 39), .lit (.int .u8 33), .lit (.int .u8 30), .lit (.int .u8 24), .lit (.int .u8 18), .lit (.int .u8 12), .lit (.int .u8 5), .lit (.int .u8 63), .lit (.int .u8 55), .lit (.int .u8 48), .lit (.int .u8 27), .lit (.int .u8 60), .lit (.int .u8 41), .lit (.int .u8 37), .lit (.int .u8 16), .lit (.int .u8 46), .lit (.int .u8 35), .lit (.int .u8 44), .lit (.int .u8 21), .lit (.int .u8 52), .lit (.int .u8 32), .lit (.int .u8 23), .lit (.int .u8 11), .lit (.int .u8 54), .lit (.int .u8 26), .lit (.int .u8 40), .lit (.int .u8 15), .lit (.int .u8 34), .lit (.int .u8 20), .lit (.int .u8 31), .lit (.int .u8 10), .lit (.int .u8 25), .lit (.int .u8 14), .lit (.int .u8 19), .lit (.int .u8 9), .lit (.int .u8 13), .lit (.int .u8 8), .lit (.int .u8 7), .lit (.int .u8 6)]
def laid_internal_strconv_uint64pow10 {H : Type} : DataW H := .agg [.lit (.int .u64 1), .lit (.int .u64 10), .lit (.int .u64 100), .lit (.int .u64 1000), .lit (.int .u64 10000), .lit (.int .u64 100000), .lit (.int .u64 1000000), .lit (.int .u64 10000000), .lit (.int .u64 100000000), .lit (.int .u64 1000000000), .lit (.int .u64 10000000000), .lit (.int .u64 100000000000), .lit (.int .u64 1000000000000), .lit (.int .u64 10000000000000), .lit (.int .u64 100000000000000), .lit (.int .u64 1000000000000000), .lit (.int .u64 10000000000000000), .lit (.int .u64 100000000000000000), .lit (.int .u64 1000000000000000000), .lit (.int .u64 10000000000000000000)]
def laid_unicode_utf8_acceptRanges {H : Type} : DataW H := .agg [.agg [.lit (.int .u8 128), .lit (.int .u8 191)], .agg [.lit (.int .u8 160), .lit (.int .u8 191)], .agg [.lit (.int .u8 128), .lit (.int .u8 159)], .agg [.lit (.int .u8 144), .lit (.int .u8 191)], .agg [.lit (.int .u8 128), .lit (.int .u8 143)], .agg [.lit (.int .u8 0), .lit (.int .u8 0)], .agg [.lit (.int .u8 0), .lit (.int .u8 0)], .agg [.lit (.int .u8 0), .lit (.int .u8 0)], .agg [.lit (.int .u8 0), .lit (.int .u8 0)], .agg [.lit (.int .u8 0), .lit (.int .u8 0)], .agg [.lit (.int .u8 0), .lit (.int .u8 0)], .agg [.lit (.int .u8 0), .lit (.int .u8 0)], .agg [.lit (.int .u8 0), .lit (.int .u8 0)], .agg [.lit (.int .u8 0), .lit (.int .u8 0)], .agg [.lit (.int .u8 0), .lit (.int .u8 0)], .agg [.lit (.int .u8 0), .lit (.int .u8 0)]]
/-- One of Go's own tables, pinned by name: the form's constant. -/
def laid_unicode_utf8_first : DataW Unit := Go.Pinned.utf8First

/-- 'masterdisclaw19.NamingViews': WHATEVER THE INPUT: true; the input reads as it did. -/
def namingViewsSpec : ChangeSpec := { name := "namingViews", fn := fun _ => fun
  | [d1, d2] => { results := [.lit (.bool true)], args := [d1, d2] }
  | _ => none }
def namingViewsRow : OpenClaim := { program := "ytpkeldhgfdeebaagreatdoor", sum := "be6bb372f3587ae339dfc843a5cd865d6e5811997c33d4e2dfe38b1bda5171fb", func := "masterdisc/masterdisclaw19.NamingViews", spec := "namingViews", inPlace := ["internal/bytealg.IndexByteString", "internal/bytealg.IndexString", "internal/bytealg.abigen_runtime_cmpstring", "internal/bytealg.CountString"], unfollowed := true, recurses := true, named := ["internal/bytealg.MaxLen", "unicode/utf8.first", "unicode/utf8.acceptRanges", "internal/strconv.uint64pow10", "math/bits.deBruijn32tab", "math/bits.deBruijn64tab"], loops := true, apart := false, laid := [("math/bits.deBruijn32tab", laid_math_bits_deBruijn32tab), ("math/bits.deBruijn64tab", laid_math_bits_deBruijn64tab), ("internal/strconv.uint64pow10", laid_internal_strconv_uint64pow10), ("unicode/utf8.acceptRanges", laid_unicode_utf8_acceptRanges), ("unicode/utf8.first", laid_unicode_utf8_first)] }
def NamingViewsSaid : Prop := namingViewsRow.holds Tryz.pinned (OpenSpec.ofChange namingViewsSpec)

/-- ITS FALSE NEIGHBOUR: 'it returns false'. Refute it at one input. -/
def namingViewsWrong : ChangeSpec := { name := "namingViews", fn := fun _ => fun
  | [d1, d2] => { results := [.lit (.bool false)], args := [d1, d2] }
  | _ => none }
def NamingViewsWrongFalsely : Prop := namingViewsRow.holds Tryz.pinned (OpenSpec.ofChange namingViewsWrong)

/-- 'masterdisclaw19.NamingPaths': WHATEVER THE INPUT: true; the input reads as it did. -/
def namingPathsSpec : ChangeSpec := { name := "namingPaths", fn := fun _ => fun
  | [d1, d2, d3, d4] => { results := [.lit (.bool true)], args := [d1, d2, d3, d4] }
  | _ => none }
def namingPathsRow : OpenClaim := { program := "ytpkeldhgfdeebaagreatdoor", sum := "be6bb372f3587ae339dfc843a5cd865d6e5811997c33d4e2dfe38b1bda5171fb", func := "masterdisc/masterdisclaw19.NamingPaths", spec := "namingPaths", inPlace := ["internal/bytealg.IndexByteString", "internal/bytealg.IndexString", "internal/bytealg.abigen_runtime_cmpstring", "internal/bytealg.CountString"], unfollowed := true, recurses := true, named := ["internal/bytealg.MaxLen", "unicode/utf8.first", "unicode/utf8.acceptRanges", "internal/strconv.uint64pow10", "math/bits.deBruijn32tab", "math/bits.deBruijn64tab"], loops := true, apart := false, laid := [("math/bits.deBruijn32tab", laid_math_bits_deBruijn32tab), ("math/bits.deBruijn64tab", laid_math_bits_deBruijn64tab), ("internal/strconv.uint64pow10", laid_internal_strconv_uint64pow10), ("unicode/utf8.acceptRanges", laid_unicode_utf8_acceptRanges), ("unicode/utf8.first", laid_unicode_utf8_first)] }
def NamingPathsSaid : Prop := namingPathsRow.holds Tryz.pinned (OpenSpec.ofChange namingPathsSpec)

/-- ITS FALSE NEIGHBOUR: 'it returns false'. Refute it at one input. -/
def namingPathsWrong : ChangeSpec := { name := "namingPaths", fn := fun _ => fun
  | [d1, d2, d3, d4] => { results := [.lit (.bool false)], args := [d1, d2, d3, d4] }
  | _ => none }
def NamingPathsWrongFalsely : Prop := namingPathsRow.holds Tryz.pinned (OpenSpec.ofChange namingPathsWrong)

/-- 'masterdisclaw19.NamingAgain': WHATEVER THE INPUT: true; the input reads as it did. -/
def namingAgainSpec : ChangeSpec := { name := "namingAgain", fn := fun _ => fun
  | [d1, d2] => { results := [.lit (.bool true)], args := [d1, d2] }
  | _ => none }
def namingAgainRow : OpenClaim := { program := "ytpkeldhgfdeebaagreatdoor", sum := "be6bb372f3587ae339dfc843a5cd865d6e5811997c33d4e2dfe38b1bda5171fb", func := "masterdisc/masterdisclaw19.NamingAgain", spec := "namingAgain", inPlace := ["internal/bytealg.IndexByteString", "internal/bytealg.IndexString", "internal/bytealg.abigen_runtime_cmpstring", "internal/bytealg.CountString"], unfollowed := true, recurses := true, named := ["internal/bytealg.MaxLen", "unicode/utf8.first", "unicode/utf8.acceptRanges", "internal/strconv.uint64pow10", "math/bits.deBruijn32tab", "math/bits.deBruijn64tab"], loops := true, apart := false, laid := [("math/bits.deBruijn32tab", laid_math_bits_deBruijn32tab), ("math/bits.deBruijn64tab", laid_math_bits_deBruijn64tab), ("internal/strconv.uint64pow10", laid_internal_strconv_uint64pow10), ("unicode/utf8.acceptRanges", laid_unicode_utf8_acceptRanges), ("unicode/utf8.first", laid_unicode_utf8_first)] }
def NamingAgainSaid : Prop := namingAgainRow.holds Tryz.pinned (OpenSpec.ofChange namingAgainSpec)

/-- ITS FALSE NEIGHBOUR: 'it returns false'. Refute it at one input. -/
def namingAgainWrong : ChangeSpec := { name := "namingAgain", fn := fun _ => fun
  | [d1, d2] => { results := [.lit (.bool false)], args := [d1, d2] }
  | _ => none }
def NamingAgainWrongFalsely : Prop := namingAgainRow.holds Tryz.pinned (OpenSpec.ofChange namingAgainWrong)

/-- 'masterdisclaw19.NamingInverse': WHATEVER THE INPUT: true; the input reads as it did. -/
def namingInverseSpec : ChangeSpec := { name := "namingInverse", fn := fun _ => fun
  | [d1, d2] => { results := [.lit (.bool true)], args := [d1, d2] }
  | _ => none }
def namingInverseRow : OpenClaim := { program := "ytpkeldhgfdeebaagreatdoor", sum := "be6bb372f3587ae339dfc843a5cd865d6e5811997c33d4e2dfe38b1bda5171fb", func := "masterdisc/masterdisclaw19.NamingInverse", spec := "namingInverse", inPlace := ["internal/bytealg.IndexByteString", "internal/bytealg.IndexString", "internal/bytealg.abigen_runtime_cmpstring", "internal/bytealg.CountString"], unfollowed := true, recurses := true, named := ["internal/bytealg.MaxLen", "unicode/utf8.first", "unicode/utf8.acceptRanges", "internal/strconv.uint64pow10", "math/bits.deBruijn32tab", "math/bits.deBruijn64tab"], loops := true, apart := false, laid := [("math/bits.deBruijn32tab", laid_math_bits_deBruijn32tab), ("math/bits.deBruijn64tab", laid_math_bits_deBruijn64tab), ("internal/strconv.uint64pow10", laid_internal_strconv_uint64pow10), ("unicode/utf8.acceptRanges", laid_unicode_utf8_acceptRanges), ("unicode/utf8.first", laid_unicode_utf8_first)] }
def NamingInverseSaid : Prop := namingInverseRow.holds Tryz.pinned (OpenSpec.ofChange namingInverseSpec)

/-- ITS FALSE NEIGHBOUR: 'it returns false'. Refute it at one input. -/
def namingInverseWrong : ChangeSpec := { name := "namingInverse", fn := fun _ => fun
  | [d1, d2] => { results := [.lit (.bool false)], args := [d1, d2] }
  | _ => none }
def NamingInverseWrongFalsely : Prop := namingInverseRow.holds Tryz.pinned (OpenSpec.ofChange namingInverseWrong)

/-- 'masterdisclaw19.NamingUnique': WHATEVER THE INPUT: true; the input reads as it did. -/
def namingUniqueSpec : ChangeSpec := { name := "namingUnique", fn := fun _ => fun
  | [d1, d2, d3] => { results := [.lit (.bool true)], args := [d1, d2, d3] }
  | _ => none }
def namingUniqueRow : OpenClaim := { program := "ytpkeldhgfdeebaagreatdoor", sum := "be6bb372f3587ae339dfc843a5cd865d6e5811997c33d4e2dfe38b1bda5171fb", func := "masterdisc/masterdisclaw19.NamingUnique", spec := "namingUnique", inPlace := ["internal/bytealg.IndexByteString", "internal/bytealg.IndexString", "internal/bytealg.abigen_runtime_cmpstring", "internal/bytealg.CountString"], unfollowed := true, recurses := true, named := ["internal/bytealg.MaxLen", "unicode/utf8.first", "unicode/utf8.acceptRanges", "internal/strconv.uint64pow10", "math/bits.deBruijn32tab", "math/bits.deBruijn64tab"], loops := true, apart := false, laid := [("math/bits.deBruijn32tab", laid_math_bits_deBruijn32tab), ("math/bits.deBruijn64tab", laid_math_bits_deBruijn64tab), ("internal/strconv.uint64pow10", laid_internal_strconv_uint64pow10), ("unicode/utf8.acceptRanges", laid_unicode_utf8_acceptRanges), ("unicode/utf8.first", laid_unicode_utf8_first)] }
def NamingUniqueSaid : Prop := namingUniqueRow.holds Tryz.pinned (OpenSpec.ofChange namingUniqueSpec)

/-- ITS FALSE NEIGHBOUR: 'it returns false'. Refute it at one input. -/
def namingUniqueWrong : ChangeSpec := { name := "namingUnique", fn := fun _ => fun
  | [d1, d2, d3] => { results := [.lit (.bool false)], args := [d1, d2, d3] }
  | _ => none }
def NamingUniqueWrongFalsely : Prop := namingUniqueRow.holds Tryz.pinned (OpenSpec.ofChange namingUniqueWrong)

/-- 'masterdisclaw19.NamingStable': WHATEVER THE INPUT: true; the input reads as it did. -/
def namingStableSpec : ChangeSpec := { name := "namingStable", fn := fun _ => fun
  | [d1, d2] => { results := [.lit (.bool true)], args := [d1, d2] }
  | _ => none }
def namingStableRow : OpenClaim := { program := "ytpkeldhgfdeebaagreatdoor", sum := "be6bb372f3587ae339dfc843a5cd865d6e5811997c33d4e2dfe38b1bda5171fb", func := "masterdisc/masterdisclaw19.NamingStable", spec := "namingStable", inPlace := ["internal/bytealg.IndexByteString", "internal/bytealg.IndexString", "internal/bytealg.abigen_runtime_cmpstring", "internal/bytealg.CountString"], unfollowed := true, recurses := true, named := ["internal/bytealg.MaxLen", "unicode/utf8.first", "unicode/utf8.acceptRanges", "internal/strconv.uint64pow10", "math/bits.deBruijn32tab", "math/bits.deBruijn64tab"], loops := true, apart := false, laid := [("math/bits.deBruijn32tab", laid_math_bits_deBruijn32tab), ("math/bits.deBruijn64tab", laid_math_bits_deBruijn64tab), ("internal/strconv.uint64pow10", laid_internal_strconv_uint64pow10), ("unicode/utf8.acceptRanges", laid_unicode_utf8_acceptRanges), ("unicode/utf8.first", laid_unicode_utf8_first)] }
def NamingStableSaid : Prop := namingStableRow.holds Tryz.pinned (OpenSpec.ofChange namingStableSpec)

/-- ITS FALSE NEIGHBOUR: 'it returns false'. Refute it at one input. -/
def namingStableWrong : ChangeSpec := { name := "namingStable", fn := fun _ => fun
  | [d1, d2] => { results := [.lit (.bool false)], args := [d1, d2] }
  | _ => none }
def NamingStableWrongFalsely : Prop := namingStableRow.holds Tryz.pinned (OpenSpec.ofChange namingStableWrong)

/-- 'masterdisclaw26.RelocationPlans': WHATEVER THE INPUT: true; the input reads as it did. -/
def relocationPlansSpec : ChangeSpec := { name := "relocationPlans", fn := fun _ => fun
  | [d1, d2] => { results := [.lit (.bool true)], args := [d1, d2] }
  | _ => none }
def relocationPlansRow : OpenClaim := { program := "ytpkeldhgfdeebaagreatdoor", sum := "be6bb372f3587ae339dfc843a5cd865d6e5811997c33d4e2dfe38b1bda5171fb", func := "masterdisc/masterdisclaw26.RelocationPlans", spec := "relocationPlans", inPlace := ["internal/bytealg.IndexByteString", "internal/bytealg.IndexString", "internal/bytealg.CountString", "internal/bytealg.abigen_runtime_cmpstring"], unfollowed := true, recurses := true, named := ["internal/bytealg.MaxLen", "unicode/utf8.first", "unicode/utf8.acceptRanges", "internal/strconv.uint64pow10", "math/bits.deBruijn32tab", "math/bits.deBruijn64tab"], loops := true, apart := false, laid := [("math/bits.deBruijn32tab", laid_math_bits_deBruijn32tab), ("math/bits.deBruijn64tab", laid_math_bits_deBruijn64tab), ("internal/strconv.uint64pow10", laid_internal_strconv_uint64pow10), ("unicode/utf8.acceptRanges", laid_unicode_utf8_acceptRanges), ("unicode/utf8.first", laid_unicode_utf8_first)] }
def RelocationPlansSaid : Prop := relocationPlansRow.holds Tryz.pinned (OpenSpec.ofChange relocationPlansSpec)

/-- ITS FALSE NEIGHBOUR: 'it returns false'. Refute it at one input. -/
def relocationPlansWrong : ChangeSpec := { name := "relocationPlans", fn := fun _ => fun
  | [d1, d2] => { results := [.lit (.bool false)], args := [d1, d2] }
  | _ => none }
def RelocationPlansWrongFalsely : Prop := relocationPlansRow.holds Tryz.pinned (OpenSpec.ofChange relocationPlansWrong)

/-- 'masterdisclaw26.RelocationNames': WHATEVER THE INPUT: true; the input reads as it did. -/
def relocationNamesSpec : ChangeSpec := { name := "relocationNames", fn := fun _ => fun
  | [d1, d2, d3, d4] => { results := [.lit (.bool true)], args := [d1, d2, d3, d4] }
  | _ => none }
def relocationNamesRow : OpenClaim := { program := "ytpkeldhgfdeebaagreatdoor", sum := "be6bb372f3587ae339dfc843a5cd865d6e5811997c33d4e2dfe38b1bda5171fb", func := "masterdisc/masterdisclaw26.RelocationNames", spec := "relocationNames", inPlace := ["internal/bytealg.IndexByteString", "internal/bytealg.IndexString", "internal/bytealg.CountString", "internal/bytealg.abigen_runtime_cmpstring"], unfollowed := true, recurses := true, named := ["internal/bytealg.MaxLen", "unicode/utf8.first", "unicode/utf8.acceptRanges", "internal/strconv.uint64pow10", "math/bits.deBruijn32tab", "math/bits.deBruijn64tab"], loops := true, apart := false, laid := [("math/bits.deBruijn32tab", laid_math_bits_deBruijn32tab), ("math/bits.deBruijn64tab", laid_math_bits_deBruijn64tab), ("internal/strconv.uint64pow10", laid_internal_strconv_uint64pow10), ("unicode/utf8.acceptRanges", laid_unicode_utf8_acceptRanges), ("unicode/utf8.first", laid_unicode_utf8_first)] }
def RelocationNamesSaid : Prop := relocationNamesRow.holds Tryz.pinned (OpenSpec.ofChange relocationNamesSpec)

/-- ITS FALSE NEIGHBOUR: 'it returns false'. Refute it at one input. -/
def relocationNamesWrong : ChangeSpec := { name := "relocationNames", fn := fun _ => fun
  | [d1, d2, d3, d4] => { results := [.lit (.bool false)], args := [d1, d2, d3, d4] }
  | _ => none }
def RelocationNamesWrongFalsely : Prop := relocationNamesRow.holds Tryz.pinned (OpenSpec.ofChange relocationNamesWrong)

/-- 'masterdisclaw26.RelocationLevels': WHATEVER THE INPUT: true; the input reads as it did. -/
def relocationLevelsSpec : ChangeSpec := { name := "relocationLevels", fn := fun _ => fun
  | [d1, d2] => { results := [.lit (.bool true)], args := [d1, d2] }
  | _ => none }
def relocationLevelsRow : OpenClaim := { program := "ytpkeldhgfdeebaagreatdoor", sum := "be6bb372f3587ae339dfc843a5cd865d6e5811997c33d4e2dfe38b1bda5171fb", func := "masterdisc/masterdisclaw26.RelocationLevels", spec := "relocationLevels", inPlace := ["internal/bytealg.IndexByteString", "internal/bytealg.IndexString", "internal/bytealg.CountString", "internal/bytealg.abigen_runtime_cmpstring"], unfollowed := true, recurses := true, named := ["internal/bytealg.MaxLen", "unicode/utf8.first", "unicode/utf8.acceptRanges", "internal/strconv.uint64pow10", "math/bits.deBruijn32tab", "math/bits.deBruijn64tab"], loops := true, apart := false, laid := [("math/bits.deBruijn32tab", laid_math_bits_deBruijn32tab), ("math/bits.deBruijn64tab", laid_math_bits_deBruijn64tab), ("internal/strconv.uint64pow10", laid_internal_strconv_uint64pow10), ("unicode/utf8.acceptRanges", laid_unicode_utf8_acceptRanges), ("unicode/utf8.first", laid_unicode_utf8_first)] }
def RelocationLevelsSaid : Prop := relocationLevelsRow.holds Tryz.pinned (OpenSpec.ofChange relocationLevelsSpec)

/-- ITS FALSE NEIGHBOUR: 'it returns false'. Refute it at one input. -/
def relocationLevelsWrong : ChangeSpec := { name := "relocationLevels", fn := fun _ => fun
  | [d1, d2] => { results := [.lit (.bool false)], args := [d1, d2] }
  | _ => none }
def RelocationLevelsWrongFalsely : Prop := relocationLevelsRow.holds Tryz.pinned (OpenSpec.ofChange relocationLevelsWrong)

/-- 'masterdisclaw26.RelocationPlain': WHATEVER THE INPUT: true; the input reads as it did. -/
def relocationPlainSpec : ChangeSpec := { name := "relocationPlain", fn := fun _ => fun
  | [d] => { results := [.lit (.bool true)], args := [d] }
  | _ => none }
def relocationPlainRow : OpenClaim := { program := "ytpkeldhgfdeebaagreatdoor", sum := "be6bb372f3587ae339dfc843a5cd865d6e5811997c33d4e2dfe38b1bda5171fb", func := "masterdisc/masterdisclaw26.RelocationPlain", spec := "relocationPlain", inPlace := ["internal/bytealg.IndexByteString", "internal/bytealg.IndexString", "internal/bytealg.CountString", "internal/bytealg.abigen_runtime_cmpstring"], unfollowed := true, recurses := true, named := ["internal/bytealg.MaxLen", "unicode/utf8.first", "unicode/utf8.acceptRanges", "internal/strconv.uint64pow10", "math/bits.deBruijn32tab", "math/bits.deBruijn64tab"], loops := true, apart := false, laid := [("math/bits.deBruijn32tab", laid_math_bits_deBruijn32tab), ("math/bits.deBruijn64tab", laid_math_bits_deBruijn64tab), ("internal/strconv.uint64pow10", laid_internal_strconv_uint64pow10), ("unicode/utf8.acceptRanges", laid_unicode_utf8_acceptRanges), ("unicode/utf8.first", laid_unicode_utf8_first)] }
def RelocationPlainSaid : Prop := relocationPlainRow.holds Tryz.pinned (OpenSpec.ofChange relocationPlainSpec)

/-- ITS FALSE NEIGHBOUR: 'it returns false'. Refute it at one input. -/
def relocationPlainWrong : ChangeSpec := { name := "relocationPlain", fn := fun _ => fun
  | [d] => { results := [.lit (.bool false)], args := [d] }
  | _ => none }
def RelocationPlainWrongFalsely : Prop := relocationPlainRow.holds Tryz.pinned (OpenSpec.ofChange relocationPlainWrong)

/-- 'masterdisclaw26.RelocationUnique': WHATEVER THE INPUT: true; the input reads as it did. -/
def relocationUniqueSpec : ChangeSpec := { name := "relocationUnique", fn := fun _ => fun
  | [d1, d2] => { results := [.lit (.bool true)], args := [d1, d2] }
  | _ => none }
def relocationUniqueRow : OpenClaim := { program := "ytpkeldhgfdeebaagreatdoor", sum := "be6bb372f3587ae339dfc843a5cd865d6e5811997c33d4e2dfe38b1bda5171fb", func := "masterdisc/masterdisclaw26.RelocationUnique", spec := "relocationUnique", inPlace := ["internal/bytealg.IndexByteString", "internal/bytealg.IndexString", "internal/bytealg.CountString", "internal/bytealg.abigen_runtime_cmpstring"], unfollowed := true, recurses := true, named := ["internal/bytealg.MaxLen", "unicode/utf8.first", "unicode/utf8.acceptRanges", "internal/strconv.uint64pow10", "math/bits.deBruijn32tab", "math/bits.deBruijn64tab"], loops := true, apart := false, laid := [("math/bits.deBruijn32tab", laid_math_bits_deBruijn32tab), ("math/bits.deBruijn64tab", laid_math_bits_deBruijn64tab), ("internal/strconv.uint64pow10", laid_internal_strconv_uint64pow10), ("unicode/utf8.acceptRanges", laid_unicode_utf8_acceptRanges), ("unicode/utf8.first", laid_unicode_utf8_first)] }
def RelocationUniqueSaid : Prop := relocationUniqueRow.holds Tryz.pinned (OpenSpec.ofChange relocationUniqueSpec)

/-- ITS FALSE NEIGHBOUR: 'it returns false'. Refute it at one input. -/
def relocationUniqueWrong : ChangeSpec := { name := "relocationUnique", fn := fun _ => fun
  | [d1, d2] => { results := [.lit (.bool false)], args := [d1, d2] }
  | _ => none }
def RelocationUniqueWrongFalsely : Prop := relocationUniqueRow.holds Tryz.pinned (OpenSpec.ofChange relocationUniqueWrong)

/-- 'masterdisclaw26.RelocationShows': WHATEVER THE INPUT: true; the input reads as it did. -/
def relocationShowsSpec : ChangeSpec := { name := "relocationShows", fn := fun _ => fun
  | [d1, d2] => { results := [.lit (.bool true)], args := [d1, d2] }
  | _ => none }
def relocationShowsRow : OpenClaim := { program := "ytpkeldhgfdeebaagreatdoor", sum := "be6bb372f3587ae339dfc843a5cd865d6e5811997c33d4e2dfe38b1bda5171fb", func := "masterdisc/masterdisclaw26.RelocationShows", spec := "relocationShows", inPlace := ["internal/bytealg.IndexByteString", "internal/bytealg.IndexString", "internal/bytealg.CountString", "internal/bytealg.abigen_runtime_cmpstring"], unfollowed := true, recurses := true, named := ["internal/bytealg.MaxLen", "unicode/utf8.first", "unicode/utf8.acceptRanges", "internal/strconv.uint64pow10", "math/bits.deBruijn32tab", "math/bits.deBruijn64tab"], loops := true, apart := false, laid := [("math/bits.deBruijn32tab", laid_math_bits_deBruijn32tab), ("math/bits.deBruijn64tab", laid_math_bits_deBruijn64tab), ("internal/strconv.uint64pow10", laid_internal_strconv_uint64pow10), ("unicode/utf8.acceptRanges", laid_unicode_utf8_acceptRanges), ("unicode/utf8.first", laid_unicode_utf8_first)] }
def RelocationShowsSaid : Prop := relocationShowsRow.holds Tryz.pinned (OpenSpec.ofChange relocationShowsSpec)

/-- ITS FALSE NEIGHBOUR: 'it returns false'. Refute it at one input. -/
def relocationShowsWrong : ChangeSpec := { name := "relocationShows", fn := fun _ => fun
  | [d1, d2] => { results := [.lit (.bool false)], args := [d1, d2] }
  | _ => none }
def RelocationShowsWrongFalsely : Prop := relocationShowsRow.holds Tryz.pinned (OpenSpec.ofChange relocationShowsWrong)

/- THE SECOND FORM. 'bulk': how many values and letters a reading holds, each counted each time it is reached (what is shared counts as often as it is met; a slice's spare places count too). A statement '..UptoSaid' is the law's where the arguments, and the package variables that the reading takes, are together of bulk at most 1048576: NARROWER than '..Said'. Prove '..Said' where nothing that the law and all that it calls make is longer than what came in: it says more and counts as full. Else prove '..UptoSaid'. A law counts once. -/
mutual
def uptoBulk {H : Type} : DataW H → Nat
  | .lit (.string bytes) => bytes.length + 1
  | .lit _ => 1
  | .nil => 1
  | .ptr d => uptoBulk d + 1
  | .slice elems spare => uptoBulkAll elems + uptoBulkAll spare + 1
  | .agg parts => uptoBulkAll parts + 1
  | .iface _ d => uptoBulk d + 1
  | .map entries => uptoBulkEntries entries + 1
  | .held _ => 1
def uptoBulkAll {H : Type} : List (DataW H) → Nat
  | [] => 0
  | d :: r => uptoBulk d + uptoBulkAll r
def uptoBulkEntries {H : Type} : List (Lit × DataW H) → Nat
  | [] => 0
  | x :: r => uptoBulkEntry x + uptoBulkEntries r
def uptoBulkEntry {H : Type} : Lit × DataW H → Nat
  | (.string bytes, d) => bytes.length + uptoBulk d + 1
  | (_, d) => uptoBulk d + 1
 end
def uptoSmall : (H : Type) → List (DataW H) → Bool := fun _ ds => decide (uptoBulkAll ds ≤ 1048576)
def OpenSpec.upto (s : _root_.Go.ChangeSpec) : _root_.Go.OpenSpec := { _root_.Go.OpenSpec.ofChange s with cond := some uptoSmall }

/-- 'masterdisclaw19.NamingViews', WHERE WHAT IT READS IS OF BULK AT MOST 1048576: true; the input reads as it did. -/
def namingViewsUptoRow : OpenClaim := { program := "ytpkeldhgfdeebaagreatdoor", sum := "be6bb372f3587ae339dfc843a5cd865d6e5811997c33d4e2dfe38b1bda5171fb", func := "masterdisc/masterdisclaw19.NamingViews", spec := "namingViews", inPlace := ["internal/bytealg.IndexByteString", "internal/bytealg.IndexString", "internal/bytealg.abigen_runtime_cmpstring", "internal/bytealg.CountString"], unfollowed := true, recurses := true, named := ["internal/bytealg.MaxLen", "unicode/utf8.first", "unicode/utf8.acceptRanges", "internal/strconv.uint64pow10", "math/bits.deBruijn32tab", "math/bits.deBruijn64tab"], loops := true, apart := false, laid := [("math/bits.deBruijn32tab", laid_math_bits_deBruijn32tab), ("math/bits.deBruijn64tab", laid_math_bits_deBruijn64tab), ("internal/strconv.uint64pow10", laid_internal_strconv_uint64pow10), ("unicode/utf8.acceptRanges", laid_unicode_utf8_acceptRanges), ("unicode/utf8.first", laid_unicode_utf8_first)], narrowed := true }
def NamingViewsUptoSaid : Prop := namingViewsUptoRow.holds Tryz.pinned (OpenSpec.upto namingViewsSpec)

/-- 'masterdisclaw19.NamingPaths', WHERE WHAT IT READS IS OF BULK AT MOST 1048576: true; the input reads as it did. -/
def namingPathsUptoRow : OpenClaim := { program := "ytpkeldhgfdeebaagreatdoor", sum := "be6bb372f3587ae339dfc843a5cd865d6e5811997c33d4e2dfe38b1bda5171fb", func := "masterdisc/masterdisclaw19.NamingPaths", spec := "namingPaths", inPlace := ["internal/bytealg.IndexByteString", "internal/bytealg.IndexString", "internal/bytealg.abigen_runtime_cmpstring", "internal/bytealg.CountString"], unfollowed := true, recurses := true, named := ["internal/bytealg.MaxLen", "unicode/utf8.first", "unicode/utf8.acceptRanges", "internal/strconv.uint64pow10", "math/bits.deBruijn32tab", "math/bits.deBruijn64tab"], loops := true, apart := false, laid := [("math/bits.deBruijn32tab", laid_math_bits_deBruijn32tab), ("math/bits.deBruijn64tab", laid_math_bits_deBruijn64tab), ("internal/strconv.uint64pow10", laid_internal_strconv_uint64pow10), ("unicode/utf8.acceptRanges", laid_unicode_utf8_acceptRanges), ("unicode/utf8.first", laid_unicode_utf8_first)], narrowed := true }
def NamingPathsUptoSaid : Prop := namingPathsUptoRow.holds Tryz.pinned (OpenSpec.upto namingPathsSpec)

/-- 'masterdisclaw19.NamingAgain', WHERE WHAT IT READS IS OF BULK AT MOST 1048576: true; the input reads as it did. -/
def namingAgainUptoRow : OpenClaim := { program := "ytpkeldhgfdeebaagreatdoor", sum := "be6bb372f3587ae339dfc843a5cd865d6e5811997c33d4e2dfe38b1bda5171fb", func := "masterdisc/masterdisclaw19.NamingAgain", spec := "namingAgain", inPlace := ["internal/bytealg.IndexByteString", "internal/bytealg.IndexString", "internal/bytealg.abigen_runtime_cmpstring", "internal/bytealg.CountString"], unfollowed := true, recurses := true, named := ["internal/bytealg.MaxLen", "unicode/utf8.first", "unicode/utf8.acceptRanges", "internal/strconv.uint64pow10", "math/bits.deBruijn32tab", "math/bits.deBruijn64tab"], loops := true, apart := false, laid := [("math/bits.deBruijn32tab", laid_math_bits_deBruijn32tab), ("math/bits.deBruijn64tab", laid_math_bits_deBruijn64tab), ("internal/strconv.uint64pow10", laid_internal_strconv_uint64pow10), ("unicode/utf8.acceptRanges", laid_unicode_utf8_acceptRanges), ("unicode/utf8.first", laid_unicode_utf8_first)], narrowed := true }
def NamingAgainUptoSaid : Prop := namingAgainUptoRow.holds Tryz.pinned (OpenSpec.upto namingAgainSpec)

/-- 'masterdisclaw19.NamingInverse', WHERE WHAT IT READS IS OF BULK AT MOST 1048576: true; the input reads as it did. -/
def namingInverseUptoRow : OpenClaim := { program := "ytpkeldhgfdeebaagreatdoor", sum := "be6bb372f3587ae339dfc843a5cd865d6e5811997c33d4e2dfe38b1bda5171fb", func := "masterdisc/masterdisclaw19.NamingInverse", spec := "namingInverse", inPlace := ["internal/bytealg.IndexByteString", "internal/bytealg.IndexString", "internal/bytealg.abigen_runtime_cmpstring", "internal/bytealg.CountString"], unfollowed := true, recurses := true, named := ["internal/bytealg.MaxLen", "unicode/utf8.first", "unicode/utf8.acceptRanges", "internal/strconv.uint64pow10", "math/bits.deBruijn32tab", "math/bits.deBruijn64tab"], loops := true, apart := false, laid := [("math/bits.deBruijn32tab", laid_math_bits_deBruijn32tab), ("math/bits.deBruijn64tab", laid_math_bits_deBruijn64tab), ("internal/strconv.uint64pow10", laid_internal_strconv_uint64pow10), ("unicode/utf8.acceptRanges", laid_unicode_utf8_acceptRanges), ("unicode/utf8.first", laid_unicode_utf8_first)], narrowed := true }
def NamingInverseUptoSaid : Prop := namingInverseUptoRow.holds Tryz.pinned (OpenSpec.upto namingInverseSpec)

/-- 'masterdisclaw19.NamingUnique', WHERE WHAT IT READS IS OF BULK AT MOST 1048576: true; the input reads as it did. -/
def namingUniqueUptoRow : OpenClaim := { program := "ytpkeldhgfdeebaagreatdoor", sum := "be6bb372f3587ae339dfc843a5cd865d6e5811997c33d4e2dfe38b1bda5171fb", func := "masterdisc/masterdisclaw19.NamingUnique", spec := "namingUnique", inPlace := ["internal/bytealg.IndexByteString", "internal/bytealg.IndexString", "internal/bytealg.abigen_runtime_cmpstring", "internal/bytealg.CountString"], unfollowed := true, recurses := true, named := ["internal/bytealg.MaxLen", "unicode/utf8.first", "unicode/utf8.acceptRanges", "internal/strconv.uint64pow10", "math/bits.deBruijn32tab", "math/bits.deBruijn64tab"], loops := true, apart := false, laid := [("math/bits.deBruijn32tab", laid_math_bits_deBruijn32tab), ("math/bits.deBruijn64tab", laid_math_bits_deBruijn64tab), ("internal/strconv.uint64pow10", laid_internal_strconv_uint64pow10), ("unicode/utf8.acceptRanges", laid_unicode_utf8_acceptRanges), ("unicode/utf8.first", laid_unicode_utf8_first)], narrowed := true }
def NamingUniqueUptoSaid : Prop := namingUniqueUptoRow.holds Tryz.pinned (OpenSpec.upto namingUniqueSpec)

/-- 'masterdisclaw19.NamingStable', WHERE WHAT IT READS IS OF BULK AT MOST 1048576: true; the input reads as it did. -/
def namingStableUptoRow : OpenClaim := { program := "ytpkeldhgfdeebaagreatdoor", sum := "be6bb372f3587ae339dfc843a5cd865d6e5811997c33d4e2dfe38b1bda5171fb", func := "masterdisc/masterdisclaw19.NamingStable", spec := "namingStable", inPlace := ["internal/bytealg.IndexByteString", "internal/bytealg.IndexString", "internal/bytealg.abigen_runtime_cmpstring", "internal/bytealg.CountString"], unfollowed := true, recurses := true, named := ["internal/bytealg.MaxLen", "unicode/utf8.first", "unicode/utf8.acceptRanges", "internal/strconv.uint64pow10", "math/bits.deBruijn32tab", "math/bits.deBruijn64tab"], loops := true, apart := false, laid := [("math/bits.deBruijn32tab", laid_math_bits_deBruijn32tab), ("math/bits.deBruijn64tab", laid_math_bits_deBruijn64tab), ("internal/strconv.uint64pow10", laid_internal_strconv_uint64pow10), ("unicode/utf8.acceptRanges", laid_unicode_utf8_acceptRanges), ("unicode/utf8.first", laid_unicode_utf8_first)], narrowed := true }
def NamingStableUptoSaid : Prop := namingStableUptoRow.holds Tryz.pinned (OpenSpec.upto namingStableSpec)

/-- 'masterdisclaw26.RelocationPlans', WHERE WHAT IT READS IS OF BULK AT MOST 1048576: true; the input reads as it did. -/
def relocationPlansUptoRow : OpenClaim := { program := "ytpkeldhgfdeebaagreatdoor", sum := "be6bb372f3587ae339dfc843a5cd865d6e5811997c33d4e2dfe38b1bda5171fb", func := "masterdisc/masterdisclaw26.RelocationPlans", spec := "relocationPlans", inPlace := ["internal/bytealg.IndexByteString", "internal/bytealg.IndexString", "internal/bytealg.CountString", "internal/bytealg.abigen_runtime_cmpstring"], unfollowed := true, recurses := true, named := ["internal/bytealg.MaxLen", "unicode/utf8.first", "unicode/utf8.acceptRanges", "internal/strconv.uint64pow10", "math/bits.deBruijn32tab", "math/bits.deBruijn64tab"], loops := true, apart := false, laid := [("math/bits.deBruijn32tab", laid_math_bits_deBruijn32tab), ("math/bits.deBruijn64tab", laid_math_bits_deBruijn64tab), ("internal/strconv.uint64pow10", laid_internal_strconv_uint64pow10), ("unicode/utf8.acceptRanges", laid_unicode_utf8_acceptRanges), ("unicode/utf8.first", laid_unicode_utf8_first)], narrowed := true }
def RelocationPlansUptoSaid : Prop := relocationPlansUptoRow.holds Tryz.pinned (OpenSpec.upto relocationPlansSpec)

/-- 'masterdisclaw26.RelocationNames', WHERE WHAT IT READS IS OF BULK AT MOST 1048576: true; the input reads as it did. -/
def relocationNamesUptoRow : OpenClaim := { program := "ytpkeldhgfdeebaagreatdoor", sum := "be6bb372f3587ae339dfc843a5cd865d6e5811997c33d4e2dfe38b1bda5171fb", func := "masterdisc/masterdisclaw26.RelocationNames", spec := "relocationNames", inPlace := ["internal/bytealg.IndexByteString", "internal/bytealg.IndexString", "internal/bytealg.CountString", "internal/bytealg.abigen_runtime_cmpstring"], unfollowed := true, recurses := true, named := ["internal/bytealg.MaxLen", "unicode/utf8.first", "unicode/utf8.acceptRanges", "internal/strconv.uint64pow10", "math/bits.deBruijn32tab", "math/bits.deBruijn64tab"], loops := true, apart := false, laid := [("math/bits.deBruijn32tab", laid_math_bits_deBruijn32tab), ("math/bits.deBruijn64tab", laid_math_bits_deBruijn64tab), ("internal/strconv.uint64pow10", laid_internal_strconv_uint64pow10), ("unicode/utf8.acceptRanges", laid_unicode_utf8_acceptRanges), ("unicode/utf8.first", laid_unicode_utf8_first)], narrowed := true }
def RelocationNamesUptoSaid : Prop := relocationNamesUptoRow.holds Tryz.pinned (OpenSpec.upto relocationNamesSpec)

/-- 'masterdisclaw26.RelocationLevels', WHERE WHAT IT READS IS OF BULK AT MOST 1048576: true; the input reads as it did. -/
def relocationLevelsUptoRow : OpenClaim := { program := "ytpkeldhgfdeebaagreatdoor", sum := "be6bb372f3587ae339dfc843a5cd865d6e5811997c33d4e2dfe38b1bda5171fb", func := "masterdisc/masterdisclaw26.RelocationLevels", spec := "relocationLevels", inPlace := ["internal/bytealg.IndexByteString", "internal/bytealg.IndexString", "internal/bytealg.CountString", "internal/bytealg.abigen_runtime_cmpstring"], unfollowed := true, recurses := true, named := ["internal/bytealg.MaxLen", "unicode/utf8.first", "unicode/utf8.acceptRanges", "internal/strconv.uint64pow10", "math/bits.deBruijn32tab", "math/bits.deBruijn64tab"], loops := true, apart := false, laid := [("math/bits.deBruijn32tab", laid_math_bits_deBruijn32tab), ("math/bits.deBruijn64tab", laid_math_bits_deBruijn64tab), ("internal/strconv.uint64pow10", laid_internal_strconv_uint64pow10), ("unicode/utf8.acceptRanges", laid_unicode_utf8_acceptRanges), ("unicode/utf8.first", laid_unicode_utf8_first)], narrowed := true }
def RelocationLevelsUptoSaid : Prop := relocationLevelsUptoRow.holds Tryz.pinned (OpenSpec.upto relocationLevelsSpec)

/-- 'masterdisclaw26.RelocationPlain', WHERE WHAT IT READS IS OF BULK AT MOST 1048576: true; the input reads as it did. -/
def relocationPlainUptoRow : OpenClaim := { program := "ytpkeldhgfdeebaagreatdoor", sum := "be6bb372f3587ae339dfc843a5cd865d6e5811997c33d4e2dfe38b1bda5171fb", func := "masterdisc/masterdisclaw26.RelocationPlain", spec := "relocationPlain", inPlace := ["internal/bytealg.IndexByteString", "internal/bytealg.IndexString", "internal/bytealg.CountString", "internal/bytealg.abigen_runtime_cmpstring"], unfollowed := true, recurses := true, named := ["internal/bytealg.MaxLen", "unicode/utf8.first", "unicode/utf8.acceptRanges", "internal/strconv.uint64pow10", "math/bits.deBruijn32tab", "math/bits.deBruijn64tab"], loops := true, apart := false, laid := [("math/bits.deBruijn32tab", laid_math_bits_deBruijn32tab), ("math/bits.deBruijn64tab", laid_math_bits_deBruijn64tab), ("internal/strconv.uint64pow10", laid_internal_strconv_uint64pow10), ("unicode/utf8.acceptRanges", laid_unicode_utf8_acceptRanges), ("unicode/utf8.first", laid_unicode_utf8_first)], narrowed := true }
def RelocationPlainUptoSaid : Prop := relocationPlainUptoRow.holds Tryz.pinned (OpenSpec.upto relocationPlainSpec)

/-- 'masterdisclaw26.RelocationUnique', WHERE WHAT IT READS IS OF BULK AT MOST 1048576: true; the input reads as it did. -/
def relocationUniqueUptoRow : OpenClaim := { program := "ytpkeldhgfdeebaagreatdoor", sum := "be6bb372f3587ae339dfc843a5cd865d6e5811997c33d4e2dfe38b1bda5171fb", func := "masterdisc/masterdisclaw26.RelocationUnique", spec := "relocationUnique", inPlace := ["internal/bytealg.IndexByteString", "internal/bytealg.IndexString", "internal/bytealg.CountString", "internal/bytealg.abigen_runtime_cmpstring"], unfollowed := true, recurses := true, named := ["internal/bytealg.MaxLen", "unicode/utf8.first", "unicode/utf8.acceptRanges", "internal/strconv.uint64pow10", "math/bits.deBruijn32tab", "math/bits.deBruijn64tab"], loops := true, apart := false, laid := [("math/bits.deBruijn32tab", laid_math_bits_deBruijn32tab), ("math/bits.deBruijn64tab", laid_math_bits_deBruijn64tab), ("internal/strconv.uint64pow10", laid_internal_strconv_uint64pow10), ("unicode/utf8.acceptRanges", laid_unicode_utf8_acceptRanges), ("unicode/utf8.first", laid_unicode_utf8_first)], narrowed := true }
def RelocationUniqueUptoSaid : Prop := relocationUniqueUptoRow.holds Tryz.pinned (OpenSpec.upto relocationUniqueSpec)

/-- 'masterdisclaw26.RelocationShows', WHERE WHAT IT READS IS OF BULK AT MOST 1048576: true; the input reads as it did. -/
def relocationShowsUptoRow : OpenClaim := { program := "ytpkeldhgfdeebaagreatdoor", sum := "be6bb372f3587ae339dfc843a5cd865d6e5811997c33d4e2dfe38b1bda5171fb", func := "masterdisc/masterdisclaw26.RelocationShows", spec := "relocationShows", inPlace := ["internal/bytealg.IndexByteString", "internal/bytealg.IndexString", "internal/bytealg.CountString", "internal/bytealg.abigen_runtime_cmpstring"], unfollowed := true, recurses := true, named := ["internal/bytealg.MaxLen", "unicode/utf8.first", "unicode/utf8.acceptRanges", "internal/strconv.uint64pow10", "math/bits.deBruijn32tab", "math/bits.deBruijn64tab"], loops := true, apart := false, laid := [("math/bits.deBruijn32tab", laid_math_bits_deBruijn32tab), ("math/bits.deBruijn64tab", laid_math_bits_deBruijn64tab), ("internal/strconv.uint64pow10", laid_internal_strconv_uint64pow10), ("unicode/utf8.acceptRanges", laid_unicode_utf8_acceptRanges), ("unicode/utf8.first", laid_unicode_utf8_first)], narrowed := true }
def RelocationShowsUptoSaid : Prop := relocationShowsUptoRow.holds Tryz.pinned (OpenSpec.upto relocationShowsSpec)

end Rows
end Go.Proofs.YtpkeldhgfdeebaaGreatDoor
