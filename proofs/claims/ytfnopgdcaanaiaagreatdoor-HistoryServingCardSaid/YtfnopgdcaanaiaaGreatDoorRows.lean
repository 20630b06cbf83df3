/-
  NARROWER THAN 'FOR EVERY INPUT', by the rows' own cells (each row's printed sentence says how): HoldsExact: laid · HoldsSpans: laid · HoldsLater: laid · HoldsKept: laid · HoldsMatchesReference: laid · HoldsAllowed: laid · ResignMatchesReference: laid · ResignGaps: laid · ResignTimes: laid · HistoryServing: laid.
  DERIVED. THE GIVEN ROWS OF THIS SEAT. 10 by the template 'for every input the law returns true; each argument reads behind the call as it read before'; 0 by the template 'total and deterministic' (their statements: YtfnopgdcaanaiaaGreatDoorTotals.lean).
  GIVEN WITH THE SEED: the statements are not yours to turn. If you find one false, say at which input.
  Laid BY PROGRAM, IN A SANDBOX (cutbox-rows.mjs): the forced cells as the released guide's own fill.sh prints them over the translation 937f92191ff33842… (all of the seat's roots in one cut). By AI agents, Wed Nov 11 2026. No macro, syntax, notation, axiom, sorry.
-/
import Derived.Test.YtfnopgdcaanaiaaGreatDoorChecked
import GoSem.Claim
import GoSem.ClaimJoined
import GoSem.ClaimMapViews
import Derived.JoinedTies
import Derived.KernelRfl
namespace Go.Proofs.YtfnopgdcaanaiaaGreatDoor
/- THE CELL 'sum', in the pinned program and in every row, IS THE sha256 OF THE DUMP (.gsa) THAT YtfnopgdcaanaiaaGreatDoorProg.lean LOADS. Nothing in Lean hashes anything: it is a label: what it is worth is what the hold of that sum in a sandbox is worth. -/
noncomputable def Tryz.pinned : Pinned := { name := "ytfnopgdcaanaiaagreatdoor", sum := "937f92191ff33842723bedc5575470b2d3880586ea66f068f0eb8a7f8cc1eb9e", checked := Tryz.checked }
namespace Rows
def none {H : Type} : Left H := { results := [], args := [] }

/- WHAT THE LISTED PACKAGE-LEVEL VARIABLES READ AS WHEN THE CALL BEGINS. Each datum BY PROGRAM (the guide's laid-datum.mjs) off the statement by which the dump's own 'gosem.cut.vars' lays the variable. In a bare row this is a premise. The card (YtfnopgdcaanaiaaGreatDoorCards.lean) ties it to the program's text. -/
def laid_math_bits_deBruijn32tab {H : Type} : DataW H := .agg [.lit (.int .u8 0), .lit (.int .u8 1), .lit (.int .u8 28), .lit (.int .u8 2), .lit (.int .u8 29), .lit (.int .u8 14), .lit (.int .u8 24), .lit (.int .u8 3), .lit (.int .u8 30), .lit (.int .u8 22), .lit (.int .u8 20), .lit (.int .u8 15), .lit (.int .u8 25), .lit (.int .u8 17), .lit (.int .u8 4), .lit (.int .u8 8), .lit (.int .u8 31), .lit (.int .u8 27), .lit (.int .u8 13), .lit (.int .u8 23), .lit (.int .u8 21), .lit (.int .u8 19), .lit (.int .u8 16), .lit (.int .u8 7), .lit (.int .u8 26), .lit (.int .u8 12), .lit (.int .u8 18), .lit (.int .u8 6), .lit (.int .u8 11), .lit (.int .u8 5), .lit (.int .u8 10), .lit (.int .u8 9)]
def laid_math_bits_deBruijn64tab {H : Type} : DataW H := .agg [.lit (.int .u8 0), .lit (.int .u8 1), .lit (.int .u8 56), .lit (.int .u8 2), .lit (.int .u8 57), .lit (.int .u8 49), .lit (.int .u8 28), .lit (.int .u8 3), .lit (.int .u8 61), .lit (.int .u8 58), .lit (.int .u8 42), .lit (.int .u8 50), .lit (.int .u8 38), .lit (.int .u8 29), .lit (.int .u8 17), .lit (.int .u8 4), .lit (.int .u8 62), .lit (.int .u8 47), .lit (.int .u8 59), .lit (.int .u8 36), .lit (.int .u8 45), .lit (.int .u8 43), .lit (.int .u8 51), .lit (.int .u8 22), .lit (.int .u8 53), .lit (.int .u8 39), .lit (.int .u8 33), .lit (.int .u8 30), .lit (.int .u8 24), .lit (.int .u8 18), .lit (.int .u8 12), .lit (.int .u8 5), .lit (.int .u8 63), .lit (.int .u8 55), .lit (.int .u8 48), .lit (.int .u8 27), .lit (.int .u8 60), .lit (.int .u8 41), .lit (.int .u8 37), .lit (.int .u8 16), .lit (.int .u8 46), .lit (.int .u8 35), .lit (.int .u8 44), .lit (.int .u8 21), .lit (.int .u8 52), .lit (.int .u8 32), .lit (.int .u8 23), .lit (.int .u8 11), .lit (.int .u8 54), .lit (.int .u8 26), .lit (.int .u8 40), .lit (.int .u8 15), .lit (.int .u8 34), .lit (.int .u8 20), .lit (.int .u8 31), .lit (.int .u8 10), .lit (.int .u8 25), .lit (.int .u8 14), .lit (.int .u8 19), .lit (.int .u8 9), .lit (.int .u8 13), .lit (.int .u8 8), .lit (.int .u8 7), .lit (.int .u8 6)]
def laid_internal_strconv_uint64pow10 {H : Type} : DataW H := .agg [.lit (.int .u64 1), .lit (.int .u64 10), .lit (.int .u64 100), .lit (.int .u64 1000), .lit (.int .u64 10000), .lit (.int .u64 100000), .lit (.int .u64 1000000), .lit (.int .u64 10000000), .lit (.int .u64 100000000), .lit (.int .u64 1000000000), .lit (.int .u64 10000000000), .lit (.int .u64 100000000000), .lit (.int .u64 1000000000000), .lit (.int .u64 10000000000000), .lit (.int .u64 100000000000000), .lit (.int .u64 1000000000000000), .lit (.int .u64 10000000000000000), .lit (.int .u64 100000000000000000), .lit (.int .u64 1000000000000000000), .lit (.int .u64 10000000000000000000)]
def laid_nameplan_record_rules {H : Type} : DataW H := .agg [.agg [.lit (.int .i64 0), .lit (.int .i64 0), .lit (.int .i64 0), .lit (.int .i64 0), .lit (.int .i64 0), .lit (.bool false), .lit (.bool false), .lit (.bool false)], .agg [.lit (.int .i64 0), .lit (.int .i64 1), .lit (.int .i64 1000000), .lit (.int .i64 0), .lit (.int .i64 0), .lit (.bool false), .lit (.bool false), .lit (.bool true)], .agg [.lit (.int .i64 1), .lit (.int .i64 0), .lit (.int .i64 0), .lit (.int .i64 0), .lit (.int .i64 0), .lit (.bool false), .lit (.bool false), .lit (.bool false)], .agg [.lit (.int .i64 1), .lit (.int .i64 0), .lit (.int .i64 0), .lit (.int .i64 0), .lit (.int .i64 0), .lit (.bool false), .lit (.bool true), .lit (.bool false)], .agg [.lit (.int .i64 0), .lit (.int .i64 0), .lit (.int .i64 65535), .lit (.int .i64 0), .lit (.int .i64 100000), .lit (.bool false), .lit (.bool true), .lit (.bool false)], .agg [.lit (.int .i64 3), .lit (.int .i64 0), .lit (.int .i64 0), .lit (.int .i64 0), .lit (.int .i64 0), .lit (.bool false), .lit (.bool false), .lit (.bool true)], .agg [.lit (.int .i64 0), .lit (.int .i64 1), .lit (.int .i64 1000000), .lit (.int .i64 1), .lit (.int .i64 3), .lit (.bool false), .lit (.bool false), .lit (.bool false)], .agg [.lit (.int .i64 0), .lit (.int .i64 1), .lit (.int .i64 1000000), .lit (.int .i64 1), .lit (.int .i64 3), .lit (.bool false), .lit (.bool false), .lit (.bool false)], .agg [.lit (.int .i64 2), .lit (.int .i64 2), .lit (.int .i64 510), .lit (.int .i64 0), .lit (.int .i64 0), .lit (.bool true), .lit (.bool false), .lit (.bool true)]]

/-- 'nameplanlaw23.HoldsExact': WHATEVER THE INPUT: true; the input reads as it did. -/
def holdsExactSpec : ChangeSpec := { name := "holdsExact", fn := fun _ => fun
  | [d1, d2, d3] => { results := [.lit (.bool true)], args := [d1, d2, d3] }
  | _ => none }
def holdsExactRow : OpenClaim := { program := "ytfnopgdcaanaiaagreatdoor", sum := "937f92191ff33842723bedc5575470b2d3880586ea66f068f0eb8a7f8cc1eb9e", func := "nameplan/nameplanlaw23.HoldsExact", spec := "holdsExact", inPlace := ["internal/bytealg.abigen_runtime_cmpstring", "internal/abi.NoEscape"], unfollowed := true, recurses := true, named := ["nameplan/record.rules", "internal/strconv.uint64pow10", "math/bits.deBruijn32tab", "math/bits.deBruijn64tab"], plainKeys := false, apart := false, laid := [("math/bits.deBruijn32tab", laid_math_bits_deBruijn32tab), ("math/bits.deBruijn64tab", laid_math_bits_deBruijn64tab), ("internal/strconv.uint64pow10", laid_internal_strconv_uint64pow10), ("nameplan/record.rules", laid_nameplan_record_rules)] }
def HoldsExactSaid : Prop := holdsExactRow.holds Tryz.pinned (OpenSpec.ofChange holdsExactSpec)

/-- ITS FALSE NEIGHBOUR: 'it returns false'. Refute it at one input. -/
def holdsExactWrong : ChangeSpec := { name := "holdsExact", fn := fun _ => fun
  | [d1, d2, d3] => { results := [.lit (.bool false)], args := [d1, d2, d3] }
  | _ => none }
def HoldsExactWrongFalsely : Prop := holdsExactRow.holds Tryz.pinned (OpenSpec.ofChange holdsExactWrong)

/-- 'nameplanlaw23.HoldsSpans': WHATEVER THE INPUT: true; the input reads as it did. -/
def holdsSpansSpec : ChangeSpec := { name := "holdsSpans", fn := fun _ => fun
  | [d1, d2] => { results := [.lit (.bool true)], args := [d1, d2] }
  | _ => none }
def holdsSpansRow : OpenClaim := { program := "ytfnopgdcaanaiaagreatdoor", sum := "937f92191ff33842723bedc5575470b2d3880586ea66f068f0eb8a7f8cc1eb9e", func := "nameplan/nameplanlaw23.HoldsSpans", spec := "holdsSpans", inPlace := ["internal/bytealg.abigen_runtime_cmpstring", "internal/abi.NoEscape"], unfollowed := true, recurses := true, named := ["nameplan/record.rules", "internal/strconv.uint64pow10", "math/bits.deBruijn32tab", "math/bits.deBruijn64tab"], plainKeys := false, apart := false, laid := [("math/bits.deBruijn32tab", laid_math_bits_deBruijn32tab), ("math/bits.deBruijn64tab", laid_math_bits_deBruijn64tab), ("internal/strconv.uint64pow10", laid_internal_strconv_uint64pow10), ("nameplan/record.rules", laid_nameplan_record_rules)] }
def HoldsSpansSaid : Prop := holdsSpansRow.holds Tryz.pinned (OpenSpec.ofChange holdsSpansSpec)

/-- ITS FALSE NEIGHBOUR: 'it returns false'. Refute it at one input. -/
def holdsSpansWrong : ChangeSpec := { name := "holdsSpans", fn := fun _ => fun
  | [d1, d2] => { results := [.lit (.bool false)], args := [d1, d2] }
  | _ => none }
def HoldsSpansWrongFalsely : Prop := holdsSpansRow.holds Tryz.pinned (OpenSpec.ofChange holdsSpansWrong)

/-- 'nameplanlaw23.HoldsLater': WHATEVER THE INPUT: true; the input reads as it did. -/
def holdsLaterSpec : ChangeSpec := { name := "holdsLater", fn := fun _ => fun
  | [d1, d2, d3, d4] => { results := [.lit (.bool true)], args := [d1, d2, d3, d4] }
  | _ => none }
def holdsLaterRow : OpenClaim := { program := "ytfnopgdcaanaiaagreatdoor", sum := "937f92191ff33842723bedc5575470b2d3880586ea66f068f0eb8a7f8cc1eb9e", func := "nameplan/nameplanlaw23.HoldsLater", spec := "holdsLater", inPlace := ["internal/bytealg.abigen_runtime_cmpstring", "internal/abi.NoEscape"], unfollowed := true, recurses := true, named := ["nameplan/record.rules", "internal/strconv.uint64pow10", "math/bits.deBruijn32tab", "math/bits.deBruijn64tab"], plainKeys := false, apart := false, laid := [("math/bits.deBruijn32tab", laid_math_bits_deBruijn32tab), ("math/bits.deBruijn64tab", laid_math_bits_deBruijn64tab), ("internal/strconv.uint64pow10", laid_internal_strconv_uint64pow10), ("nameplan/record.rules", laid_nameplan_record_rules)] }
def HoldsLaterSaid : Prop := holdsLaterRow.holds Tryz.pinned (OpenSpec.ofChange holdsLaterSpec)

/-- ITS FALSE NEIGHBOUR: 'it returns false'. Refute it at one input. -/
def holdsLaterWrong : ChangeSpec := { name := "holdsLater", fn := fun _ => fun
  | [d1, d2, d3, d4] => { results := [.lit (.bool false)], args := [d1, d2, d3, d4] }
  | _ => none }
def HoldsLaterWrongFalsely : Prop := holdsLaterRow.holds Tryz.pinned (OpenSpec.ofChange holdsLaterWrong)

/-- 'nameplanlaw23.HoldsKept': WHATEVER THE INPUT: true; the input reads as it did. -/
def holdsKeptSpec : ChangeSpec := { name := "holdsKept", fn := fun _ => fun
  | [d1, d2, d3, d4, d5] => { results := [.lit (.bool true)], args := [d1, d2, d3, d4, d5] }
  | _ => none }
def holdsKeptRow : OpenClaim := { program := "ytfnopgdcaanaiaagreatdoor", sum := "937f92191ff33842723bedc5575470b2d3880586ea66f068f0eb8a7f8cc1eb9e", func := "nameplan/nameplanlaw23.HoldsKept", spec := "holdsKept", inPlace := ["internal/bytealg.abigen_runtime_cmpstring", "internal/abi.NoEscape"], unfollowed := true, recurses := true, named := ["nameplan/record.rules", "internal/strconv.uint64pow10", "math/bits.deBruijn32tab", "math/bits.deBruijn64tab"], plainKeys := false, apart := false, laid := [("math/bits.deBruijn32tab", laid_math_bits_deBruijn32tab), ("math/bits.deBruijn64tab", laid_math_bits_deBruijn64tab), ("internal/strconv.uint64pow10", laid_internal_strconv_uint64pow10), ("nameplan/record.rules", laid_nameplan_record_rules)] }
def HoldsKeptSaid : Prop := holdsKeptRow.holds Tryz.pinned (OpenSpec.ofChange holdsKeptSpec)

/-- ITS FALSE NEIGHBOUR: 'it returns false'. Refute it at one input. -/
def holdsKeptWrong : ChangeSpec := { name := "holdsKept", fn := fun _ => fun
  | [d1, d2, d3, d4, d5] => { results := [.lit (.bool false)], args := [d1, d2, d3, d4, d5] }
  | _ => none }
def HoldsKeptWrongFalsely : Prop := holdsKeptRow.holds Tryz.pinned (OpenSpec.ofChange holdsKeptWrong)

/-- 'nameplanlaw23.HoldsMatchesReference': WHATEVER THE INPUT: true; the input reads as it did. -/
def holdsMatchesReferenceSpec : ChangeSpec := { name := "holdsMatchesReference", fn := fun _ => fun
  | [d1, d2, d3, d4] => { results := [.lit (.bool true)], args := [d1, d2, d3, d4] }
  | _ => none }
def holdsMatchesReferenceRow : OpenClaim := { program := "ytfnopgdcaanaiaagreatdoor", sum := "937f92191ff33842723bedc5575470b2d3880586ea66f068f0eb8a7f8cc1eb9e", func := "nameplan/nameplanlaw23.HoldsMatchesReference", spec := "holdsMatchesReference", inPlace := ["internal/bytealg.abigen_runtime_cmpstring", "internal/abi.NoEscape"], unfollowed := true, recurses := true, named := ["nameplan/record.rules", "internal/strconv.uint64pow10", "math/bits.deBruijn32tab", "math/bits.deBruijn64tab"], plainKeys := false, apart := false, laid := [("math/bits.deBruijn32tab", laid_math_bits_deBruijn32tab), ("math/bits.deBruijn64tab", laid_math_bits_deBruijn64tab), ("internal/strconv.uint64pow10", laid_internal_strconv_uint64pow10), ("nameplan/record.rules", laid_nameplan_record_rules)] }
def HoldsMatchesReferenceSaid : Prop := holdsMatchesReferenceRow.holds Tryz.pinned (OpenSpec.ofChange holdsMatchesReferenceSpec)

/-- ITS FALSE NEIGHBOUR: 'it returns false'. Refute it at one input. -/
def holdsMatchesReferenceWrong : ChangeSpec := { name := "holdsMatchesReference", fn := fun _ => fun
  | [d1, d2, d3, d4] => { results := [.lit (.bool false)], args := [d1, d2, d3, d4] }
  | _ => none }
def HoldsMatchesReferenceWrongFalsely : Prop := holdsMatchesReferenceRow.holds Tryz.pinned (OpenSpec.ofChange holdsMatchesReferenceWrong)

/-- 'nameplanlaw23.HoldsAllowed': WHATEVER THE INPUT: true; the input reads as it did. -/
def holdsAllowedSpec : ChangeSpec := { name := "holdsAllowed", fn := fun _ => fun
  | [d1, d2, d3, d4] => { results := [.lit (.bool true)], args := [d1, d2, d3, d4] }
  | _ => none }
def holdsAllowedRow : OpenClaim := { program := "ytfnopgdcaanaiaagreatdoor", sum := "937f92191ff33842723bedc5575470b2d3880586ea66f068f0eb8a7f8cc1eb9e", func := "nameplan/nameplanlaw23.HoldsAllowed", spec := "holdsAllowed", inPlace := ["internal/bytealg.abigen_runtime_cmpstring", "internal/abi.NoEscape"], unfollowed := true, recurses := true, named := ["nameplan/record.rules", "internal/strconv.uint64pow10", "math/bits.deBruijn32tab", "math/bits.deBruijn64tab"], plainKeys := false, apart := false, laid := [("math/bits.deBruijn32tab", laid_math_bits_deBruijn32tab), ("math/bits.deBruijn64tab", laid_math_bits_deBruijn64tab), ("internal/strconv.uint64pow10", laid_internal_strconv_uint64pow10), ("nameplan/record.rules", laid_nameplan_record_rules)] }
def HoldsAllowedSaid : Prop := holdsAllowedRow.holds Tryz.pinned (OpenSpec.ofChange holdsAllowedSpec)

/-- ITS FALSE NEIGHBOUR: 'it returns false'. Refute it at one input. -/
def holdsAllowedWrong : ChangeSpec := { name := "holdsAllowed", fn := fun _ => fun
  | [d1, d2, d3, d4] => { results := [.lit (.bool false)], args := [d1, d2, d3, d4] }
  | _ => none }
def HoldsAllowedWrongFalsely : Prop := holdsAllowedRow.holds Tryz.pinned (OpenSpec.ofChange holdsAllowedWrong)

/-- 'nameplanlaw25.ResignMatchesReference': WHATEVER THE INPUT: true; the input reads as it did. -/
def resignMatchesReferenceSpec : ChangeSpec := { name := "resignMatchesReference", fn := fun _ => fun
  | [d1, d2, d3, d4, d5, d6, d7] => { results := [.lit (.bool true)], args := [d1, d2, d3, d4, d5, d6, d7] }
  | _ => none }
def resignMatchesReferenceRow : OpenClaim := { program := "ytfnopgdcaanaiaagreatdoor", sum := "937f92191ff33842723bedc5575470b2d3880586ea66f068f0eb8a7f8cc1eb9e", func := "nameplan/nameplanlaw25.ResignMatchesReference", spec := "resignMatchesReference", inPlace := ["internal/bytealg.abigen_runtime_cmpstring", "internal/abi.NoEscape"], unfollowed := true, recurses := true, named := ["nameplan/record.rules", "internal/strconv.uint64pow10", "math/bits.deBruijn32tab", "math/bits.deBruijn64tab"], plainKeys := false, apart := false, laid := [("math/bits.deBruijn32tab", laid_math_bits_deBruijn32tab), ("math/bits.deBruijn64tab", laid_math_bits_deBruijn64tab), ("internal/strconv.uint64pow10", laid_internal_strconv_uint64pow10), ("nameplan/record.rules", laid_nameplan_record_rules)] }
def ResignMatchesReferenceSaid : Prop := resignMatchesReferenceRow.holds Tryz.pinned (OpenSpec.ofChange resignMatchesReferenceSpec)

/-- ITS FALSE NEIGHBOUR: 'it returns false'. Refute it at one input. -/
def resignMatchesReferenceWrong : ChangeSpec := { name := "resignMatchesReference", fn := fun _ => fun
  | [d1, d2, d3, d4, d5, d6, d7] => { results := [.lit (.bool false)], args := [d1, d2, d3, d4, d5, d6, d7] }
  | _ => none }
def ResignMatchesReferenceWrongFalsely : Prop := resignMatchesReferenceRow.holds Tryz.pinned (OpenSpec.ofChange resignMatchesReferenceWrong)

/-- 'nameplanlaw25.ResignGaps': WHATEVER THE INPUT: true; the input reads as it did. -/
def resignGapsSpec : ChangeSpec := { name := "resignGaps", fn := fun _ => fun
  | [d1, d2, d3] => { results := [.lit (.bool true)], args := [d1, d2, d3] }
  | _ => none }
def resignGapsRow : OpenClaim := { program := "ytfnopgdcaanaiaagreatdoor", sum := "937f92191ff33842723bedc5575470b2d3880586ea66f068f0eb8a7f8cc1eb9e", func := "nameplan/nameplanlaw25.ResignGaps", spec := "resignGaps", inPlace := ["internal/bytealg.abigen_runtime_cmpstring", "internal/abi.NoEscape"], unfollowed := true, recurses := true, named := ["nameplan/record.rules", "internal/strconv.uint64pow10", "math/bits.deBruijn32tab", "math/bits.deBruijn64tab"], plainKeys := false, apart := false, laid := [("math/bits.deBruijn32tab", laid_math_bits_deBruijn32tab), ("math/bits.deBruijn64tab", laid_math_bits_deBruijn64tab), ("internal/strconv.uint64pow10", laid_internal_strconv_uint64pow10), ("nameplan/record.rules", laid_nameplan_record_rules)] }
def ResignGapsSaid : Prop := resignGapsRow.holds Tryz.pinned (OpenSpec.ofChange resignGapsSpec)

/-- ITS FALSE NEIGHBOUR: 'it returns false'. Refute it at one input. -/
def resignGapsWrong : ChangeSpec := { name := "resignGaps", fn := fun _ => fun
  | [d1, d2, d3] => { results := [.lit (.bool false)], args := [d1, d2, d3] }
  | _ => none }
def ResignGapsWrongFalsely : Prop := resignGapsRow.holds Tryz.pinned (OpenSpec.ofChange resignGapsWrong)

/-- 'nameplanlaw25.ResignTimes': WHATEVER THE INPUT: true; the input reads as it did. -/
def resignTimesSpec : ChangeSpec := { name := "resignTimes", fn := fun _ => fun
  | [d1, d2, d3, d4, d5, d6] => { results := [.lit (.bool true)], args := [d1, d2, d3, d4, d5, d6] }
  | _ => none }
def resignTimesRow : OpenClaim := { program := "ytfnopgdcaanaiaagreatdoor", sum := "937f92191ff33842723bedc5575470b2d3880586ea66f068f0eb8a7f8cc1eb9e", func := "nameplan/nameplanlaw25.ResignTimes", spec := "resignTimes", inPlace := ["internal/bytealg.abigen_runtime_cmpstring", "internal/abi.NoEscape"], unfollowed := true, recurses := true, named := ["nameplan/record.rules", "internal/strconv.uint64pow10", "math/bits.deBruijn32tab", "math/bits.deBruijn64tab"], plainKeys := false, apart := false, laid := [("math/bits.deBruijn32tab", laid_math_bits_deBruijn32tab), ("math/bits.deBruijn64tab", laid_math_bits_deBruijn64tab), ("internal/strconv.uint64pow10", laid_internal_strconv_uint64pow10), ("nameplan/record.rules", laid_nameplan_record_rules)] }
def ResignTimesSaid : Prop := resignTimesRow.holds Tryz.pinned (OpenSpec.ofChange resignTimesSpec)

/-- ITS FALSE NEIGHBOUR: 'it returns false'. Refute it at one input. -/
def resignTimesWrong : ChangeSpec := { name := "resignTimes", fn := fun _ => fun
  | [d1, d2, d3, d4, d5, d6] => { results := [.lit (.bool false)], args := [d1, d2, d3, d4, d5, d6] }
  | _ => none }
def ResignTimesWrongFalsely : Prop := resignTimesRow.holds Tryz.pinned (OpenSpec.ofChange resignTimesWrong)

/-- 'nameplanlaw21.HistoryServing': WHATEVER THE INPUT: true; the input reads as it did. -/
def historyServingSpec : ChangeSpec := { name := "historyServing", fn := fun _ => fun
  | [d1, d2, d3, d4] => { results := [.lit (.bool true)], args := [d1, d2, d3, d4] }
  | _ => none }
def historyServingRow : OpenClaim := { program := "ytfnopgdcaanaiaagreatdoor", sum := "937f92191ff33842723bedc5575470b2d3880586ea66f068f0eb8a7f8cc1eb9e", func := "nameplan/nameplanlaw21.HistoryServing", spec := "historyServing", inPlace := ["internal/bytealg.abigen_runtime_cmpstring", "internal/abi.NoEscape", "internal/bytealg.IndexByteString", "internal/bytealg.MakeNoZero"], unfollowed := true, recurses := true, named := ["nameplan/record.rules", "internal/strconv.uint64pow10", "math/bits.deBruijn32tab", "math/bits.deBruijn64tab"], plainKeys := false, apart := false, laid := [("math/bits.deBruijn32tab", laid_math_bits_deBruijn32tab), ("math/bits.deBruijn64tab", laid_math_bits_deBruijn64tab), ("internal/strconv.uint64pow10", laid_internal_strconv_uint64pow10), ("nameplan/record.rules", laid_nameplan_record_rules)] }
def HistoryServingSaid : Prop := historyServingRow.holds Tryz.pinned (OpenSpec.ofChange historyServingSpec)

/-- ITS FALSE NEIGHBOUR: 'it returns false'. Refute it at one input. -/
def historyServingWrong : ChangeSpec := { name := "historyServing", fn := fun _ => fun
  | [d1, d2, d3, d4] => { results := [.lit (.bool false)], args := [d1, d2, d3, d4] }
  | _ => none }
def HistoryServingWrongFalsely : Prop := historyServingRow.holds Tryz.pinned (OpenSpec.ofChange historyServingWrong)

/- THE SECOND FORM. 'bulk': how many values and letters a reading holds, each counted each time it is reached (what is shared counts as often as it is met; a slice's spare places count too). A statement '..UptoSaid' is the law's where the arguments, and the package variables that the reading takes, are together of bulk at most 1048576: NARROWER than '..Said'. Prove '..Said' where nothing that the law and all that it calls make is longer than what came in: it says more and counts as full. Else prove '..UptoSaid'. A law counts once. -/
mutual
def uptoBulk {H : Type} : DataW H → Nat
  | .lit (.string bytes) => bytes.length + 1
  | .lit _ => 1
  | .nil => 1
  | .ptr d => uptoBulk d + 1
  | .slice elems spare => uptoBulkAll elems + uptoBulkAll spare + 1
  | .agg parts => uptoBulkAll parts + 1
  | .iface _ d => uptoBulk d + 1
  | .map entries => uptoBulkEntries entries + 1
  | .held _ => 1
def uptoBulkAll {H : Type} : List (DataW H) → Nat
  | [] => 0
  | d :: r => uptoBulk d + uptoBulkAll r
def uptoBulkEntries {H : Type} : List (Lit × DataW H) → Nat
  | [] => 0
  | x :: r => uptoBulkEntry x + uptoBulkEntries r
def uptoBulkEntry {H : Type} : Lit × DataW H → Nat
  | (.string bytes, d) => bytes.length + uptoBulk d + 1
  | (_, d) => uptoBulk d + 1
 end
def uptoSmall : (H : Type) → List (DataW H) → Bool := fun _ ds => decide (uptoBulkAll ds ≤ 1048576)
def OpenSpec.upto (s : _root_.Go.ChangeSpec) : _root_.Go.OpenSpec := { _root_.Go.OpenSpec.ofChange s with cond := some uptoSmall }

/-- 'nameplanlaw23.HoldsExact', WHERE WHAT IT READS IS OF BULK AT MOST 1048576: true; the input reads as it did. -/
def holdsExactUptoRow : OpenClaim := { program := "ytfnopgdcaanaiaagreatdoor", sum := "937f92191ff33842723bedc5575470b2d3880586ea66f068f0eb8a7f8cc1eb9e", func := "nameplan/nameplanlaw23.HoldsExact", spec := "holdsExact", inPlace := ["internal/bytealg.abigen_runtime_cmpstring", "internal/abi.NoEscape"], unfollowed := true, recurses := true, named := ["nameplan/record.rules", "internal/strconv.uint64pow10", "math/bits.deBruijn32tab", "math/bits.deBruijn64tab"], plainKeys := false, apart := false, laid := [("math/bits.deBruijn32tab", laid_math_bits_deBruijn32tab), ("math/bits.deBruijn64tab", laid_math_bits_deBruijn64tab), ("internal/strconv.uint64pow10", laid_internal_strconv_uint64pow10), ("nameplan/record.rules", laid_nameplan_record_rules)], narrowed := true }
def HoldsExactUptoSaid : Prop := holdsExactUptoRow.holds Tryz.pinned (OpenSpec.upto holdsExactSpec)

/-- 'nameplanlaw23.HoldsSpans', WHERE WHAT IT READS IS OF BULK AT MOST 1048576: true; the input reads as it did. -/
def holdsSpansUptoRow : OpenClaim := { program := "ytfnopgdcaanaiaagreatdoor", sum := "937f92191ff33842723bedc5575470b2d3880586ea66f068f0eb8a7f8cc1eb9e", func := "nameplan/nameplanlaw23.HoldsSpans", spec := "holdsSpans", inPlace := ["internal/bytealg.abigen_runtime_cmpstring", "internal/abi.NoEscape"], unfollowed := true, recurses := true, named := ["nameplan/record.rules", "internal/strconv.uint64pow10", "math/bits.deBruijn32tab", "math/bits.deBruijn64tab"], plainKeys := false, apart := false, laid := [("math/bits.deBruijn32tab", laid_math_bits_deBruijn32tab), ("math/bits.deBruijn64tab", laid_math_bits_deBruijn64tab), ("internal/strconv.uint64pow10", laid_internal_strconv_uint64pow10), ("nameplan/record.rules", laid_nameplan_record_rules)], narrowed := true }
def HoldsSpansUptoSaid : Prop := holdsSpansUptoRow.holds Tryz.pinned (OpenSpec.upto holdsSpansSpec)

/-- 'nameplanlaw23.HoldsLater', WHERE WHAT IT READS IS OF BULK AT MOST 1048576: true; the input reads as it did. -/
def holdsLaterUptoRow : OpenClaim := { program := "ytfnopgdcaanaiaagreatdoor", sum := "937f92191ff33842723bedc5575470b2d3880586ea66f068f0eb8a7f8cc1eb9e", func := "nameplan/nameplanlaw23.HoldsLater", spec := "holdsLater", inPlace := ["internal/bytealg.abigen_runtime_cmpstring", "internal/abi.NoEscape"], unfollowed := true, recurses := true, named := ["nameplan/record.rules", "internal/strconv.uint64pow10", "math/bits.deBruijn32tab", "math/bits.deBruijn64tab"], plainKeys := false, apart := false, laid := [("math/bits.deBruijn32tab", laid_math_bits_deBruijn32tab), ("math/bits.deBruijn64tab", laid_math_bits_deBruijn64tab), ("internal/strconv.uint64pow10", laid_internal_strconv_uint64pow10), ("nameplan/record.rules", laid_nameplan_record_rules)], narrowed := true }
def HoldsLaterUptoSaid : Prop := holdsLaterUptoRow.holds Tryz.pinned (OpenSpec.upto holdsLaterSpec)

/-- 'nameplanlaw23.HoldsKept', WHERE WHAT IT READS IS OF BULK AT MOST 1048576: true; the input reads as it did. -/
def holdsKeptUptoRow : OpenClaim := { program := "ytfnopgdcaanaiaagreatdoor", sum := "937f92191ff33842723bedc5575470b2d3880586ea66f068f0eb8a7f8cc1eb9e", func := "nameplan/nameplanlaw23.HoldsKept", spec := "holdsKept", inPlace := ["internal/bytealg.abigen_runtime_cmpstring", "internal/abi.NoEscape"], unfollowed := true, recurses := true, named := ["nameplan/record.rules", "internal/strconv.uint64pow10", "math/bits.deBruijn32tab", "math/bits.deBruijn64tab"], plainKeys := false, apart := false, laid := [("math/bits.deBruijn32tab", laid_math_bits_deBruijn32tab), ("math/bits.deBruijn64tab", laid_math_bits_deBruijn64tab), ("internal/strconv.uint64pow10", laid_internal_strconv_uint64pow10), ("nameplan/record.rules", laid_nameplan_record_rules)], narrowed := true }
def HoldsKeptUptoSaid : Prop := holdsKeptUptoRow.holds Tryz.pinned (OpenSpec.upto holdsKeptSpec)

/-- 'nameplanlaw23.HoldsMatchesReference', WHERE WHAT IT READS IS OF BULK AT MOST 1048576: true; the input reads as it did. -/
def holdsMatchesReferenceUptoRow : OpenClaim := { program := "ytfnopgdcaanaiaagreatdoor", sum := "937f92191ff33842723bedc5575470b2d3880586ea66f068f0eb8a7f8cc1eb9e", func := "nameplan/nameplanlaw23.HoldsMatchesReference", spec := "holdsMatchesReference", inPlace := ["internal/bytealg.abigen_runtime_cmpstring", "internal/abi.NoEscape"], unfollowed := true, recurses := true, named := ["nameplan/record.rules", "internal/strconv.uint64pow10", "math/bits.deBruijn32tab", "math/bits.deBruijn64tab"], plainKeys := false, apart := false, laid := [("math/bits.deBruijn32tab", laid_math_bits_deBruijn32tab), ("math/bits.deBruijn64tab", laid_math_bits_deBruijn64tab), ("internal/strconv.uint64pow10", laid_internal_strconv_uint64pow10), ("nameplan/record.rules", laid_nameplan_record_rules)], narrowed := true }
def HoldsMatchesReferenceUptoSaid : Prop := holdsMatchesReferenceUptoRow.holds Tryz.pinned (OpenSpec.upto holdsMatchesReferenceSpec)

/-- 'nameplanlaw23.HoldsAllowed', WHERE WHAT IT READS IS OF BULK AT MOST 1048576: true; the input reads as it did. -/
def holdsAllowedUptoRow : OpenClaim := { program := "ytfnopgdcaanaiaagreatdoor", sum := "937f92191ff33842723bedc5575470b2d3880586ea66f068f0eb8a7f8cc1eb9e", func := "nameplan/nameplanlaw23.HoldsAllowed", spec := "holdsAllowed", inPlace := ["internal/bytealg.abigen_runtime_cmpstring", "internal/abi.NoEscape"], unfollowed := true, recurses := true, named := ["nameplan/record.rules", "internal/strconv.uint64pow10", "math/bits.deBruijn32tab", "math/bits.deBruijn64tab"], plainKeys := false, apart := false, laid := [("math/bits.deBruijn32tab", laid_math_bits_deBruijn32tab), ("math/bits.deBruijn64tab", laid_math_bits_deBruijn64tab), ("internal/strconv.uint64pow10", laid_internal_strconv_uint64pow10), ("nameplan/record.rules", laid_nameplan_record_rules)], narrowed := true }
def HoldsAllowedUptoSaid : Prop := holdsAllowedUptoRow.holds Tryz.pinned (OpenSpec.upto holdsAllowedSpec)

/-- 'nameplanlaw25.ResignMatchesReference', WHERE WHAT IT READS IS OF BULK AT MOST 1048576: true; the input reads as it did. -/
def resignMatchesReferenceUptoRow : OpenClaim := { program := "ytfnopgdcaanaiaagreatdoor", sum := "937f92191ff33842723bedc5575470b2d3880586ea66f068f0eb8a7f8cc1eb9e", func := "nameplan/nameplanlaw25.ResignMatchesReference", spec := "resignMatchesReference", inPlace := ["internal/bytealg.abigen_runtime_cmpstring", "internal/abi.NoEscape"], unfollowed := true, recurses := true, named := ["nameplan/record.rules", "internal/strconv.uint64pow10", "math/bits.deBruijn32tab", "math/bits.deBruijn64tab"], plainKeys := false, apart := false, laid := [("math/bits.deBruijn32tab", laid_math_bits_deBruijn32tab), ("math/bits.deBruijn64tab", laid_math_bits_deBruijn64tab), ("internal/strconv.uint64pow10", laid_internal_strconv_uint64pow10), ("nameplan/record.rules", laid_nameplan_record_rules)], narrowed := true }
def ResignMatchesReferenceUptoSaid : Prop := resignMatchesReferenceUptoRow.holds Tryz.pinned (OpenSpec.upto resignMatchesReferenceSpec)

/-- 'nameplanlaw25.ResignGaps', WHERE WHAT IT READS IS OF BULK AT MOST 1048576: true; the input reads as it did. -/
def resignGapsUptoRow : OpenClaim := { program := "ytfnopgdcaanaiaagreatdoor", sum := "937f92191ff33842723bedc5575470b2d3880586ea66f068f0eb8a7f8cc1eb9e", func := "nameplan/nameplanlaw25.ResignGaps", spec := "resignGaps", inPlace := ["internal/bytealg.abigen_runtime_cmpstring", "internal/abi.NoEscape"], unfollowed := true, recurses := true, named := ["nameplan/record.rules", "internal/strconv.uint64pow10", "math/bits.deBruijn32tab", "math/bits.deBruijn64tab"], plainKeys := false, apart := false, laid := [("math/bits.deBruijn32tab", laid_math_bits_deBruijn32tab), ("math/bits.deBruijn64tab", laid_math_bits_deBruijn64tab), ("internal/strconv.uint64pow10", laid_internal_strconv_uint64pow10), ("nameplan/record.rules", laid_nameplan_record_rules)], narrowed := true }
def ResignGapsUptoSaid : Prop := resignGapsUptoRow.holds Tryz.pinned (OpenSpec.upto resignGapsSpec)

/-- 'nameplanlaw25.ResignTimes', WHERE WHAT IT READS IS OF BULK AT MOST 1048576: true; the input reads as it did. -/
def resignTimesUptoRow : OpenClaim := { program := "ytfnopgdcaanaiaagreatdoor", sum := "937f92191ff33842723bedc5575470b2d3880586ea66f068f0eb8a7f8cc1eb9e", func := "nameplan/nameplanlaw25.ResignTimes", spec := "resignTimes", inPlace := ["internal/bytealg.abigen_runtime_cmpstring", "internal/abi.NoEscape"], unfollowed := true, recurses := true, named := ["nameplan/record.rules", "internal/strconv.uint64pow10", "math/bits.deBruijn32tab", "math/bits.deBruijn64tab"], plainKeys := false, apart := false, laid := [("math/bits.deBruijn32tab", laid_math_bits_deBruijn32tab), ("math/bits.deBruijn64tab", laid_math_bits_deBruijn64tab), ("internal/strconv.uint64pow10", laid_internal_strconv_uint64pow10), ("nameplan/record.rules", laid_nameplan_record_rules)], narrowed := true }
def ResignTimesUptoSaid : Prop := resignTimesUptoRow.holds Tryz.pinned (OpenSpec.upto resignTimesSpec)

/-- 'nameplanlaw21.HistoryServing', WHERE WHAT IT READS IS OF BULK AT MOST 1048576: true; the input reads as it did. -/
def historyServingUptoRow : OpenClaim := { program := "ytfnopgdcaanaiaagreatdoor", sum := "937f92191ff33842723bedc5575470b2d3880586ea66f068f0eb8a7f8cc1eb9e", func := "nameplan/nameplanlaw21.HistoryServing", spec := "historyServing", inPlace := ["internal/bytealg.abigen_runtime_cmpstring", "internal/abi.NoEscape", "internal/bytealg.IndexByteString", "internal/bytealg.MakeNoZero"], unfollowed := true, recurses := true, named := ["nameplan/record.rules", "internal/strconv.uint64pow10", "math/bits.deBruijn32tab", "math/bits.deBruijn64tab"], plainKeys := false, apart := false, laid := [("math/bits.deBruijn32tab", laid_math_bits_deBruijn32tab), ("math/bits.deBruijn64tab", laid_math_bits_deBruijn64tab), ("internal/strconv.uint64pow10", laid_internal_strconv_uint64pow10), ("nameplan/record.rules", laid_nameplan_record_rules)], narrowed := true }
def HistoryServingUptoSaid : Prop := historyServingUptoRow.holds Tryz.pinned (OpenSpec.upto historyServingSpec)

end Rows
end Go.Proofs.YtfnopgdcaanaiaaGreatDoor
