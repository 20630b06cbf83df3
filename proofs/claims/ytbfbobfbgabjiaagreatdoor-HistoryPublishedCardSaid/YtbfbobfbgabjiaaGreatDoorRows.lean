/-
  NARROWER THAN 'FOR EVERY INPUT', by the rows' own cells (each row's printed sentence says how): HistoryMatchesReference: laid · HistoryAt: laid · HistoryParts: laid · HistoryOrder: laid · HistoryShorter: laid · HistoryPublished: laid · HistoryServing: laid.
  DERIVED. THE GIVEN ROWS OF THIS SEAT. 7 by the template 'for every input the law returns true; each argument reads behind the call as it read before'; 0 by the template 'total and deterministic' (their statements: YtbfbobfbgabjiaaGreatDoorTotals.lean).
  GIVEN WITH THE SEED: the statements are not yours to turn. If you find one false, say at which input.
  Laid BY PROGRAM, IN A SANDBOX (cutbox-rows.mjs): the forced cells as the released guide's own fill.sh prints them over the translation 403e4dd038c9a277… (all of the seat's roots in one cut). By AI agents, Wed Nov 11 2026. No macro, syntax, notation, axiom, sorry.
-/
import Derived.Test.YtbfbobfbgabjiaaGreatDoorChecked
import GoSem.Claim
import GoSem.ClaimJoined
import GoSem.ClaimMapViews
import Derived.JoinedTies
import Derived.KernelRfl
namespace Go.Proofs.YtbfbobfbgabjiaaGreatDoor
/- THE CELL 'sum', in the pinned program and in every row, IS THE sha256 OF THE DUMP (.gsa) THAT YtbfbobfbgabjiaaGreatDoorProg.lean LOADS. Nothing in Lean hashes anything: it is a label: what it is worth is what the hold of that sum in a sandbox is worth. -/
noncomputable def Tryz.pinned : Pinned := { name := "ytbfbobfbgabjiaagreatdoor", sum := "403e4dd038c9a2772e9dec92eeb719c44008e96ef299bdf3ec376a22a77df6ee", checked := Tryz.checked }
namespace Rows
def none {H : Type} : Left H := { results := [], args := [] }

/- WHAT THE LISTED PACKAGE-LEVEL VARIABLES READ AS WHEN THE CALL BEGINS. Each datum BY PROGRAM (the guide's laid-datum.mjs) off the statement by which the dump's own 'gosem.cut.vars' lays the variable. In a bare row this is a premise. The card (YtbfbobfbgabjiaaGreatDoorCards.lean) ties it to the program's text. -/
def laid_math_bits_deBruijn32tab {H : Type} : DataW H := .agg [.lit (.int .u8 0), .lit (.int .u8 1), .lit (.int .u8 28), .lit (.int .u8 2), .lit (.int .u8 29), .lit (.int .u8 14), .lit (.int .u8 24), .lit (.int .u8 3), .lit (.int .u8 30), .lit (.int .u8 22), .lit (.int .u8 20), .lit (.int .u8 15), .lit (.int .u8 25), .lit (.int .u8 17), .lit (.int .u8 4), .lit (.int .u8 8), .lit (.int .u8 31), .lit (.int .u8 27), .lit (.int .u8 13), .lit (.int .u8 23), .lit (.int .u8 21), .lit (.int .u8 19), .lit (.int .u8 16), .lit (.int .u8 7), .lit (.int .u8 26), .lit (.int .u8 12), .lit (.int .u8 18), .lit (.int .u8 6), .lit (.int .u8 11), .lit (.int .u8 5), .lit (.int .u8 10), .lit (.int .u8 9)]
def laid_math_bits_deBruijn64tab {H : Type} : DataW H := .agg [.lit (.int .u8 0), .lit (.int .u8 1), .lit (.int .u8 56), .lit (.int .u8 2), .lit (.int .u8 57), .lit (.int .u8 49), .lit (.int .u8 28), .lit (.int .u8 3), .lit (.int .u8 61), .lit (.int .u8 58), .lit (.int .u8 42), .lit (.int .u8 50), .lit (.int .u8 38), .lit (.int .u8 29), .lit (.int .u8 17), .lit (.int .u8 4), .lit (.int .u8 62), .lit (.int .u8 47), .lit (.int .u8 59), .lit (.int .u8 36), .lit (.int .u8 45), .lit (.int .u8 43), .lit (.int .u8 51), .lit (.int .u8 22), .lit (.int .u8 53), .lit (.int .u8 39), .lit (.int .u8 33), .lit (.int .u8 30), .lit (.int .u8 24), .lit (.int .u8 18), .lit (.int .u8 12), .lit (.int .u8 5), .lit (.int .u8 63), .lit (.int .u8 55), .lit (.int .u8 48), .lit (.int .u8 27), .lit (.int .u8 60), .lit (.int .u8 41), .lit (.int .u8 37), .lit (.int .u8 16), .lit (.int .u8 46), .lit (.int .u8 35), .lit (.int .u8 44), .lit (.int .u8 21), .lit (.int .u8 52), .lit (.int .u8 32), .lit (.int .u8 23), .lit (.int .u8 11), .lit (.int .u8 54), .lit (.int .u8 26), .lit (.int .u8 40), .lit (.int .u8 15), .lit (.int .u8 34), .lit (.int .u8 20), .lit (.int .u8 31), .lit (.int .u8 10), .lit (.int .u8 25), .lit (.int .u8 14), .lit (.int .u8 19), .lit (.int .u8 9), .lit (.int .u8 13), .lit (.int .u8 8), .lit (.int .u8 7), .lit (.int .u8 6)]
def laid_internal_strconv_uint64pow10 {H : Type} : DataW H := .agg [.lit (.int .u64 1), .lit (.int .u64 10), .lit (.int .u64 100), .lit (.int .u64 1000), .lit (.int .u64 10000), .lit (.int .u64 100000), .lit (.int .u64 1000000), .lit (.int .u64 10000000), .lit (.int .u64 100000000), .lit (.int .u64 1000000000), .lit (.int .u64 10000000000), .lit (.int .u64 100000000000), .lit (.int .u64 1000000000000), .lit (.int .u64 10000000000000), .lit (.int .u64 100000000000000), .lit (.int .u64 1000000000000000), .lit (.int .u64 10000000000000000), .lit (.int .u64 100000000000000000), .lit (.int .u64 1000000000000000000), .lit (.int .u64 10000000000000000000)]
def laid_nameplan_record_rules {H : Type} : DataW H := .agg [.agg [.lit (.int .i64 0), .lit (.int .i64 0), .lit (.int .i64 0), .lit (.int .i64 0), .lit (.int .i64 0), .lit (.bool false), .lit (.bool false), .lit (.bool false)], .agg [.lit (.int .i64 0), .lit (.int .i64 1), .lit (.int .i64 1000000), .lit (.int .i64 0), .lit (.int .i64 0), .lit (.bool false), .lit (.bool false), .lit (.bool true)], .agg [.lit (.int .i64 1), .lit (.int .i64 0), .lit (.int .i64 0), .lit (.int .i64 0), .lit (.int .i64 0), .lit (.bool false), .lit (.bool false), .lit (.bool false)], .agg [.lit (.int .i64 1), .lit (.int .i64 0), .lit (.int .i64 0), .lit (.int .i64 0), .lit (.int .i64 0), .lit (.bool false), .lit (.bool true), .lit (.bool false)], .agg [.lit (.int .i64 0), .lit (.int .i64 0), .lit (.int .i64 65535), .lit (.int .i64 0), .lit (.int .i64 100000), .lit (.bool false), .lit (.bool true), .lit (.bool false)], .agg [.lit (.int .i64 3), .lit (.int .i64 0), .lit (.int .i64 0), .lit (.int .i64 0), .lit (.int .i64 0), .lit (.bool false), .lit (.bool false), .lit (.bool true)], .agg [.lit (.int .i64 0), .lit (.int .i64 1), .lit (.int .i64 1000000), .lit (.int .i64 1), .lit (.int .i64 3), .lit (.bool false), .lit (.bool false), .lit (.bool false)], .agg [.lit (.int .i64 0), .lit (.int .i64 1), .lit (.int .i64 1000000), .lit (.int .i64 1), .lit (.int .i64 3), .lit (.bool false), .lit (.bool false), .lit (.bool false)], .agg [.lit (.int .i64 2), .lit (.int .i64 2), .lit (.int .i64 510), .lit (.int .i64 0), .lit (.int .i64 0), .lit (.bool true), .lit (.bool false), .lit (.bool true)]]

/-- 'nameplanlaw21.HistoryMatchesReference': WHATEVER THE INPUT: true; the input reads as it did. -/
def historyMatchesReferenceSpec : ChangeSpec := { name := "historyMatchesReference", fn := fun _ => fun
  | [d1, d2, d3, d4] => { results := [.lit (.bool true)], args := [d1, d2, d3, d4] }
  | _ => none }
def historyMatchesReferenceRow : OpenClaim := { program := "ytbfbobfbgabjiaagreatdoor", sum := "403e4dd038c9a2772e9dec92eeb719c44008e96ef299bdf3ec376a22a77df6ee", func := "nameplan/nameplanlaw21.HistoryMatchesReference", spec := "historyMatchesReference", inPlace := ["internal/bytealg.abigen_runtime_cmpstring", "internal/abi.NoEscape"], unfollowed := true, recurses := true, named := ["nameplan/record.rules", "internal/strconv.uint64pow10", "math/bits.deBruijn32tab", "math/bits.deBruijn64tab"], plainKeys := false, apart := false, laid := [("math/bits.deBruijn32tab", laid_math_bits_deBruijn32tab), ("math/bits.deBruijn64tab", laid_math_bits_deBruijn64tab), ("internal/strconv.uint64pow10", laid_internal_strconv_uint64pow10), ("nameplan/record.rules", laid_nameplan_record_rules)] }
def HistoryMatchesReferenceSaid : Prop := historyMatchesReferenceRow.holds Tryz.pinned (OpenSpec.ofChange historyMatchesReferenceSpec)

/-- ITS FALSE NEIGHBOUR: 'it returns false'. Refute it at one input. -/
def historyMatchesReferenceWrong : ChangeSpec := { name := "historyMatchesReference", fn := fun _ => fun
  | [d1, d2, d3, d4] => { results := [.lit (.bool false)], args := [d1, d2, d3, d4] }
  | _ => none }
def HistoryMatchesReferenceWrongFalsely : Prop := historyMatchesReferenceRow.holds Tryz.pinned (OpenSpec.ofChange historyMatchesReferenceWrong)

/-- 'nameplanlaw21.HistoryAt': WHATEVER THE INPUT: true; the input reads as it did. -/
def historyAtSpec : ChangeSpec := { name := "historyAt", fn := fun _ => fun
  | [d1, d2] => { results := [.lit (.bool true)], args := [d1, d2] }
  | _ => none }
def historyAtRow : OpenClaim := { program := "ytbfbobfbgabjiaagreatdoor", sum := "403e4dd038c9a2772e9dec92eeb719c44008e96ef299bdf3ec376a22a77df6ee", func := "nameplan/nameplanlaw21.HistoryAt", spec := "historyAt", inPlace := ["internal/bytealg.abigen_runtime_cmpstring", "internal/abi.NoEscape"], unfollowed := true, recurses := true, named := ["nameplan/record.rules", "internal/strconv.uint64pow10", "math/bits.deBruijn32tab", "math/bits.deBruijn64tab"], plainKeys := false, apart := false, laid := [("math/bits.deBruijn32tab", laid_math_bits_deBruijn32tab), ("math/bits.deBruijn64tab", laid_math_bits_deBruijn64tab), ("internal/strconv.uint64pow10", laid_internal_strconv_uint64pow10), ("nameplan/record.rules", laid_nameplan_record_rules)] }
def HistoryAtSaid : Prop := historyAtRow.holds Tryz.pinned (OpenSpec.ofChange historyAtSpec)

/-- ITS FALSE NEIGHBOUR: 'it returns false'. Refute it at one input. -/
def historyAtWrong : ChangeSpec := { name := "historyAt", fn := fun _ => fun
  | [d1, d2] => { results := [.lit (.bool false)], args := [d1, d2] }
  | _ => none }
def HistoryAtWrongFalsely : Prop := historyAtRow.holds Tryz.pinned (OpenSpec.ofChange historyAtWrong)

/-- 'nameplanlaw21.HistoryParts': WHATEVER THE INPUT: true; the input reads as it did. -/
def historyPartsSpec : ChangeSpec := { name := "historyParts", fn := fun _ => fun
  | [d1, d2, d3, d4, d5] => { results := [.lit (.bool true)], args := [d1, d2, d3, d4, d5] }
  | _ => none }
def historyPartsRow : OpenClaim := { program := "ytbfbobfbgabjiaagreatdoor", sum := "403e4dd038c9a2772e9dec92eeb719c44008e96ef299bdf3ec376a22a77df6ee", func := "nameplan/nameplanlaw21.HistoryParts", spec := "historyParts", inPlace := ["internal/bytealg.abigen_runtime_cmpstring", "internal/abi.NoEscape"], unfollowed := true, recurses := true, named := ["nameplan/record.rules", "internal/strconv.uint64pow10", "math/bits.deBruijn32tab", "math/bits.deBruijn64tab"], plainKeys := false, apart := false, laid := [("math/bits.deBruijn32tab", laid_math_bits_deBruijn32tab), ("math/bits.deBruijn64tab", laid_math_bits_deBruijn64tab), ("internal/strconv.uint64pow10", laid_internal_strconv_uint64pow10), ("nameplan/record.rules", laid_nameplan_record_rules)] }
def HistoryPartsSaid : Prop := historyPartsRow.holds Tryz.pinned (OpenSpec.ofChange historyPartsSpec)

/-- ITS FALSE NEIGHBOUR: 'it returns false'. Refute it at one input. -/
def historyPartsWrong : ChangeSpec := { name := "historyParts", fn := fun _ => fun
  | [d1, d2, d3, d4, d5] => { results := [.lit (.bool false)], args := [d1, d2, d3, d4, d5] }
  | _ => none }
def HistoryPartsWrongFalsely : Prop := historyPartsRow.holds Tryz.pinned (OpenSpec.ofChange historyPartsWrong)

/-- 'nameplanlaw21.HistoryOrder': WHATEVER THE INPUT: true; the input reads as it did. -/
def historyOrderSpec : ChangeSpec := { name := "historyOrder", fn := fun _ => fun
  | [d1, d2] => { results := [.lit (.bool true)], args := [d1, d2] }
  | _ => none }
def historyOrderRow : OpenClaim := { program := "ytbfbobfbgabjiaagreatdoor", sum := "403e4dd038c9a2772e9dec92eeb719c44008e96ef299bdf3ec376a22a77df6ee", func := "nameplan/nameplanlaw21.HistoryOrder", spec := "historyOrder", inPlace := ["internal/bytealg.abigen_runtime_cmpstring", "internal/abi.NoEscape"], unfollowed := true, recurses := true, named := ["nameplan/record.rules", "internal/strconv.uint64pow10", "math/bits.deBruijn32tab", "math/bits.deBruijn64tab"], plainKeys := false, apart := false, laid := [("math/bits.deBruijn32tab", laid_math_bits_deBruijn32tab), ("math/bits.deBruijn64tab", laid_math_bits_deBruijn64tab), ("internal/strconv.uint64pow10", laid_internal_strconv_uint64pow10), ("nameplan/record.rules", laid_nameplan_record_rules)] }
def HistoryOrderSaid : Prop := historyOrderRow.holds Tryz.pinned (OpenSpec.ofChange historyOrderSpec)

/-- ITS FALSE NEIGHBOUR: 'it returns false'. Refute it at one input. -/
def historyOrderWrong : ChangeSpec := { name := "historyOrder", fn := fun _ => fun
  | [d1, d2] => { results := [.lit (.bool false)], args := [d1, d2] }
  | _ => none }
def HistoryOrderWrongFalsely : Prop := historyOrderRow.holds Tryz.pinned (OpenSpec.ofChange historyOrderWrong)

/-- 'nameplanlaw21.HistoryShorter': WHATEVER THE INPUT: true; the input reads as it did. -/
def historyShorterSpec : ChangeSpec := { name := "historyShorter", fn := fun _ => fun
  | [d1, d2, d3, d4] => { results := [.lit (.bool true)], args := [d1, d2, d3, d4] }
  | _ => none }
def historyShorterRow : OpenClaim := { program := "ytbfbobfbgabjiaagreatdoor", sum := "403e4dd038c9a2772e9dec92eeb719c44008e96ef299bdf3ec376a22a77df6ee", func := "nameplan/nameplanlaw21.HistoryShorter", spec := "historyShorter", inPlace := ["internal/bytealg.abigen_runtime_cmpstring", "internal/abi.NoEscape"], unfollowed := true, recurses := true, named := ["nameplan/record.rules", "internal/strconv.uint64pow10", "math/bits.deBruijn32tab", "math/bits.deBruijn64tab"], plainKeys := false, apart := false, laid := [("math/bits.deBruijn32tab", laid_math_bits_deBruijn32tab), ("math/bits.deBruijn64tab", laid_math_bits_deBruijn64tab), ("internal/strconv.uint64pow10", laid_internal_strconv_uint64pow10), ("nameplan/record.rules", laid_nameplan_record_rules)] }
def HistoryShorterSaid : Prop := historyShorterRow.holds Tryz.pinned (OpenSpec.ofChange historyShorterSpec)

/-- ITS FALSE NEIGHBOUR: 'it returns false'. Refute it at one input. -/
def historyShorterWrong : ChangeSpec := { name := "historyShorter", fn := fun _ => fun
  | [d1, d2, d3, d4] => { results := [.lit (.bool false)], args := [d1, d2, d3, d4] }
  | _ => none }
def HistoryShorterWrongFalsely : Prop := historyShorterRow.holds Tryz.pinned (OpenSpec.ofChange historyShorterWrong)

/-- 'nameplanlaw21.HistoryPublished': WHATEVER THE INPUT: true; the input reads as it did. -/
def historyPublishedSpec : ChangeSpec := { name := "historyPublished", fn := fun _ => fun
  | [d1, d2, d3] => { results := [.lit (.bool true)], args := [d1, d2, d3] }
  | _ => none }
def historyPublishedRow : OpenClaim := { program := "ytbfbobfbgabjiaagreatdoor", sum := "403e4dd038c9a2772e9dec92eeb719c44008e96ef299bdf3ec376a22a77df6ee", func := "nameplan/nameplanlaw21.HistoryPublished", spec := "historyPublished", inPlace := ["internal/bytealg.abigen_runtime_cmpstring", "internal/abi.NoEscape"], unfollowed := true, recurses := true, named := ["nameplan/record.rules", "internal/strconv.uint64pow10", "math/bits.deBruijn32tab", "math/bits.deBruijn64tab"], plainKeys := false, apart := false, laid := [("math/bits.deBruijn32tab", laid_math_bits_deBruijn32tab), ("math/bits.deBruijn64tab", laid_math_bits_deBruijn64tab), ("internal/strconv.uint64pow10", laid_internal_strconv_uint64pow10), ("nameplan/record.rules", laid_nameplan_record_rules)] }
def HistoryPublishedSaid : Prop := historyPublishedRow.holds Tryz.pinned (OpenSpec.ofChange historyPublishedSpec)

/-- ITS FALSE NEIGHBOUR: 'it returns false'. Refute it at one input. -/
def historyPublishedWrong : ChangeSpec := { name := "historyPublished", fn := fun _ => fun
  | [d1, d2, d3] => { results := [.lit (.bool false)], args := [d1, d2, d3] }
  | _ => none }
def HistoryPublishedWrongFalsely : Prop := historyPublishedRow.holds Tryz.pinned (OpenSpec.ofChange historyPublishedWrong)

/-- 'nameplanlaw21.HistoryServing': WHATEVER THE INPUT: true; the input reads as it did. -/
def historyServingSpec : ChangeSpec := { name := "historyServing", fn := fun _ => fun
  | [d1, d2, d3, d4] => { results := [.lit (.bool true)], args := [d1, d2, d3, d4] }
  | _ => none }
def historyServingRow : OpenClaim := { program := "ytbfbobfbgabjiaagreatdoor", sum := "403e4dd038c9a2772e9dec92eeb719c44008e96ef299bdf3ec376a22a77df6ee", func := "nameplan/nameplanlaw21.HistoryServing", spec := "historyServing", inPlace := ["internal/bytealg.abigen_runtime_cmpstring", "internal/abi.NoEscape", "internal/bytealg.IndexByteString", "internal/bytealg.MakeNoZero"], unfollowed := true, recurses := true, named := ["nameplan/record.rules", "internal/strconv.uint64pow10", "math/bits.deBruijn32tab", "math/bits.deBruijn64tab"], plainKeys := false, apart := false, laid := [("math/bits.deBruijn32tab", laid_math_bits_deBruijn32tab), ("math/bits.deBruijn64tab", laid_math_bits_deBruijn64tab), ("internal/strconv.uint64pow10", laid_internal_strconv_uint64pow10), ("nameplan/record.rules", laid_nameplan_record_rules)] }
def HistoryServingSaid : Prop := historyServingRow.holds Tryz.pinned (OpenSpec.ofChange historyServingSpec)

/-- ITS FALSE NEIGHBOUR: 'it returns false'. Refute it at one input. -/
def historyServingWrong : ChangeSpec := { name := "historyServing", fn := fun _ => fun
  | [d1, d2, d3, d4] => { results := [.lit (.bool false)], args := [d1, d2, d3, d4] }
  | _ => none }
def HistoryServingWrongFalsely : Prop := historyServingRow.holds Tryz.pinned (OpenSpec.ofChange historyServingWrong)

/- THE SECOND FORM. 'bulk': how many values and letters a reading holds, each counted each time it is reached (what is shared counts as often as it is met; a slice's spare places count too). A statement '..UptoSaid' is the law's where the arguments, and the package variables that the reading takes, are together of bulk at most 1048576: NARROWER than '..Said'. Prove '..Said' where nothing that the law and all that it calls make is longer than what came in: it says more and counts as full. Else prove '..UptoSaid'. A law counts once. -/
mutual
def uptoBulk {H : Type} : DataW H → Nat
  | .lit (.string bytes) => bytes.length + 1
  | .lit _ => 1
  | .nil => 1
  | .ptr d => uptoBulk d + 1
  | .slice elems spare => uptoBulkAll elems + uptoBulkAll spare + 1
  | .agg parts => uptoBulkAll parts + 1
  | .iface _ d => uptoBulk d + 1
  | .map entries => uptoBulkEntries entries + 1
  | .held _ => 1
def uptoBulkAll {H : Type} : List (DataW H) → Nat
  | [] => 0
  | d :: r => uptoBulk d + uptoBulkAll r
def uptoBulkEntries {H : Type} : List (Lit × DataW H) → Nat
  | [] => 0
  | x :: r => uptoBulkEntry x + uptoBulkEntries r
def uptoBulkEntry {H : Type} : Lit × DataW H → Nat
  | (.string bytes, d) => bytes.length + uptoBulk d + 1
  | (_, d) => uptoBulk d + 1
 end
def uptoSmall : (H : Type) → List (DataW H) → Bool := fun _ ds => decide (uptoBulkAll ds ≤ 1048576)
def OpenSpec.upto (s : _root_.Go.ChangeSpec) : _root_.Go.OpenSpec := { _root_.Go.OpenSpec.ofChange s with cond := some uptoSmall }

/-- 'nameplanlaw21.HistoryMatchesReference', WHERE WHAT IT READS IS OF BULK AT MOST 1048576: true; the input reads as it did. -/
def historyMatchesReferenceUptoRow : OpenClaim := { program := "ytbfbobfbgabjiaagreatdoor", sum := "403e4dd038c9a2772e9dec92eeb719c44008e96ef299bdf3ec376a22a77df6ee", func := "nameplan/nameplanlaw21.HistoryMatchesReference", spec := "historyMatchesReference", inPlace := ["internal/bytealg.abigen_runtime_cmpstring", "internal/abi.NoEscape"], unfollowed := true, recurses := true, named := ["nameplan/record.rules", "internal/strconv.uint64pow10", "math/bits.deBruijn32tab", "math/bits.deBruijn64tab"], plainKeys := false, apart := false, laid := [("math/bits.deBruijn32tab", laid_math_bits_deBruijn32tab), ("math/bits.deBruijn64tab", laid_math_bits_deBruijn64tab), ("internal/strconv.uint64pow10", laid_internal_strconv_uint64pow10), ("nameplan/record.rules", laid_nameplan_record_rules)], narrowed := true }
def HistoryMatchesReferenceUptoSaid : Prop := historyMatchesReferenceUptoRow.holds Tryz.pinned (OpenSpec.upto historyMatchesReferenceSpec)

/-- 'nameplanlaw21.HistoryAt', WHERE WHAT IT READS IS OF BULK AT MOST 1048576: true; the input reads as it did. -/
def historyAtUptoRow : OpenClaim := { program := "ytbfbobfbgabjiaagreatdoor", sum := "403e4dd038c9a2772e9dec92eeb719c44008e96ef299bdf3ec376a22a77df6ee", func := "nameplan/nameplanlaw21.HistoryAt", spec := "historyAt", inPlace := ["internal/bytealg.abigen_runtime_cmpstring", "internal/abi.NoEscape"], unfollowed := true, recurses := true, named := ["nameplan/record.rules", "internal/strconv.uint64pow10", "math/bits.deBruijn32tab", "math/bits.deBruijn64tab"], plainKeys := false, apart := false, laid := [("math/bits.deBruijn32tab", laid_math_bits_deBruijn32tab), ("math/bits.deBruijn64tab", laid_math_bits_deBruijn64tab), ("internal/strconv.uint64pow10", laid_internal_strconv_uint64pow10), ("nameplan/record.rules", laid_nameplan_record_rules)], narrowed := true }
def HistoryAtUptoSaid : Prop := historyAtUptoRow.holds Tryz.pinned (OpenSpec.upto historyAtSpec)

/-- 'nameplanlaw21.HistoryParts', WHERE WHAT IT READS IS OF BULK AT MOST 1048576: true; the input reads as it did. -/
def historyPartsUptoRow : OpenClaim := { program := "ytbfbobfbgabjiaagreatdoor", sum := "403e4dd038c9a2772e9dec92eeb719c44008e96ef299bdf3ec376a22a77df6ee", func := "nameplan/nameplanlaw21.HistoryParts", spec := "historyParts", inPlace := ["internal/bytealg.abigen_runtime_cmpstring", "internal/abi.NoEscape"], unfollowed := true, recurses := true, named := ["nameplan/record.rules", "internal/strconv.uint64pow10", "math/bits.deBruijn32tab", "math/bits.deBruijn64tab"], plainKeys := false, apart := false, laid := [("math/bits.deBruijn32tab", laid_math_bits_deBruijn32tab), ("math/bits.deBruijn64tab", laid_math_bits_deBruijn64tab), ("internal/strconv.uint64pow10", laid_internal_strconv_uint64pow10), ("nameplan/record.rules", laid_nameplan_record_rules)], narrowed := true }
def HistoryPartsUptoSaid : Prop := historyPartsUptoRow.holds Tryz.pinned (OpenSpec.upto historyPartsSpec)

/-- 'nameplanlaw21.HistoryOrder', WHERE WHAT IT READS IS OF BULK AT MOST 1048576: true; the input reads as it did. -/
def historyOrderUptoRow : OpenClaim := { program := "ytbfbobfbgabjiaagreatdoor", sum := "403e4dd038c9a2772e9dec92eeb719c44008e96ef299bdf3ec376a22a77df6ee", func := "nameplan/nameplanlaw21.HistoryOrder", spec := "historyOrder", inPlace := ["internal/bytealg.abigen_runtime_cmpstring", "internal/abi.NoEscape"], unfollowed := true, recurses := true, named := ["nameplan/record.rules", "internal/strconv.uint64pow10", "math/bits.deBruijn32tab", "math/bits.deBruijn64tab"], plainKeys := false, apart := false, laid := [("math/bits.deBruijn32tab", laid_math_bits_deBruijn32tab), ("math/bits.deBruijn64tab", laid_math_bits_deBruijn64tab), ("internal/strconv.uint64pow10", laid_internal_strconv_uint64pow10), ("nameplan/record.rules", laid_nameplan_record_rules)], narrowed := true }
def HistoryOrderUptoSaid : Prop := historyOrderUptoRow.holds Tryz.pinned (OpenSpec.upto historyOrderSpec)

/-- 'nameplanlaw21.HistoryShorter', WHERE WHAT IT READS IS OF BULK AT MOST 1048576: true; the input reads as it did. -/
def historyShorterUptoRow : OpenClaim := { program := "ytbfbobfbgabjiaagreatdoor", sum := "403e4dd038c9a2772e9dec92eeb719c44008e96ef299bdf3ec376a22a77df6ee", func := "nameplan/nameplanlaw21.HistoryShorter", spec := "historyShorter", inPlace := ["internal/bytealg.abigen_runtime_cmpstring", "internal/abi.NoEscape"], unfollowed := true, recurses := true, named := ["nameplan/record.rules", "internal/strconv.uint64pow10", "math/bits.deBruijn32tab", "math/bits.deBruijn64tab"], plainKeys := false, apart := false, laid := [("math/bits.deBruijn32tab", laid_math_bits_deBruijn32tab), ("math/bits.deBruijn64tab", laid_math_bits_deBruijn64tab), ("internal/strconv.uint64pow10", laid_internal_strconv_uint64pow10), ("nameplan/record.rules", laid_nameplan_record_rules)], narrowed := true }
def HistoryShorterUptoSaid : Prop := historyShorterUptoRow.holds Tryz.pinned (OpenSpec.upto historyShorterSpec)

/-- 'nameplanlaw21.HistoryPublished', WHERE WHAT IT READS IS OF BULK AT MOST 1048576: true; the input reads as it did. -/
def historyPublishedUptoRow : OpenClaim := { program := "ytbfbobfbgabjiaagreatdoor", sum := "403e4dd038c9a2772e9dec92eeb719c44008e96ef299bdf3ec376a22a77df6ee", func := "nameplan/nameplanlaw21.HistoryPublished", spec := "historyPublished", inPlace := ["internal/bytealg.abigen_runtime_cmpstring", "internal/abi.NoEscape"], unfollowed := true, recurses := true, named := ["nameplan/record.rules", "internal/strconv.uint64pow10", "math/bits.deBruijn32tab", "math/bits.deBruijn64tab"], plainKeys := false, apart := false, laid := [("math/bits.deBruijn32tab", laid_math_bits_deBruijn32tab), ("math/bits.deBruijn64tab", laid_math_bits_deBruijn64tab), ("internal/strconv.uint64pow10", laid_internal_strconv_uint64pow10), ("nameplan/record.rules", laid_nameplan_record_rules)], narrowed := true }
def HistoryPublishedUptoSaid : Prop := historyPublishedUptoRow.holds Tryz.pinned (OpenSpec.upto historyPublishedSpec)

/-- 'nameplanlaw21.HistoryServing', WHERE WHAT IT READS IS OF BULK AT MOST 1048576: true; the input reads as it did. -/
def historyServingUptoRow : OpenClaim := { program := "ytbfbobfbgabjiaagreatdoor", sum := "403e4dd038c9a2772e9dec92eeb719c44008e96ef299bdf3ec376a22a77df6ee", func := "nameplan/nameplanlaw21.HistoryServing", spec := "historyServing", inPlace := ["internal/bytealg.abigen_runtime_cmpstring", "internal/abi.NoEscape", "internal/bytealg.IndexByteString", "internal/bytealg.MakeNoZero"], unfollowed := true, recurses := true, named := ["nameplan/record.rules", "internal/strconv.uint64pow10", "math/bits.deBruijn32tab", "math/bits.deBruijn64tab"], plainKeys := false, apart := false, laid := [("math/bits.deBruijn32tab", laid_math_bits_deBruijn32tab), ("math/bits.deBruijn64tab", laid_math_bits_deBruijn64tab), ("internal/strconv.uint64pow10", laid_internal_strconv_uint64pow10), ("nameplan/record.rules", laid_nameplan_record_rules)], narrowed := true }
def HistoryServingUptoSaid : Prop := historyServingUptoRow.holds Tryz.pinned (OpenSpec.upto historyServingSpec)

end Rows
end Go.Proofs.YtbfbobfbgabjiaaGreatDoor
