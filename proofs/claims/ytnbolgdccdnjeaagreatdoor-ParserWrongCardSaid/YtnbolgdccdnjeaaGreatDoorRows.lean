/-
  NARROWER THAN 'FOR EVERY INPUT', by the rows' own cells (each row's printed sentence says how): PrinterMatchesReference: laid · PrinterRefuses: laid · PrinterNext: laid · PrinterParts: laid · ParserZones: laid · ParserGaps: laid · ParserOrder: laid · ParserJoins: laid · ParserWrong: laid · PrinterInverse: laid · PrinterCanonical: laid.
  DERIVED. THE GIVEN ROWS OF THIS SEAT. 11 by the template 'for every input the law returns true; each argument reads behind the call as it read before'; 0 by the template 'total and deterministic' (their statements: YtnbolgdccdnjeaaGreatDoorTotals.lean).
  GIVEN WITH THE SEED: the statements are not yours to turn. If you find one false, say at which input.
  Laid BY PROGRAM, IN A SANDBOX (cutbox-rows.mjs): the forced cells as the released guide's own fill.sh prints them over the translation 4e323642a95d2ac2… (all of the seat's roots in one cut). By AI agents, Wed Nov 11 2026. No macro, syntax, notation, axiom, sorry.
-/
import Derived.Test.YtnbolgdccdnjeaaGreatDoorChecked
import GoSem.PinnedTables
import GoSem.Claim
import GoSem.ClaimJoined
import GoSem.ClaimMapViews
import Derived.JoinedTies
import Derived.KernelRfl
namespace Go.Proofs.YtnbolgdccdnjeaaGreatDoor
/- THE CELL 'sum', in the pinned program and in every row, IS THE sha256 OF THE DUMP (.gsa) THAT YtnbolgdccdnjeaaGreatDoorProg.lean LOADS. Nothing in Lean hashes anything: it is a label: what it is worth is what the hold of that sum in a sandbox is worth. -/
noncomputable def Tryz.pinned : Pinned := { name := "ytnbolgdccdnjeaagreatdoor", sum := "4e323642a95d2ac29fbc614f404bebeb6a7229e926eb57de899a635e5c3d74ee", checked := Tryz.checked }
namespace Rows
def none {H : Type} : Left H := { results := [], args := [] }

/- WHAT THE LISTED PACKAGE-LEVEL VARIABLES READ AS WHEN THE CALL BEGINS. Each datum BY PROGRAM (the guide's laid-datum.mjs) off the statement by which the dump's own 'gosem.cut.vars' lays the variable. In a bare row this is a premise. The card (YtnbolgdccdnjeaaGreatDoorCards.lean) ties it to the program's text. -/
def laid_math_bits_deBruijn32tab {H : Type} : DataW H := .agg [.lit (.int .u8 0), .lit (.int .u8 1), .lit (.int .u8 28), .lit (.int .u8 2), .lit (.int .u8 29), .lit (.int .u8 14), .lit (.int .u8 24), .lit (.int .u8 3), .lit (.int .u8 30), .lit (.int .u8 22), .lit (.int .u8 20), .lit (.int .u8 15), .lit (.int .u8 25), .lit (.int .u8 17), .lit (.int .u8 4), .lit (.int .u8 8), .lit (.int .u8 31), .lit (.int .u8 27), .lit (.int .u8 13), .lit (.int .u8 23), .lit (.int .u8 21), .lit (.int .u8 19), .lit (.int .u8 16), .lit (.int .u8 7), .lit (.int .u8 26), .lit (.int .u8 12), .lit (.int .u8 18), .lit (.int .u8 6), .lit (.int .u8 11), .lit (.int .u8 5), .lit (.int .u8 10), .lit (.int .u8 9)]
def laid_math_bits_deBruijn64tab {H : Type} : DataW H := .agg [.lit (.int .u8 0), .lit (.int .u8 1), .lit (.int .u8 56), .lit (.int .u8 2), .lit (.int .u8 57), .lit (.int .u8 49), .lit (.int .u8 28), .lit (.int .u8 3), .lit (.int .u8 61), .lit (.int .u8 58), .lit (.int .u8 42), .lit (.int .u8 50), .lit (.int .u8 38), .lit (.int .u8 29), .lit (.int .u8 17), .lit (.int .u8 4), .lit (.int .u8 62), .lit (.int .u8 47), .lit (.int .u8 59), .lit (.int .u8 36), .lit (.int .u8 45), .lit (.int .u8 43), .lit (.int .u8 51), .lit (.int .u8 22), .lit (.int .u8 53), .lit (.int .u8 39), .lit (.int .u8 33), .lit (.int .u8 30), .lit (.int .u8 24), .lit (.int .u8 18), .lit (.int .u8 12), .lit (.int .u8 5), .lit (.int .u8 63), .lit (.int .u8 55), .lit (.int .u8 48), .lit (.int .u8 27), .lit (.int .u8 60), .lit (.int .u8 41), .lit (.int .u8 37), .lit (.int .u8 16), .lit (.int .u8 46), .lit (.int .u8 35), .lit (.int .u8 44), .lit (.int .u8 21), .lit (.int .u8 52), .lit (.int .u8 32), .lit (.int .u8 23), .lit (.int .u8 11), .lit (.int .u8 54), .lit (.int .u8 26), .lit (.int .u8 40), .lit (.int .u8 15), .lit (.int .u8 34), .lit (.int .u8 20), .lit (.int .u8 31), .lit (.int .u8 10), .lit (.int .u8 25), .lit (.int .u8 14), .lit (.int .u8 19), .lit (.int .u8 9), .lit (.int .u8 13), .lit (.int .u8 8), .lit (.int .u8 7), .lit (.int .u8 6)]
def laid_internal_strconv_uint64pow10 {H : Type} : DataW H := .agg [.lit (.int .u64 1), .lit (.int .u64 10), .lit (.int .u64 100), .lit (.int .u64 1000), .lit (.int .u64 10000), .lit (.int .u64 100000), .lit (.int .u64 1000000), .lit (.int .u64 10000000), .lit (.int .u64 100000000), .lit (.int .u64 1000000000), .lit (.int .u64 10000000000), .lit (.int .u64 100000000000), .lit (.int .u64 1000000000000), .lit (.int .u64 10000000000000), .lit (.int .u64 100000000000000), .lit (.int .u64 1000000000000000), .lit (.int .u64 10000000000000000), .lit (.int .u64 100000000000000000), .lit (.int .u64 1000000000000000000), .lit (.int .u64 10000000000000000000)]
def laid_unicode_utf8_acceptRanges {H : Type} : DataW H := .agg [.agg [.lit (.int .u8 128), .lit (.int .u8 191)], .agg [.lit (.int .u8 160), .lit (.int .u8 191)], .agg [.lit (.int .u8 128), .lit (.int .u8 159)], .agg [.lit (.int .u8 144), .lit (.int .u8 191)], .agg [.lit (.int .u8 128), .lit (.int .u8 143)], .agg [.lit (.int .u8 0), .lit (.int .u8 0)], .agg [.lit (.int .u8 0), .lit (.int .u8 0)], .agg [.lit (.int .u8 0), .lit (.int .u8 0)], .agg [.lit (.int .u8 0), .lit (.int .u8 0)], .agg [.lit (.int .u8 0), .lit (.int .u8 0)], .agg [.lit (.int .u8 0), .lit (.int .u8 0)], .agg [.lit (.int .u8 0), .lit (.int .u8 0)], .agg [.lit (.int .u8 0), .lit (.int .u8 0)], .agg [.lit (.int .u8 0), .lit (.int .u8 0)], .agg [.lit (.int .u8 0), .lit (.int .u8 0)], .agg [.lit (.int .u8 0), .lit (.int .u8 0)]]
def laid_strconv_ErrRange {H : Type} : DataW H := .iface "*errors.errorString" (.ptr (.agg [.lit (.string [118, 97, 108, 117, 101, 32, 111, 117, 116, 32, 111, 102, 32, 114, 97, 110, 103, 101])]))
def laid_strconv_ErrSyntax {H : Type} : DataW H := .iface "*errors.errorString" (.ptr (.agg [.lit (.string [105, 110, 118, 97, 108, 105, 100, 32, 115, 121, 110, 116, 97, 120])]))
def laid_nameplan_record_rules {H : Type} : DataW H := .agg [.agg [.lit (.int .i64 0), .lit (.int .i64 0), .lit (.int .i64 0), .lit (.int .i64 0), .lit (.int .i64 0), .lit (.bool false), .lit (.bool false), .lit (.bool false)], .agg [.lit (.int .i64 0), .lit (.int .i64 1), .lit (.int .i64 1000000), .lit (.int .i64 0), .lit (.int .i64 0), .lit (.bool false), .lit (.bool false), .lit (.bool true)], .agg [.lit (.int .i64 1), .lit (.int .i64 0), .lit (.int .i64 0), .lit (.int .i64 0), .lit (.int .i64 0), .lit (.bool false), .lit (.bool false), .lit (.bool false)], .agg [.lit (.int .i64 1), .lit (.int .i64 0), .lit (.int .i64 0), .lit (.int .i64 0), .lit (.int .i64 0), .lit (.bool false), .lit (.bool true), .lit (.bool false)], .agg [.lit (.int .i64 0), .lit (.int .i64 0), .lit (.int .i64 65535), .lit (.int .i64 0), .lit (.int .i64 100000), .lit (.bool false), .lit (.bool true), .lit (.bool false)], .agg [.lit (.int .i64 3), .lit (.int .i64 0), .lit (.int .i64 0), .lit (.int .i64 0), .lit (.int .i64 0), .lit (.bool false), .lit (.bool false), .lit (.bool true)], .agg [.lit (.int .i64 0), .lit (.int .i64 1), .lit (.int .i64 1000000), .lit (.int .i64 1), .lit (.int .i64 3), .lit (.bool false), .lit (.bool false), .lit (.bool false)], .agg [.lit (.int .i64 0), .lit (.int .i64 1), .lit (.int .i64 1000000), .lit (.int .i64 1), .lit (.int .i64 3), .lit (.bool false), .lit (.bool false), .lit (.bool false)], .agg [.lit (.int .i64 2), .lit (.int .i64 2), .lit (.int .i64 510), .lit (.int .i64 0), .lit (.int .i64 0), .lit (.bool true), .lit (.bool false), .lit (.bool true)]]
def laid_nameplan_printer_words {H : Type} : DataW H := .agg [.lit (.string []), .lit (.string [97, 100, 100, 114]), .lit (.string [115, 101, 114, 118, 101, 114]), .lit (.string [97, 108, 105, 97, 115]), .lit (.string [115, 116, 97, 114, 116]), .lit (.string [116, 101, 120, 116]), .lit (.string [97, 110, 99, 104, 111, 114]), .lit (.string [107, 101, 121]), .lit (.string [])]
/-- One of Go's own tables, pinned by name: the form's constant. -/
def laid_unicode_utf8_first : DataW Unit := Go.Pinned.utf8First

/-- 'nameplanlaw05.PrinterMatchesReference': WHATEVER THE INPUT: true; the input reads as it did. -/
def printerMatchesReferenceSpec : ChangeSpec := { name := "printerMatchesReference", fn := fun _ => fun
  | [d] => { results := [.lit (.bool true)], args := [d] }
  | _ => none }
def printerMatchesReferenceRow : OpenClaim := { program := "ytnbolgdccdnjeaagreatdoor", sum := "4e323642a95d2ac29fbc614f404bebeb6a7229e926eb57de899a635e5c3d74ee", func := "nameplan/nameplanlaw05.PrinterMatchesReference", spec := "printerMatchesReference", inPlace := ["internal/bytealg.abigen_runtime_cmpstring", "internal/bytealg.IndexByteString", "internal/bytealg.IndexString", "internal/abi.NoEscape"], unfollowed := true, recurses := true, named := ["nameplan/record.rules", "unicode/utf8.first", "unicode/utf8.acceptRanges", "nameplan/printer.words", "internal/strconv.uint64pow10", "math/bits.deBruijn32tab", "math/bits.deBruijn64tab", "strconv.ErrSyntax", "strconv.ErrRange", "internal/bytealg.MaxLen"], plainKeys := false, apart := false, laid := [("math/bits.deBruijn32tab", laid_math_bits_deBruijn32tab), ("math/bits.deBruijn64tab", laid_math_bits_deBruijn64tab), ("internal/strconv.uint64pow10", laid_internal_strconv_uint64pow10), ("unicode/utf8.acceptRanges", laid_unicode_utf8_acceptRanges), ("strconv.ErrRange", laid_strconv_ErrRange), ("strconv.ErrSyntax", laid_strconv_ErrSyntax), ("nameplan/record.rules", laid_nameplan_record_rules), ("nameplan/printer.words", laid_nameplan_printer_words), ("unicode/utf8.first", laid_unicode_utf8_first)] }
def PrinterMatchesReferenceSaid : Prop := printerMatchesReferenceRow.holds Tryz.pinned (OpenSpec.ofChange printerMatchesReferenceSpec)

/-- ITS FALSE NEIGHBOUR: 'it returns false'. Refute it at one input. -/
def printerMatchesReferenceWrong : ChangeSpec := { name := "printerMatchesReference", fn := fun _ => fun
  | [d] => { results := [.lit (.bool false)], args := [d] }
  | _ => none }
def PrinterMatchesReferenceWrongFalsely : Prop := printerMatchesReferenceRow.holds Tryz.pinned (OpenSpec.ofChange printerMatchesReferenceWrong)

/-- 'nameplanlaw05.PrinterRefuses': WHATEVER THE INPUT: true; the input reads as it did. -/
def printerRefusesSpec : ChangeSpec := { name := "printerRefuses", fn := fun _ => fun
  | [d1, d2, d3, d4] => { results := [.lit (.bool true)], args := [d1, d2, d3, d4] }
  | _ => none }
def printerRefusesRow : OpenClaim := { program := "ytnbolgdccdnjeaagreatdoor", sum := "4e323642a95d2ac29fbc614f404bebeb6a7229e926eb57de899a635e5c3d74ee", func := "nameplan/nameplanlaw05.PrinterRefuses", spec := "printerRefuses", inPlace := ["internal/bytealg.abigen_runtime_cmpstring", "internal/bytealg.IndexByteString", "internal/bytealg.IndexString", "internal/abi.NoEscape"], unfollowed := true, recurses := true, named := ["nameplan/record.rules", "unicode/utf8.first", "unicode/utf8.acceptRanges", "nameplan/printer.words", "internal/strconv.uint64pow10", "math/bits.deBruijn32tab", "math/bits.deBruijn64tab", "strconv.ErrSyntax", "strconv.ErrRange", "internal/bytealg.MaxLen"], plainKeys := false, apart := false, laid := [("math/bits.deBruijn32tab", laid_math_bits_deBruijn32tab), ("math/bits.deBruijn64tab", laid_math_bits_deBruijn64tab), ("internal/strconv.uint64pow10", laid_internal_strconv_uint64pow10), ("unicode/utf8.acceptRanges", laid_unicode_utf8_acceptRanges), ("strconv.ErrRange", laid_strconv_ErrRange), ("strconv.ErrSyntax", laid_strconv_ErrSyntax), ("nameplan/record.rules", laid_nameplan_record_rules), ("nameplan/printer.words", laid_nameplan_printer_words), ("unicode/utf8.first", laid_unicode_utf8_first)] }
def PrinterRefusesSaid : Prop := printerRefusesRow.holds Tryz.pinned (OpenSpec.ofChange printerRefusesSpec)

/-- ITS FALSE NEIGHBOUR: 'it returns false'. Refute it at one input. -/
def printerRefusesWrong : ChangeSpec := { name := "printerRefuses", fn := fun _ => fun
  | [d1, d2, d3, d4] => { results := [.lit (.bool false)], args := [d1, d2, d3, d4] }
  | _ => none }
def PrinterRefusesWrongFalsely : Prop := printerRefusesRow.holds Tryz.pinned (OpenSpec.ofChange printerRefusesWrong)

/-- 'nameplanlaw05.PrinterNext': WHATEVER THE INPUT: true; the input reads as it did. -/
def printerNextSpec : ChangeSpec := { name := "printerNext", fn := fun _ => fun
  | [d1, d2] => { results := [.lit (.bool true)], args := [d1, d2] }
  | _ => none }
def printerNextRow : OpenClaim := { program := "ytnbolgdccdnjeaagreatdoor", sum := "4e323642a95d2ac29fbc614f404bebeb6a7229e926eb57de899a635e5c3d74ee", func := "nameplan/nameplanlaw05.PrinterNext", spec := "printerNext", inPlace := ["internal/bytealg.abigen_runtime_cmpstring", "internal/bytealg.IndexByteString", "internal/bytealg.IndexString", "internal/abi.NoEscape"], unfollowed := true, recurses := true, named := ["nameplan/record.rules", "unicode/utf8.first", "unicode/utf8.acceptRanges", "nameplan/printer.words", "internal/strconv.uint64pow10", "math/bits.deBruijn32tab", "math/bits.deBruijn64tab", "strconv.ErrSyntax", "strconv.ErrRange", "internal/bytealg.MaxLen"], plainKeys := false, apart := false, laid := [("math/bits.deBruijn32tab", laid_math_bits_deBruijn32tab), ("math/bits.deBruijn64tab", laid_math_bits_deBruijn64tab), ("internal/strconv.uint64pow10", laid_internal_strconv_uint64pow10), ("unicode/utf8.acceptRanges", laid_unicode_utf8_acceptRanges), ("strconv.ErrRange", laid_strconv_ErrRange), ("strconv.ErrSyntax", laid_strconv_ErrSyntax), ("nameplan/record.rules", laid_nameplan_record_rules), ("nameplan/printer.words", laid_nameplan_printer_words), ("unicode/utf8.first", laid_unicode_utf8_first)] }
def PrinterNextSaid : Prop := printerNextRow.holds Tryz.pinned (OpenSpec.ofChange printerNextSpec)

/-- ITS FALSE NEIGHBOUR: 'it returns false'. Refute it at one input. -/
def printerNextWrong : ChangeSpec := { name := "printerNext", fn := fun _ => fun
  | [d1, d2] => { results := [.lit (.bool false)], args := [d1, d2] }
  | _ => none }
def PrinterNextWrongFalsely : Prop := printerNextRow.holds Tryz.pinned (OpenSpec.ofChange printerNextWrong)

/-- 'nameplanlaw05.PrinterParts': WHATEVER THE INPUT: true; the input reads as it did. -/
def printerPartsSpec : ChangeSpec := { name := "printerParts", fn := fun _ => fun
  | [d1, d2] => { results := [.lit (.bool true)], args := [d1, d2] }
  | _ => none }
def printerPartsRow : OpenClaim := { program := "ytnbolgdccdnjeaagreatdoor", sum := "4e323642a95d2ac29fbc614f404bebeb6a7229e926eb57de899a635e5c3d74ee", func := "nameplan/nameplanlaw05.PrinterParts", spec := "printerParts", inPlace := ["internal/bytealg.abigen_runtime_cmpstring", "internal/bytealg.IndexByteString", "internal/bytealg.IndexString", "internal/abi.NoEscape", "internal/bytealg.CountString"], unfollowed := true, recurses := true, named := ["nameplan/record.rules", "unicode/utf8.first", "unicode/utf8.acceptRanges", "nameplan/printer.words", "internal/strconv.uint64pow10", "math/bits.deBruijn32tab", "math/bits.deBruijn64tab", "strconv.ErrSyntax", "strconv.ErrRange", "internal/bytealg.MaxLen"], plainKeys := false, apart := false, laid := [("math/bits.deBruijn32tab", laid_math_bits_deBruijn32tab), ("math/bits.deBruijn64tab", laid_math_bits_deBruijn64tab), ("internal/strconv.uint64pow10", laid_internal_strconv_uint64pow10), ("unicode/utf8.acceptRanges", laid_unicode_utf8_acceptRanges), ("strconv.ErrRange", laid_strconv_ErrRange), ("strconv.ErrSyntax", laid_strconv_ErrSyntax), ("nameplan/record.rules", laid_nameplan_record_rules), ("nameplan/printer.words", laid_nameplan_printer_words), ("unicode/utf8.first", laid_unicode_utf8_first)] }
def PrinterPartsSaid : Prop := printerPartsRow.holds Tryz.pinned (OpenSpec.ofChange printerPartsSpec)

/-- ITS FALSE NEIGHBOUR: 'it returns false'. Refute it at one input. -/
def printerPartsWrong : ChangeSpec := { name := "printerParts", fn := fun _ => fun
  | [d1, d2] => { results := [.lit (.bool false)], args := [d1, d2] }
  | _ => none }
def PrinterPartsWrongFalsely : Prop := printerPartsRow.holds Tryz.pinned (OpenSpec.ofChange printerPartsWrong)

/-- 'nameplanlaw04.ParserZones': WHATEVER THE INPUT: true; the input reads as it did. -/
def parserZonesSpec : ChangeSpec := { name := "parserZones", fn := fun _ => fun
  | [d] => { results := [.lit (.bool true)], args := [d] }
  | _ => none }
def parserZonesRow : OpenClaim := { program := "ytnbolgdccdnjeaagreatdoor", sum := "4e323642a95d2ac29fbc614f404bebeb6a7229e926eb57de899a635e5c3d74ee", func := "nameplan/nameplanlaw04.ParserZones", spec := "parserZones", inPlace := ["internal/bytealg.IndexByteString", "internal/bytealg.IndexString", "internal/bytealg.abigen_runtime_cmpstring"], unfollowed := true, recurses := true, named := ["unicode/utf8.first", "unicode/utf8.acceptRanges", "strconv.ErrSyntax", "strconv.ErrRange", "internal/strconv.uint64pow10", "math/bits.deBruijn32tab", "math/bits.deBruijn64tab", "nameplan/record.rules", "internal/bytealg.MaxLen"], plainKeys := false, apart := false, laid := [("math/bits.deBruijn32tab", laid_math_bits_deBruijn32tab), ("math/bits.deBruijn64tab", laid_math_bits_deBruijn64tab), ("internal/strconv.uint64pow10", laid_internal_strconv_uint64pow10), ("unicode/utf8.acceptRanges", laid_unicode_utf8_acceptRanges), ("strconv.ErrRange", laid_strconv_ErrRange), ("strconv.ErrSyntax", laid_strconv_ErrSyntax), ("nameplan/record.rules", laid_nameplan_record_rules), ("unicode/utf8.first", laid_unicode_utf8_first)] }
def ParserZonesSaid : Prop := parserZonesRow.holds Tryz.pinned (OpenSpec.ofChange parserZonesSpec)

/-- ITS FALSE NEIGHBOUR: 'it returns false'. Refute it at one input. -/
def parserZonesWrong : ChangeSpec := { name := "parserZones", fn := fun _ => fun
  | [d] => { results := [.lit (.bool false)], args := [d] }
  | _ => none }
def ParserZonesWrongFalsely : Prop := parserZonesRow.holds Tryz.pinned (OpenSpec.ofChange parserZonesWrong)

/-- 'nameplanlaw04.ParserGaps': WHATEVER THE INPUT: true; the input reads as it did. -/
def parserGapsSpec : ChangeSpec := { name := "parserGaps", fn := fun _ => fun
  | [d1, d2, d3] => { results := [.lit (.bool true)], args := [d1, d2, d3] }
  | _ => none }
def parserGapsRow : OpenClaim := { program := "ytnbolgdccdnjeaagreatdoor", sum := "4e323642a95d2ac29fbc614f404bebeb6a7229e926eb57de899a635e5c3d74ee", func := "nameplan/nameplanlaw04.ParserGaps", spec := "parserGaps", inPlace := ["internal/bytealg.IndexByteString", "internal/bytealg.IndexString", "internal/bytealg.abigen_runtime_cmpstring"], unfollowed := true, recurses := true, named := ["unicode/utf8.first", "unicode/utf8.acceptRanges", "strconv.ErrSyntax", "strconv.ErrRange", "internal/strconv.uint64pow10", "math/bits.deBruijn32tab", "math/bits.deBruijn64tab", "nameplan/record.rules", "internal/bytealg.MaxLen"], plainKeys := false, apart := false, laid := [("math/bits.deBruijn32tab", laid_math_bits_deBruijn32tab), ("math/bits.deBruijn64tab", laid_math_bits_deBruijn64tab), ("internal/strconv.uint64pow10", laid_internal_strconv_uint64pow10), ("unicode/utf8.acceptRanges", laid_unicode_utf8_acceptRanges), ("strconv.ErrRange", laid_strconv_ErrRange), ("strconv.ErrSyntax", laid_strconv_ErrSyntax), ("nameplan/record.rules", laid_nameplan_record_rules), ("unicode/utf8.first", laid_unicode_utf8_first)] }
def ParserGapsSaid : Prop := parserGapsRow.holds Tryz.pinned (OpenSpec.ofChange parserGapsSpec)

/-- ITS FALSE NEIGHBOUR: 'it returns false'. Refute it at one input. -/
def parserGapsWrong : ChangeSpec := { name := "parserGaps", fn := fun _ => fun
  | [d1, d2, d3] => { results := [.lit (.bool false)], args := [d1, d2, d3] }
  | _ => none }
def ParserGapsWrongFalsely : Prop := parserGapsRow.holds Tryz.pinned (OpenSpec.ofChange parserGapsWrong)

/-- 'nameplanlaw04.ParserOrder': WHATEVER THE INPUT: true; the input reads as it did. -/
def parserOrderSpec : ChangeSpec := { name := "parserOrder", fn := fun _ => fun
  | [d1, d2, d3] => { results := [.lit (.bool true)], args := [d1, d2, d3] }
  | _ => none }
def parserOrderRow : OpenClaim := { program := "ytnbolgdccdnjeaagreatdoor", sum := "4e323642a95d2ac29fbc614f404bebeb6a7229e926eb57de899a635e5c3d74ee", func := "nameplan/nameplanlaw04.ParserOrder", spec := "parserOrder", inPlace := ["internal/bytealg.IndexByteString", "internal/bytealg.IndexString", "internal/bytealg.abigen_runtime_cmpstring"], unfollowed := true, recurses := true, named := ["unicode/utf8.first", "unicode/utf8.acceptRanges", "strconv.ErrSyntax", "strconv.ErrRange", "internal/strconv.uint64pow10", "math/bits.deBruijn32tab", "math/bits.deBruijn64tab", "nameplan/record.rules", "internal/bytealg.MaxLen"], plainKeys := false, apart := false, laid := [("math/bits.deBruijn32tab", laid_math_bits_deBruijn32tab), ("math/bits.deBruijn64tab", laid_math_bits_deBruijn64tab), ("internal/strconv.uint64pow10", laid_internal_strconv_uint64pow10), ("unicode/utf8.acceptRanges", laid_unicode_utf8_acceptRanges), ("strconv.ErrRange", laid_strconv_ErrRange), ("strconv.ErrSyntax", laid_strconv_ErrSyntax), ("nameplan/record.rules", laid_nameplan_record_rules), ("unicode/utf8.first", laid_unicode_utf8_first)] }
def ParserOrderSaid : Prop := parserOrderRow.holds Tryz.pinned (OpenSpec.ofChange parserOrderSpec)

/-- ITS FALSE NEIGHBOUR: 'it returns false'. Refute it at one input. -/
def parserOrderWrong : ChangeSpec := { name := "parserOrder", fn := fun _ => fun
  | [d1, d2, d3] => { results := [.lit (.bool false)], args := [d1, d2, d3] }
  | _ => none }
def ParserOrderWrongFalsely : Prop := parserOrderRow.holds Tryz.pinned (OpenSpec.ofChange parserOrderWrong)

/-- 'nameplanlaw04.ParserJoins': WHATEVER THE INPUT: true; the input reads as it did. -/
def parserJoinsSpec : ChangeSpec := { name := "parserJoins", fn := fun _ => fun
  | [d1, d2] => { results := [.lit (.bool true)], args := [d1, d2] }
  | _ => none }
def parserJoinsRow : OpenClaim := { program := "ytnbolgdccdnjeaagreatdoor", sum := "4e323642a95d2ac29fbc614f404bebeb6a7229e926eb57de899a635e5c3d74ee", func := "nameplan/nameplanlaw04.ParserJoins", spec := "parserJoins", inPlace := ["internal/bytealg.IndexByteString", "internal/bytealg.IndexString", "internal/bytealg.abigen_runtime_cmpstring"], unfollowed := true, recurses := true, named := ["unicode/utf8.first", "unicode/utf8.acceptRanges", "strconv.ErrSyntax", "strconv.ErrRange", "internal/strconv.uint64pow10", "math/bits.deBruijn32tab", "math/bits.deBruijn64tab", "nameplan/record.rules", "internal/bytealg.MaxLen"], plainKeys := false, apart := false, laid := [("math/bits.deBruijn32tab", laid_math_bits_deBruijn32tab), ("math/bits.deBruijn64tab", laid_math_bits_deBruijn64tab), ("internal/strconv.uint64pow10", laid_internal_strconv_uint64pow10), ("unicode/utf8.acceptRanges", laid_unicode_utf8_acceptRanges), ("strconv.ErrRange", laid_strconv_ErrRange), ("strconv.ErrSyntax", laid_strconv_ErrSyntax), ("nameplan/record.rules", laid_nameplan_record_rules), ("unicode/utf8.first", laid_unicode_utf8_first)] }
def ParserJoinsSaid : Prop := parserJoinsRow.holds Tryz.pinned (OpenSpec.ofChange parserJoinsSpec)

/-- ITS FALSE NEIGHBOUR: 'it returns false'. Refute it at one input. -/
def parserJoinsWrong : ChangeSpec := { name := "parserJoins", fn := fun _ => fun
  | [d1, d2] => { results := [.lit (.bool false)], args := [d1, d2] }
  | _ => none }
def ParserJoinsWrongFalsely : Prop := parserJoinsRow.holds Tryz.pinned (OpenSpec.ofChange parserJoinsWrong)

/-- 'nameplanlaw04.ParserWrong': WHATEVER THE INPUT: true; the input reads as it did. -/
def parserWrongSpec : ChangeSpec := { name := "parserWrong", fn := fun _ => fun
  | [d1, d2, d3] => { results := [.lit (.bool true)], args := [d1, d2, d3] }
  | _ => none }
def parserWrongRow : OpenClaim := { program := "ytnbolgdccdnjeaagreatdoor", sum := "4e323642a95d2ac29fbc614f404bebeb6a7229e926eb57de899a635e5c3d74ee", func := "nameplan/nameplanlaw04.ParserWrong", spec := "parserWrong", inPlace := ["internal/bytealg.IndexByteString", "internal/bytealg.IndexString", "internal/bytealg.abigen_runtime_cmpstring"], unfollowed := true, recurses := true, named := ["unicode/utf8.first", "unicode/utf8.acceptRanges", "strconv.ErrSyntax", "strconv.ErrRange", "internal/strconv.uint64pow10", "math/bits.deBruijn32tab", "math/bits.deBruijn64tab", "nameplan/record.rules", "internal/bytealg.MaxLen"], plainKeys := false, apart := false, laid := [("math/bits.deBruijn32tab", laid_math_bits_deBruijn32tab), ("math/bits.deBruijn64tab", laid_math_bits_deBruijn64tab), ("internal/strconv.uint64pow10", laid_internal_strconv_uint64pow10), ("unicode/utf8.acceptRanges", laid_unicode_utf8_acceptRanges), ("strconv.ErrRange", laid_strconv_ErrRange), ("strconv.ErrSyntax", laid_strconv_ErrSyntax), ("nameplan/record.rules", laid_nameplan_record_rules), ("unicode/utf8.first", laid_unicode_utf8_first)] }
def ParserWrongSaid : Prop := parserWrongRow.holds Tryz.pinned (OpenSpec.ofChange parserWrongSpec)

/-- ITS FALSE NEIGHBOUR: 'it returns false'. Refute it at one input. -/
def parserWrongWrong : ChangeSpec := { name := "parserWrong", fn := fun _ => fun
  | [d1, d2, d3] => { results := [.lit (.bool false)], args := [d1, d2, d3] }
  | _ => none }
def ParserWrongWrongFalsely : Prop := parserWrongRow.holds Tryz.pinned (OpenSpec.ofChange parserWrongWrong)

/-- 'nameplanlaw05.PrinterInverse': WHATEVER THE INPUT: true; the input reads as it did. -/
def printerInverseSpec : ChangeSpec := { name := "printerInverse", fn := fun _ => fun
  | [d] => { results := [.lit (.bool true)], args := [d] }
  | _ => none }
def printerInverseRow : OpenClaim := { program := "ytnbolgdccdnjeaagreatdoor", sum := "4e323642a95d2ac29fbc614f404bebeb6a7229e926eb57de899a635e5c3d74ee", func := "nameplan/nameplanlaw05.PrinterInverse", spec := "printerInverse", inPlace := ["internal/bytealg.abigen_runtime_cmpstring", "internal/bytealg.IndexByteString", "internal/bytealg.IndexString", "internal/abi.NoEscape"], unfollowed := true, recurses := true, named := ["nameplan/record.rules", "unicode/utf8.first", "unicode/utf8.acceptRanges", "nameplan/printer.words", "internal/strconv.uint64pow10", "math/bits.deBruijn32tab", "math/bits.deBruijn64tab", "strconv.ErrSyntax", "strconv.ErrRange", "internal/bytealg.MaxLen"], plainKeys := false, apart := false, laid := [("math/bits.deBruijn32tab", laid_math_bits_deBruijn32tab), ("math/bits.deBruijn64tab", laid_math_bits_deBruijn64tab), ("internal/strconv.uint64pow10", laid_internal_strconv_uint64pow10), ("unicode/utf8.acceptRanges", laid_unicode_utf8_acceptRanges), ("strconv.ErrRange", laid_strconv_ErrRange), ("strconv.ErrSyntax", laid_strconv_ErrSyntax), ("nameplan/record.rules", laid_nameplan_record_rules), ("nameplan/printer.words", laid_nameplan_printer_words), ("unicode/utf8.first", laid_unicode_utf8_first)] }
def PrinterInverseSaid : Prop := printerInverseRow.holds Tryz.pinned (OpenSpec.ofChange printerInverseSpec)

/-- ITS FALSE NEIGHBOUR: 'it returns false'. Refute it at one input. -/
def printerInverseWrong : ChangeSpec := { name := "printerInverse", fn := fun _ => fun
  | [d] => { results := [.lit (.bool false)], args := [d] }
  | _ => none }
def PrinterInverseWrongFalsely : Prop := printerInverseRow.holds Tryz.pinned (OpenSpec.ofChange printerInverseWrong)

/-- 'nameplanlaw05.PrinterCanonical': WHATEVER THE INPUT: true; the input reads as it did. -/
def printerCanonicalSpec : ChangeSpec := { name := "printerCanonical", fn := fun _ => fun
  | [d] => { results := [.lit (.bool true)], args := [d] }
  | _ => none }
def printerCanonicalRow : OpenClaim := { program := "ytnbolgdccdnjeaagreatdoor", sum := "4e323642a95d2ac29fbc614f404bebeb6a7229e926eb57de899a635e5c3d74ee", func := "nameplan/nameplanlaw05.PrinterCanonical", spec := "printerCanonical", inPlace := ["internal/bytealg.abigen_runtime_cmpstring", "internal/bytealg.IndexByteString", "internal/bytealg.IndexString", "internal/abi.NoEscape"], unfollowed := true, recurses := true, named := ["nameplan/record.rules", "unicode/utf8.first", "unicode/utf8.acceptRanges", "nameplan/printer.words", "internal/strconv.uint64pow10", "math/bits.deBruijn32tab", "math/bits.deBruijn64tab", "strconv.ErrSyntax", "strconv.ErrRange", "internal/bytealg.MaxLen"], plainKeys := false, apart := false, laid := [("math/bits.deBruijn32tab", laid_math_bits_deBruijn32tab), ("math/bits.deBruijn64tab", laid_math_bits_deBruijn64tab), ("internal/strconv.uint64pow10", laid_internal_strconv_uint64pow10), ("unicode/utf8.acceptRanges", laid_unicode_utf8_acceptRanges), ("strconv.ErrRange", laid_strconv_ErrRange), ("strconv.ErrSyntax", laid_strconv_ErrSyntax), ("nameplan/record.rules", laid_nameplan_record_rules), ("nameplan/printer.words", laid_nameplan_printer_words), ("unicode/utf8.first", laid_unicode_utf8_first)] }
def PrinterCanonicalSaid : Prop := printerCanonicalRow.holds Tryz.pinned (OpenSpec.ofChange printerCanonicalSpec)

/-- ITS FALSE NEIGHBOUR: 'it returns false'. Refute it at one input. -/
def printerCanonicalWrong : ChangeSpec := { name := "printerCanonical", fn := fun _ => fun
  | [d] => { results := [.lit (.bool false)], args := [d] }
  | _ => none }
def PrinterCanonicalWrongFalsely : Prop := printerCanonicalRow.holds Tryz.pinned (OpenSpec.ofChange printerCanonicalWrong)

/- THE SECOND FORM. 'bulk': how many values and letters a reading holds, each counted each time it is reached (what is shared counts as often as it is met; a slice's spare places count too). A statement '..UptoSaid' is the law's where the arguments, and the package variables that the reading takes, are together of bulk at most 1048576: NARROWER than '..Said'. Prove '..Said' where nothing that the law and all that it calls make is longer than what came in: it says more and counts as full. Else prove '..UptoSaid'. A law counts once. -/
mutual
def uptoBulk {H : Type} : DataW H → Nat
  | .lit (.string bytes) => bytes.length + 1
  | .lit _ => 1
  | .nil => 1
  | .ptr d => uptoBulk d + 1
  | .slice elems spare => uptoBulkAll elems + uptoBulkAll spare + 1
  | .agg parts => uptoBulkAll parts + 1
  | .iface _ d => uptoBulk d + 1
  | .map entries => uptoBulkEntries entries + 1
  | .held _ => 1
def uptoBulkAll {H : Type} : List (DataW H) → Nat
  | [] => 0
  | d :: r => uptoBulk d + uptoBulkAll r
def uptoBulkEntries {H : Type} : List (Lit × DataW H) → Nat
  | [] => 0
  | x :: r => uptoBulkEntry x + uptoBulkEntries r
def uptoBulkEntry {H : Type} : Lit × DataW H → Nat
  | (.string bytes, d) => bytes.length + uptoBulk d + 1
  | (_, d) => uptoBulk d + 1
 end
def uptoSmall : (H : Type) → List (DataW H) → Bool := fun _ ds => decide (uptoBulkAll ds ≤ 1048576)
def OpenSpec.upto (s : _root_.Go.ChangeSpec) : _root_.Go.OpenSpec := { _root_.Go.OpenSpec.ofChange s with cond := some uptoSmall }

/-- 'nameplanlaw05.PrinterMatchesReference', WHERE WHAT IT READS IS OF BULK AT MOST 1048576: true; the input reads as it did. -/
def printerMatchesReferenceUptoRow : OpenClaim := { program := "ytnbolgdccdnjeaagreatdoor", sum := "4e323642a95d2ac29fbc614f404bebeb6a7229e926eb57de899a635e5c3d74ee", func := "nameplan/nameplanlaw05.PrinterMatchesReference", spec := "printerMatchesReference", inPlace := ["internal/bytealg.abigen_runtime_cmpstring", "internal/bytealg.IndexByteString", "internal/bytealg.IndexString", "internal/abi.NoEscape"], unfollowed := true, recurses := true, named := ["nameplan/record.rules", "unicode/utf8.first", "unicode/utf8.acceptRanges", "nameplan/printer.words", "internal/strconv.uint64pow10", "math/bits.deBruijn32tab", "math/bits.deBruijn64tab", "strconv.ErrSyntax", "strconv.ErrRange", "internal/bytealg.MaxLen"], plainKeys := false, apart := false, laid := [("math/bits.deBruijn32tab", laid_math_bits_deBruijn32tab), ("math/bits.deBruijn64tab", laid_math_bits_deBruijn64tab), ("internal/strconv.uint64pow10", laid_internal_strconv_uint64pow10), ("unicode/utf8.acceptRanges", laid_unicode_utf8_acceptRanges), ("strconv.ErrRange", laid_strconv_ErrRange), ("strconv.ErrSyntax", laid_strconv_ErrSyntax), ("nameplan/record.rules", laid_nameplan_record_rules), ("nameplan/printer.words", laid_nameplan_printer_words), ("unicode/utf8.first", laid_unicode_utf8_first)], narrowed := true }
def PrinterMatchesReferenceUptoSaid : Prop := printerMatchesReferenceUptoRow.holds Tryz.pinned (OpenSpec.upto printerMatchesReferenceSpec)

/-- 'nameplanlaw05.PrinterRefuses', WHERE WHAT IT READS IS OF BULK AT MOST 1048576: true; the input reads as it did. -/
def printerRefusesUptoRow : OpenClaim := { program := "ytnbolgdccdnjeaagreatdoor", sum := "4e323642a95d2ac29fbc614f404bebeb6a7229e926eb57de899a635e5c3d74ee", func := "nameplan/nameplanlaw05.PrinterRefuses", spec := "printerRefuses", inPlace := ["internal/bytealg.abigen_runtime_cmpstring", "internal/bytealg.IndexByteString", "internal/bytealg.IndexString", "internal/abi.NoEscape"], unfollowed := true, recurses := true, named := ["nameplan/record.rules", "unicode/utf8.first", "unicode/utf8.acceptRanges", "nameplan/printer.words", "internal/strconv.uint64pow10", "math/bits.deBruijn32tab", "math/bits.deBruijn64tab", "strconv.ErrSyntax", "strconv.ErrRange", "internal/bytealg.MaxLen"], plainKeys := false, apart := false, laid := [("math/bits.deBruijn32tab", laid_math_bits_deBruijn32tab), ("math/bits.deBruijn64tab", laid_math_bits_deBruijn64tab), ("internal/strconv.uint64pow10", laid_internal_strconv_uint64pow10), ("unicode/utf8.acceptRanges", laid_unicode_utf8_acceptRanges), ("strconv.ErrRange", laid_strconv_ErrRange), ("strconv.ErrSyntax", laid_strconv_ErrSyntax), ("nameplan/record.rules", laid_nameplan_record_rules), ("nameplan/printer.words", laid_nameplan_printer_words), ("unicode/utf8.first", laid_unicode_utf8_first)], narrowed := true }
def PrinterRefusesUptoSaid : Prop := printerRefusesUptoRow.holds Tryz.pinned (OpenSpec.upto printerRefusesSpec)

/-- 'nameplanlaw05.PrinterNext', WHERE WHAT IT READS IS OF BULK AT MOST 1048576: true; the input reads as it did. -/
def printerNextUptoRow : OpenClaim := { program := "ytnbolgdccdnjeaagreatdoor", sum := "4e323642a95d2ac29fbc614f404bebeb6a7229e926eb57de899a635e5c3d74ee", func := "nameplan/nameplanlaw05.PrinterNext", spec := "printerNext", inPlace := ["internal/bytealg.abigen_runtime_cmpstring", "internal/bytealg.IndexByteString", "internal/bytealg.IndexString", "internal/abi.NoEscape"], unfollowed := true, recurses := true, named := ["nameplan/record.rules", "unicode/utf8.first", "unicode/utf8.acceptRanges", "nameplan/printer.words", "internal/strconv.uint64pow10", "math/bits.deBruijn32tab", "math/bits.deBruijn64tab", "strconv.ErrSyntax", "strconv.ErrRange", "internal/bytealg.MaxLen"], plainKeys := false, apart := false, laid := [("math/bits.deBruijn32tab", laid_math_bits_deBruijn32tab), ("math/bits.deBruijn64tab", laid_math_bits_deBruijn64tab), ("internal/strconv.uint64pow10", laid_internal_strconv_uint64pow10), ("unicode/utf8.acceptRanges", laid_unicode_utf8_acceptRanges), ("strconv.ErrRange", laid_strconv_ErrRange), ("strconv.ErrSyntax", laid_strconv_ErrSyntax), ("nameplan/record.rules", laid_nameplan_record_rules), ("nameplan/printer.words", laid_nameplan_printer_words), ("unicode/utf8.first", laid_unicode_utf8_first)], narrowed := true }
def PrinterNextUptoSaid : Prop := printerNextUptoRow.holds Tryz.pinned (OpenSpec.upto printerNextSpec)

/-- 'nameplanlaw05.PrinterParts', WHERE WHAT IT READS IS OF BULK AT MOST 1048576: true; the input reads as it did. -/
def printerPartsUptoRow : OpenClaim := { program := "ytnbolgdccdnjeaagreatdoor", sum := "4e323642a95d2ac29fbc614f404bebeb6a7229e926eb57de899a635e5c3d74ee", func := "nameplan/nameplanlaw05.PrinterParts", spec := "printerParts", inPlace := ["internal/bytealg.abigen_runtime_cmpstring", "internal/bytealg.IndexByteString", "internal/bytealg.IndexString", "internal/abi.NoEscape", "internal/bytealg.CountString"], unfollowed := true, recurses := true, named := ["nameplan/record.rules", "unicode/utf8.first", "unicode/utf8.acceptRanges", "nameplan/printer.words", "internal/strconv.uint64pow10", "math/bits.deBruijn32tab", "math/bits.deBruijn64tab", "strconv.ErrSyntax", "strconv.ErrRange", "internal/bytealg.MaxLen"], plainKeys := false, apart := false, laid := [("math/bits.deBruijn32tab", laid_math_bits_deBruijn32tab), ("math/bits.deBruijn64tab", laid_math_bits_deBruijn64tab), ("internal/strconv.uint64pow10", laid_internal_strconv_uint64pow10), ("unicode/utf8.acceptRanges", laid_unicode_utf8_acceptRanges), ("strconv.ErrRange", laid_strconv_ErrRange), ("strconv.ErrSyntax", laid_strconv_ErrSyntax), ("nameplan/record.rules", laid_nameplan_record_rules), ("nameplan/printer.words", laid_nameplan_printer_words), ("unicode/utf8.first", laid_unicode_utf8_first)], narrowed := true }
def PrinterPartsUptoSaid : Prop := printerPartsUptoRow.holds Tryz.pinned (OpenSpec.upto printerPartsSpec)

/-- 'nameplanlaw04.ParserZones', WHERE WHAT IT READS IS OF BULK AT MOST 1048576: true; the input reads as it did. -/
def parserZonesUptoRow : OpenClaim := { program := "ytnbolgdccdnjeaagreatdoor", sum := "4e323642a95d2ac29fbc614f404bebeb6a7229e926eb57de899a635e5c3d74ee", func := "nameplan/nameplanlaw04.ParserZones", spec := "parserZones", inPlace := ["internal/bytealg.IndexByteString", "internal/bytealg.IndexString", "internal/bytealg.abigen_runtime_cmpstring"], unfollowed := true, recurses := true, named := ["unicode/utf8.first", "unicode/utf8.acceptRanges", "strconv.ErrSyntax", "strconv.ErrRange", "internal/strconv.uint64pow10", "math/bits.deBruijn32tab", "math/bits.deBruijn64tab", "nameplan/record.rules", "internal/bytealg.MaxLen"], plainKeys := false, apart := false, laid := [("math/bits.deBruijn32tab", laid_math_bits_deBruijn32tab), ("math/bits.deBruijn64tab", laid_math_bits_deBruijn64tab), ("internal/strconv.uint64pow10", laid_internal_strconv_uint64pow10), ("unicode/utf8.acceptRanges", laid_unicode_utf8_acceptRanges), ("strconv.ErrRange", laid_strconv_ErrRange), ("strconv.ErrSyntax", laid_strconv_ErrSyntax), ("nameplan/record.rules", laid_nameplan_record_rules), ("unicode/utf8.first", laid_unicode_utf8_first)], narrowed := true }
def ParserZonesUptoSaid : Prop := parserZonesUptoRow.holds Tryz.pinned (OpenSpec.upto parserZonesSpec)

/-- 'nameplanlaw04.ParserGaps', WHERE WHAT IT READS IS OF BULK AT MOST 1048576: true; the input reads as it did. -/
def parserGapsUptoRow : OpenClaim := { program := "ytnbolgdccdnjeaagreatdoor", sum := "4e323642a95d2ac29fbc614f404bebeb6a7229e926eb57de899a635e5c3d74ee", func := "nameplan/nameplanlaw04.ParserGaps", spec := "parserGaps", inPlace := ["internal/bytealg.IndexByteString", "internal/bytealg.IndexString", "internal/bytealg.abigen_runtime_cmpstring"], unfollowed := true, recurses := true, named := ["unicode/utf8.first", "unicode/utf8.acceptRanges", "strconv.ErrSyntax", "strconv.ErrRange", "internal/strconv.uint64pow10", "math/bits.deBruijn32tab", "math/bits.deBruijn64tab", "nameplan/record.rules", "internal/bytealg.MaxLen"], plainKeys := false, apart := false, laid := [("math/bits.deBruijn32tab", laid_math_bits_deBruijn32tab), ("math/bits.deBruijn64tab", laid_math_bits_deBruijn64tab), ("internal/strconv.uint64pow10", laid_internal_strconv_uint64pow10), ("unicode/utf8.acceptRanges", laid_unicode_utf8_acceptRanges), ("strconv.ErrRange", laid_strconv_ErrRange), ("strconv.ErrSyntax", laid_strconv_ErrSyntax), ("nameplan/record.rules", laid_nameplan_record_rules), ("unicode/utf8.first", laid_unicode_utf8_first)], narrowed := true }
def ParserGapsUptoSaid : Prop := parserGapsUptoRow.holds Tryz.pinned (OpenSpec.upto parserGapsSpec)

/-- 'nameplanlaw04.ParserOrder', WHERE WHAT IT READS IS OF BULK AT MOST 1048576: true; the input reads as it did. -/
def parserOrderUptoRow : OpenClaim := { program := "ytnbolgdccdnjeaagreatdoor", sum := "4e323642a95d2ac29fbc614f404bebeb6a7229e926eb57de899a635e5c3d74ee", func := "nameplan/nameplanlaw04.ParserOrder", spec := "parserOrder", inPlace := ["internal/bytealg.IndexByteString", "internal/bytealg.IndexString", "internal/bytealg.abigen_runtime_cmpstring"], unfollowed := true, recurses := true, named := ["unicode/utf8.first", "unicode/utf8.acceptRanges", "strconv.ErrSyntax", "strconv.ErrRange", "internal/strconv.uint64pow10", "math/bits.deBruijn32tab", "math/bits.deBruijn64tab", "nameplan/record.rules", "internal/bytealg.MaxLen"], plainKeys := false, apart := false, laid := [("math/bits.deBruijn32tab", laid_math_bits_deBruijn32tab), ("math/bits.deBruijn64tab", laid_math_bits_deBruijn64tab), ("internal/strconv.uint64pow10", laid_internal_strconv_uint64pow10), ("unicode/utf8.acceptRanges", laid_unicode_utf8_acceptRanges), ("strconv.ErrRange", laid_strconv_ErrRange), ("strconv.ErrSyntax", laid_strconv_ErrSyntax), ("nameplan/record.rules", laid_nameplan_record_rules), ("unicode/utf8.first", laid_unicode_utf8_first)], narrowed := true }
def ParserOrderUptoSaid : Prop := parserOrderUptoRow.holds Tryz.pinned (OpenSpec.upto parserOrderSpec)

/-- 'nameplanlaw04.ParserJoins', WHERE WHAT IT READS IS OF BULK AT MOST 1048576: true; the input reads as it did. -/
def parserJoinsUptoRow : OpenClaim := { program := "ytnbolgdccdnjeaagreatdoor", sum := "4e323642a95d2ac29fbc614f404bebeb6a7229e926eb57de899a635e5c3d74ee", func := "nameplan/nameplanlaw04.ParserJoins", spec := "parserJoins", inPlace := ["internal/bytealg.IndexByteString", "internal/bytealg.IndexString", "internal/bytealg.abigen_runtime_cmpstring"], unfollowed := true, recurses := true, named := ["unicode/utf8.first", "unicode/utf8.acceptRanges", "strconv.ErrSyntax", "strconv.ErrRange", "internal/strconv.uint64pow10", "math/bits.deBruijn32tab", "math/bits.deBruijn64tab", "nameplan/record.rules", "internal/bytealg.MaxLen"], plainKeys := false, apart := false, laid := [("math/bits.deBruijn32tab", laid_math_bits_deBruijn32tab), ("math/bits.deBruijn64tab", laid_math_bits_deBruijn64tab), ("internal/strconv.uint64pow10", laid_internal_strconv_uint64pow10), ("unicode/utf8.acceptRanges", laid_unicode_utf8_acceptRanges), ("strconv.ErrRange", laid_strconv_ErrRange), ("strconv.ErrSyntax", laid_strconv_ErrSyntax), ("nameplan/record.rules", laid_nameplan_record_rules), ("unicode/utf8.first", laid_unicode_utf8_first)], narrowed := true }
def ParserJoinsUptoSaid : Prop := parserJoinsUptoRow.holds Tryz.pinned (OpenSpec.upto parserJoinsSpec)

/-- 'nameplanlaw04.ParserWrong', WHERE WHAT IT READS IS OF BULK AT MOST 1048576: true; the input reads as it did. -/
def parserWrongUptoRow : OpenClaim := { program := "ytnbolgdccdnjeaagreatdoor", sum := "4e323642a95d2ac29fbc614f404bebeb6a7229e926eb57de899a635e5c3d74ee", func := "nameplan/nameplanlaw04.ParserWrong", spec := "parserWrong", inPlace := ["internal/bytealg.IndexByteString", "internal/bytealg.IndexString", "internal/bytealg.abigen_runtime_cmpstring"], unfollowed := true, recurses := true, named := ["unicode/utf8.first", "unicode/utf8.acceptRanges", "strconv.ErrSyntax", "strconv.ErrRange", "internal/strconv.uint64pow10", "math/bits.deBruijn32tab", "math/bits.deBruijn64tab", "nameplan/record.rules", "internal/bytealg.MaxLen"], plainKeys := false, apart := false, laid := [("math/bits.deBruijn32tab", laid_math_bits_deBruijn32tab), ("math/bits.deBruijn64tab", laid_math_bits_deBruijn64tab), ("internal/strconv.uint64pow10", laid_internal_strconv_uint64pow10), ("unicode/utf8.acceptRanges", laid_unicode_utf8_acceptRanges), ("strconv.ErrRange", laid_strconv_ErrRange), ("strconv.ErrSyntax", laid_strconv_ErrSyntax), ("nameplan/record.rules", laid_nameplan_record_rules), ("unicode/utf8.first", laid_unicode_utf8_first)], narrowed := true }
def ParserWrongUptoSaid : Prop := parserWrongUptoRow.holds Tryz.pinned (OpenSpec.upto parserWrongSpec)

/-- 'nameplanlaw05.PrinterInverse', WHERE WHAT IT READS IS OF BULK AT MOST 1048576: true; the input reads as it did. -/
def printerInverseUptoRow : OpenClaim := { program := "ytnbolgdccdnjeaagreatdoor", sum := "4e323642a95d2ac29fbc614f404bebeb6a7229e926eb57de899a635e5c3d74ee", func := "nameplan/nameplanlaw05.PrinterInverse", spec := "printerInverse", inPlace := ["internal/bytealg.abigen_runtime_cmpstring", "internal/bytealg.IndexByteString", "internal/bytealg.IndexString", "internal/abi.NoEscape"], unfollowed := true, recurses := true, named := ["nameplan/record.rules", "unicode/utf8.first", "unicode/utf8.acceptRanges", "nameplan/printer.words", "internal/strconv.uint64pow10", "math/bits.deBruijn32tab", "math/bits.deBruijn64tab", "strconv.ErrSyntax", "strconv.ErrRange", "internal/bytealg.MaxLen"], plainKeys := false, apart := false, laid := [("math/bits.deBruijn32tab", laid_math_bits_deBruijn32tab), ("math/bits.deBruijn64tab", laid_math_bits_deBruijn64tab), ("internal/strconv.uint64pow10", laid_internal_strconv_uint64pow10), ("unicode/utf8.acceptRanges", laid_unicode_utf8_acceptRanges), ("strconv.ErrRange", laid_strconv_ErrRange), ("strconv.ErrSyntax", laid_strconv_ErrSyntax), ("nameplan/record.rules", laid_nameplan_record_rules), ("nameplan/printer.words", laid_nameplan_printer_words), ("unicode/utf8.first", laid_unicode_utf8_first)], narrowed := true }
def PrinterInverseUptoSaid : Prop := printerInverseUptoRow.holds Tryz.pinned (OpenSpec.upto printerInverseSpec)

/-- 'nameplanlaw05.PrinterCanonical', WHERE WHAT IT READS IS OF BULK AT MOST 1048576: true; the input reads as it did. -/
def printerCanonicalUptoRow : OpenClaim := { program := "ytnbolgdccdnjeaagreatdoor", sum := "4e323642a95d2ac29fbc614f404bebeb6a7229e926eb57de899a635e5c3d74ee", func := "nameplan/nameplanlaw05.PrinterCanonical", spec := "printerCanonical", inPlace := ["internal/bytealg.abigen_runtime_cmpstring", "internal/bytealg.IndexByteString", "internal/bytealg.IndexString", "internal/abi.NoEscape"], unfollowed := true, recurses := true, named := ["nameplan/record.rules", "unicode/utf8.first", "unicode/utf8.acceptRanges", "nameplan/printer.words", "internal/strconv.uint64pow10", "math/bits.deBruijn32tab", "math/bits.deBruijn64tab", "strconv.ErrSyntax", "strconv.ErrRange", "internal/bytealg.MaxLen"], plainKeys := false, apart := false, laid := [("math/bits.deBruijn32tab", laid_math_bits_deBruijn32tab), ("math/bits.deBruijn64tab", laid_math_bits_deBruijn64tab), ("internal/strconv.uint64pow10", laid_internal_strconv_uint64pow10), ("unicode/utf8.acceptRanges", laid_unicode_utf8_acceptRanges), ("strconv.ErrRange", laid_strconv_ErrRange), ("strconv.ErrSyntax", laid_strconv_ErrSyntax), ("nameplan/record.rules", laid_nameplan_record_rules), ("nameplan/printer.words", laid_nameplan_printer_words), ("unicode/utf8.first", laid_unicode_utf8_first)], narrowed := true }
def PrinterCanonicalUptoSaid : Prop := printerCanonicalUptoRow.holds Tryz.pinned (OpenSpec.upto printerCanonicalSpec)

end Rows
end Go.Proofs.YtnbolgdccdnjeaaGreatDoor
