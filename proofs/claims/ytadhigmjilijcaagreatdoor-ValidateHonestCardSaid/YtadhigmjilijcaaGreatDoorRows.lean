/-
  NARROWER THAN 'FOR EVERY INPUT', by the rows' own cells (each row's printed sentence says how): ValidateMatchesReference: laid · ValidateSecure: laid · ValidateForged: laid · ValidateMissing: laid · ValidateFilter: laid · ValidateHonest: laid.
  DERIVED. THE GIVEN ROWS OF THIS SEAT. 6 by the template 'for every input the law returns true; each argument reads behind the call as it read before'; 0 by the template 'total and deterministic' (their statements: YtadhigmjilijcaaGreatDoorTotals.lean).
  GIVEN WITH THE SEED: the statements are not yours to turn. If you find one false, say at which input.
  Laid BY PROGRAM, IN A SANDBOX (cutbox-rows.mjs): the forced cells as the released guide's own fill.sh prints them over the translation e2b0af444d2052fe… (all of the seat's roots in one cut). By AI agents, Wed Nov 11 2026. No macro, syntax, notation, axiom, sorry.
-/
import Derived.Test.YtadhigmjilijcaaGreatDoorChecked
import GoSem.Claim
import GoSem.ClaimJoined
import GoSem.ClaimMapViews
import Derived.JoinedTies
import Derived.KernelRfl
namespace Go.Proofs.YtadhigmjilijcaaGreatDoor
/- THE CELL 'sum', in the pinned program and in every row, IS THE sha256 OF THE DUMP (.gsa) THAT YtadhigmjilijcaaGreatDoorProg.lean LOADS. Nothing in Lean hashes anything: it is a label: what it is worth is what the hold of that sum in a sandbox is worth. -/
noncomputable def Tryz.pinned : Pinned := { name := "ytadhigmjilijcaagreatdoor", sum := "e2b0af444d2052febf4d244993c9c918fd2cec2685db458aa13b9fc218498c91", checked := Tryz.checked }
namespace Rows
def none {H : Type} : Left H := { results := [], args := [] }

/- WHAT THE LISTED PACKAGE-LEVEL VARIABLES READ AS WHEN THE CALL BEGINS. Each datum BY PROGRAM (the guide's laid-datum.mjs) off the statement by which the dump's own 'gosem.cut.vars' lays the variable. In a bare row this is a premise. The card (YtadhigmjilijcaaGreatDoorCards.lean) ties it to the program's text. -/
def laid_nameplan_record_rules {H : Type} : DataW H := .agg [.agg [.lit (.int .i64 0), .lit (.int .i64 0), .lit (.int .i64 0), .lit (.int .i64 0), .lit (.int .i64 0), .lit (.bool false), .lit (.bool false), .lit (.bool false)], .agg [.lit (.int .i64 0), .lit (.int .i64 1), .lit (.int .i64 1000000), .lit (.int .i64 0), .lit (.int .i64 0), .lit (.bool false), .lit (.bool false), .lit (.bool true)], .agg [.lit (.int .i64 1), .lit (.int .i64 0), .lit (.int .i64 0), .lit (.int .i64 0), .lit (.int .i64 0), .lit (.bool false), .lit (.bool false), .lit (.bool false)], .agg [.lit (.int .i64 1), .lit (.int .i64 0), .lit (.int .i64 0), .lit (.int .i64 0), .lit (.int .i64 0), .lit (.bool false), .lit (.bool true), .lit (.bool false)], .agg [.lit (.int .i64 0), .lit (.int .i64 0), .lit (.int .i64 65535), .lit (.int .i64 0), .lit (.int .i64 100000), .lit (.bool false), .lit (.bool true), .lit (.bool false)], .agg [.lit (.int .i64 3), .lit (.int .i64 0), .lit (.int .i64 0), .lit (.int .i64 0), .lit (.int .i64 0), .lit (.bool false), .lit (.bool false), .lit (.bool true)], .agg [.lit (.int .i64 0), .lit (.int .i64 1), .lit (.int .i64 1000000), .lit (.int .i64 1), .lit (.int .i64 3), .lit (.bool false), .lit (.bool false), .lit (.bool false)], .agg [.lit (.int .i64 0), .lit (.int .i64 1), .lit (.int .i64 1000000), .lit (.int .i64 1), .lit (.int .i64 3), .lit (.bool false), .lit (.bool false), .lit (.bool false)], .agg [.lit (.int .i64 2), .lit (.int .i64 2), .lit (.int .i64 510), .lit (.int .i64 0), .lit (.int .i64 0), .lit (.bool true), .lit (.bool false), .lit (.bool true)]]

/-- 'nameplanlaw30.ValidateMatchesReference': WHATEVER THE INPUT: true; the input reads as it did. -/
def validateMatchesReferenceSpec : ChangeSpec := { name := "validateMatchesReference", fn := fun _ => fun
  | [d1, d2, d3, d4, d5, d6, d7] => { results := [.lit (.bool true)], args := [d1, d2, d3, d4, d5, d6, d7] }
  | _ => none }
def validateMatchesReferenceRow : OpenClaim := { program := "ytadhigmjilijcaagreatdoor", sum := "e2b0af444d2052febf4d244993c9c918fd2cec2685db458aa13b9fc218498c91", func := "nameplan/nameplanlaw30.ValidateMatchesReference", spec := "validateMatchesReference", inPlace := ["internal/bytealg.IndexByteString", "internal/bytealg.abigen_runtime_cmpstring", "internal/bytealg.CountString", "internal/bytealg.IndexString", "internal/abi.NoEscape", "internal/bytealg.MakeNoZero"], unfollowed := true, recurses := true, named := ["nameplan/record.rules", "internal/bytealg.MaxLen"], plainKeys := false, apart := false, laid := [("nameplan/record.rules", laid_nameplan_record_rules)] }
def ValidateMatchesReferenceSaid : Prop := validateMatchesReferenceRow.holds Tryz.pinned (OpenSpec.ofChange validateMatchesReferenceSpec)

/-- ITS FALSE NEIGHBOUR: 'it returns false'. Refute it at one input. -/
def validateMatchesReferenceWrong : ChangeSpec := { name := "validateMatchesReference", fn := fun _ => fun
  | [d1, d2, d3, d4, d5, d6, d7] => { results := [.lit (.bool false)], args := [d1, d2, d3, d4, d5, d6, d7] }
  | _ => none }
def ValidateMatchesReferenceWrongFalsely : Prop := validateMatchesReferenceRow.holds Tryz.pinned (OpenSpec.ofChange validateMatchesReferenceWrong)

/-- 'nameplanlaw30.ValidateSecure': WHATEVER THE INPUT: true; the input reads as it did. -/
def validateSecureSpec : ChangeSpec := { name := "validateSecure", fn := fun _ => fun
  | [d1, d2, d3, d4, d5] => { results := [.lit (.bool true)], args := [d1, d2, d3, d4, d5] }
  | _ => none }
def validateSecureRow : OpenClaim := { program := "ytadhigmjilijcaagreatdoor", sum := "e2b0af444d2052febf4d244993c9c918fd2cec2685db458aa13b9fc218498c91", func := "nameplan/nameplanlaw30.ValidateSecure", spec := "validateSecure", inPlace := ["internal/bytealg.IndexByteString", "internal/bytealg.abigen_runtime_cmpstring", "internal/bytealg.CountString", "internal/bytealg.IndexString", "internal/abi.NoEscape", "internal/bytealg.MakeNoZero"], unfollowed := true, recurses := true, named := ["nameplan/record.rules", "internal/bytealg.MaxLen"], plainKeys := false, apart := false, laid := [("nameplan/record.rules", laid_nameplan_record_rules)] }
def ValidateSecureSaid : Prop := validateSecureRow.holds Tryz.pinned (OpenSpec.ofChange validateSecureSpec)

/-- ITS FALSE NEIGHBOUR: 'it returns false'. Refute it at one input. -/
def validateSecureWrong : ChangeSpec := { name := "validateSecure", fn := fun _ => fun
  | [d1, d2, d3, d4, d5] => { results := [.lit (.bool false)], args := [d1, d2, d3, d4, d5] }
  | _ => none }
def ValidateSecureWrongFalsely : Prop := validateSecureRow.holds Tryz.pinned (OpenSpec.ofChange validateSecureWrong)

/-- 'nameplanlaw30.ValidateForged': WHATEVER THE INPUT: true; the input reads as it did. -/
def validateForgedSpec : ChangeSpec := { name := "validateForged", fn := fun _ => fun
  | [d1, d2, d3, d4, d5, d6, d7] => { results := [.lit (.bool true)], args := [d1, d2, d3, d4, d5, d6, d7] }
  | _ => none }
def validateForgedRow : OpenClaim := { program := "ytadhigmjilijcaagreatdoor", sum := "e2b0af444d2052febf4d244993c9c918fd2cec2685db458aa13b9fc218498c91", func := "nameplan/nameplanlaw30.ValidateForged", spec := "validateForged", inPlace := ["internal/bytealg.IndexByteString", "internal/bytealg.abigen_runtime_cmpstring", "internal/bytealg.CountString", "internal/bytealg.IndexString", "internal/abi.NoEscape", "internal/bytealg.MakeNoZero"], unfollowed := true, recurses := true, named := ["nameplan/record.rules", "internal/bytealg.MaxLen"], plainKeys := false, apart := false, laid := [("nameplan/record.rules", laid_nameplan_record_rules)] }
def ValidateForgedSaid : Prop := validateForgedRow.holds Tryz.pinned (OpenSpec.ofChange validateForgedSpec)

/-- ITS FALSE NEIGHBOUR: 'it returns false'. Refute it at one input. -/
def validateForgedWrong : ChangeSpec := { name := "validateForged", fn := fun _ => fun
  | [d1, d2, d3, d4, d5, d6, d7] => { results := [.lit (.bool false)], args := [d1, d2, d3, d4, d5, d6, d7] }
  | _ => none }
def ValidateForgedWrongFalsely : Prop := validateForgedRow.holds Tryz.pinned (OpenSpec.ofChange validateForgedWrong)

/-- 'nameplanlaw30.ValidateMissing': WHATEVER THE INPUT: true; the input reads as it did. -/
def validateMissingSpec : ChangeSpec := { name := "validateMissing", fn := fun _ => fun
  | [d1, d2, d3, d4, d5] => { results := [.lit (.bool true)], args := [d1, d2, d3, d4, d5] }
  | _ => none }
def validateMissingRow : OpenClaim := { program := "ytadhigmjilijcaagreatdoor", sum := "e2b0af444d2052febf4d244993c9c918fd2cec2685db458aa13b9fc218498c91", func := "nameplan/nameplanlaw30.ValidateMissing", spec := "validateMissing", inPlace := ["internal/bytealg.IndexByteString", "internal/bytealg.abigen_runtime_cmpstring", "internal/bytealg.CountString", "internal/bytealg.IndexString", "internal/abi.NoEscape", "internal/bytealg.MakeNoZero"], unfollowed := true, recurses := true, named := ["nameplan/record.rules", "internal/bytealg.MaxLen"], plainKeys := false, apart := false, laid := [("nameplan/record.rules", laid_nameplan_record_rules)] }
def ValidateMissingSaid : Prop := validateMissingRow.holds Tryz.pinned (OpenSpec.ofChange validateMissingSpec)

/-- ITS FALSE NEIGHBOUR: 'it returns false'. Refute it at one input. -/
def validateMissingWrong : ChangeSpec := { name := "validateMissing", fn := fun _ => fun
  | [d1, d2, d3, d4, d5] => { results := [.lit (.bool false)], args := [d1, d2, d3, d4, d5] }
  | _ => none }
def ValidateMissingWrongFalsely : Prop := validateMissingRow.holds Tryz.pinned (OpenSpec.ofChange validateMissingWrong)

/-- 'nameplanlaw30.ValidateFilter': WHATEVER THE INPUT: true; the input reads as it did. -/
def validateFilterSpec : ChangeSpec := { name := "validateFilter", fn := fun _ => fun
  | [d1, d2, d3] => { results := [.lit (.bool true)], args := [d1, d2, d3] }
  | _ => none }
def validateFilterRow : OpenClaim := { program := "ytadhigmjilijcaagreatdoor", sum := "e2b0af444d2052febf4d244993c9c918fd2cec2685db458aa13b9fc218498c91", func := "nameplan/nameplanlaw30.ValidateFilter", spec := "validateFilter", inPlace := ["internal/bytealg.IndexByteString", "internal/bytealg.abigen_runtime_cmpstring", "internal/bytealg.CountString", "internal/bytealg.IndexString", "internal/abi.NoEscape", "internal/bytealg.MakeNoZero"], unfollowed := true, recurses := true, named := ["nameplan/record.rules", "internal/bytealg.MaxLen"], plainKeys := false, apart := false, laid := [("nameplan/record.rules", laid_nameplan_record_rules)] }
def ValidateFilterSaid : Prop := validateFilterRow.holds Tryz.pinned (OpenSpec.ofChange validateFilterSpec)

/-- ITS FALSE NEIGHBOUR: 'it returns false'. Refute it at one input. -/
def validateFilterWrong : ChangeSpec := { name := "validateFilter", fn := fun _ => fun
  | [d1, d2, d3] => { results := [.lit (.bool false)], args := [d1, d2, d3] }
  | _ => none }
def ValidateFilterWrongFalsely : Prop := validateFilterRow.holds Tryz.pinned (OpenSpec.ofChange validateFilterWrong)

/-- 'nameplanlaw30.ValidateHonest': WHATEVER THE INPUT: true; the input reads as it did. -/
def validateHonestSpec : ChangeSpec := { name := "validateHonest", fn := fun _ => fun
  | [d1, d2] => { results := [.lit (.bool true)], args := [d1, d2] }
  | _ => none }
def validateHonestRow : OpenClaim := { program := "ytadhigmjilijcaagreatdoor", sum := "e2b0af444d2052febf4d244993c9c918fd2cec2685db458aa13b9fc218498c91", func := "nameplan/nameplanlaw30.ValidateHonest", spec := "validateHonest", inPlace := ["internal/bytealg.IndexByteString", "internal/bytealg.abigen_runtime_cmpstring", "internal/bytealg.CountString", "internal/bytealg.IndexString", "internal/abi.NoEscape", "internal/bytealg.MakeNoZero"], unfollowed := true, recurses := true, named := ["nameplan/record.rules", "internal/bytealg.MaxLen"], plainKeys := false, apart := false, laid := [("nameplan/record.rules", laid_nameplan_record_rules)] }
def ValidateHonestSaid : Prop := validateHonestRow.holds Tryz.pinned (OpenSpec.ofChange validateHonestSpec)

/-- ITS FALSE NEIGHBOUR: 'it returns false'. Refute it at one input. -/
def validateHonestWrong : ChangeSpec := { name := "validateHonest", fn := fun _ => fun
  | [d1, d2] => { results := [.lit (.bool false)], args := [d1, d2] }
  | _ => none }
def ValidateHonestWrongFalsely : Prop := validateHonestRow.holds Tryz.pinned (OpenSpec.ofChange validateHonestWrong)

/- THE SECOND FORM. 'bulk': how many values and letters a reading holds, each counted each time it is reached (what is shared counts as often as it is met; a slice's spare places count too). A statement '..UptoSaid' is the law's where the arguments, and the package variables that the reading takes, are together of bulk at most 1048576: NARROWER than '..Said'. Prove '..Said' where nothing that the law and all that it calls make is longer than what came in: it says more and counts as full. Else prove '..UptoSaid'. A law counts once. -/
mutual
def uptoBulk {H : Type} : DataW H → Nat
  | .lit (.string bytes) => bytes.length + 1
  | .lit _ => 1
  | .nil => 1
  | .ptr d => uptoBulk d + 1
  | .slice elems spare => uptoBulkAll elems + uptoBulkAll spare + 1
  | .agg parts => uptoBulkAll parts + 1
  | .iface _ d => uptoBulk d + 1
  | .map entries => uptoBulkEntries entries + 1
  | .held _ => 1
def uptoBulkAll {H : Type} : List (DataW H) → Nat
  | [] => 0
  | d :: r => uptoBulk d + uptoBulkAll r
def uptoBulkEntries {H : Type} : List (Lit × DataW H) → Nat
  | [] => 0
  | x :: r => uptoBulkEntry x + uptoBulkEntries r
def uptoBulkEntry {H : Type} : Lit × DataW H → Nat
  | (.string bytes, d) => bytes.length + uptoBulk d + 1
  | (_, d) => uptoBulk d + 1
 end
def uptoSmall : (H : Type) → List (DataW H) → Bool := fun _ ds => decide (uptoBulkAll ds ≤ 1048576)
def OpenSpec.upto (s : _root_.Go.ChangeSpec) : _root_.Go.OpenSpec := { _root_.Go.OpenSpec.ofChange s with cond := some uptoSmall }

/-- 'nameplanlaw30.ValidateMatchesReference', WHERE WHAT IT READS IS OF BULK AT MOST 1048576: true; the input reads as it did. -/
def validateMatchesReferenceUptoRow : OpenClaim := { program := "ytadhigmjilijcaagreatdoor", sum := "e2b0af444d2052febf4d244993c9c918fd2cec2685db458aa13b9fc218498c91", func := "nameplan/nameplanlaw30.ValidateMatchesReference", spec := "validateMatchesReference", inPlace := ["internal/bytealg.IndexByteString", "internal/bytealg.abigen_runtime_cmpstring", "internal/bytealg.CountString", "internal/bytealg.IndexString", "internal/abi.NoEscape", "internal/bytealg.MakeNoZero"], unfollowed := true, recurses := true, named := ["nameplan/record.rules", "internal/bytealg.MaxLen"], plainKeys := false, apart := false, laid := [("nameplan/record.rules", laid_nameplan_record_rules)], narrowed := true }
def ValidateMatchesReferenceUptoSaid : Prop := validateMatchesReferenceUptoRow.holds Tryz.pinned (OpenSpec.upto validateMatchesReferenceSpec)

/-- 'nameplanlaw30.ValidateSecure', WHERE WHAT IT READS IS OF BULK AT MOST 1048576: true; the input reads as it did. -/
def validateSecureUptoRow : OpenClaim := { program := "ytadhigmjilijcaagreatdoor", sum := "e2b0af444d2052febf4d244993c9c918fd2cec2685db458aa13b9fc218498c91", func := "nameplan/nameplanlaw30.ValidateSecure", spec := "validateSecure", inPlace := ["internal/bytealg.IndexByteString", "internal/bytealg.abigen_runtime_cmpstring", "internal/bytealg.CountString", "internal/bytealg.IndexString", "internal/abi.NoEscape", "internal/bytealg.MakeNoZero"], unfollowed := true, recurses := true, named := ["nameplan/record.rules", "internal/bytealg.MaxLen"], plainKeys := false, apart := false, laid := [("nameplan/record.rules", laid_nameplan_record_rules)], narrowed := true }
def ValidateSecureUptoSaid : Prop := validateSecureUptoRow.holds Tryz.pinned (OpenSpec.upto validateSecureSpec)

/-- 'nameplanlaw30.ValidateForged', WHERE WHAT IT READS IS OF BULK AT MOST 1048576: true; the input reads as it did. -/
def validateForgedUptoRow : OpenClaim := { program := "ytadhigmjilijcaagreatdoor", sum := "e2b0af444d2052febf4d244993c9c918fd2cec2685db458aa13b9fc218498c91", func := "nameplan/nameplanlaw30.ValidateForged", spec := "validateForged", inPlace := ["internal/bytealg.IndexByteString", "internal/bytealg.abigen_runtime_cmpstring", "internal/bytealg.CountString", "internal/bytealg.IndexString", "internal/abi.NoEscape", "internal/bytealg.MakeNoZero"], unfollowed := true, recurses := true, named := ["nameplan/record.rules", "internal/bytealg.MaxLen"], plainKeys := false, apart := false, laid := [("nameplan/record.rules", laid_nameplan_record_rules)], narrowed := true }
def ValidateForgedUptoSaid : Prop := validateForgedUptoRow.holds Tryz.pinned (OpenSpec.upto validateForgedSpec)

/-- 'nameplanlaw30.ValidateMissing', WHERE WHAT IT READS IS OF BULK AT MOST 1048576: true; the input reads as it did. -/
def validateMissingUptoRow : OpenClaim := { program := "ytadhigmjilijcaagreatdoor", sum := "e2b0af444d2052febf4d244993c9c918fd2cec2685db458aa13b9fc218498c91", func := "nameplan/nameplanlaw30.ValidateMissing", spec := "validateMissing", inPlace := ["internal/bytealg.IndexByteString", "internal/bytealg.abigen_runtime_cmpstring", "internal/bytealg.CountString", "internal/bytealg.IndexString", "internal/abi.NoEscape", "internal/bytealg.MakeNoZero"], unfollowed := true, recurses := true, named := ["nameplan/record.rules", "internal/bytealg.MaxLen"], plainKeys := false, apart := false, laid := [("nameplan/record.rules", laid_nameplan_record_rules)], narrowed := true }
def ValidateMissingUptoSaid : Prop := validateMissingUptoRow.holds Tryz.pinned (OpenSpec.upto validateMissingSpec)

/-- 'nameplanlaw30.ValidateFilter', WHERE WHAT IT READS IS OF BULK AT MOST 1048576: true; the input reads as it did. -/
def validateFilterUptoRow : OpenClaim := { program := "ytadhigmjilijcaagreatdoor", sum := "e2b0af444d2052febf4d244993c9c918fd2cec2685db458aa13b9fc218498c91", func := "nameplan/nameplanlaw30.ValidateFilter", spec := "validateFilter", inPlace := ["internal/bytealg.IndexByteString", "internal/bytealg.abigen_runtime_cmpstring", "internal/bytealg.CountString", "internal/bytealg.IndexString", "internal/abi.NoEscape", "internal/bytealg.MakeNoZero"], unfollowed := true, recurses := true, named := ["nameplan/record.rules", "internal/bytealg.MaxLen"], plainKeys := false, apart := false, laid := [("nameplan/record.rules", laid_nameplan_record_rules)], narrowed := true }
def ValidateFilterUptoSaid : Prop := validateFilterUptoRow.holds Tryz.pinned (OpenSpec.upto validateFilterSpec)

/-- 'nameplanlaw30.ValidateHonest', WHERE WHAT IT READS IS OF BULK AT MOST 1048576: true; the input reads as it did. -/
def validateHonestUptoRow : OpenClaim := { program := "ytadhigmjilijcaagreatdoor", sum := "e2b0af444d2052febf4d244993c9c918fd2cec2685db458aa13b9fc218498c91", func := "nameplan/nameplanlaw30.ValidateHonest", spec := "validateHonest", inPlace := ["internal/bytealg.IndexByteString", "internal/bytealg.abigen_runtime_cmpstring", "internal/bytealg.CountString", "internal/bytealg.IndexString", "internal/abi.NoEscape", "internal/bytealg.MakeNoZero"], unfollowed := true, recurses := true, named := ["nameplan/record.rules", "internal/bytealg.MaxLen"], plainKeys := false, apart := false, laid := [("nameplan/record.rules", laid_nameplan_record_rules)], narrowed := true }
def ValidateHonestUptoSaid : Prop := validateHonestUptoRow.holds Tryz.pinned (OpenSpec.upto validateHonestSpec)

end Rows
end Go.Proofs.YtadhigmjilijcaaGreatDoor
