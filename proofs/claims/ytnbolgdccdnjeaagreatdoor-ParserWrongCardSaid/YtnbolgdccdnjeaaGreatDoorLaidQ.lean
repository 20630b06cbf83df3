/- What the rows of layer 4 list, and a world in which all of it lies. -/
import Derived.Test.YtnbolgdccdnjeaaGreatDoorRA
import Derived.Test.YtnbolgdccdnjeaaGreatDoorHead04
import Derived.Stop.LaidErr
import Derived.LaidLaws
namespace Go.Proofs.YtnbolgdccdnjeaaGreatDoor
open Go.ChangeShapes Go.WideShapes Go.ChangeAt Go.RowKit Go.Shelf
theorem qgErrType : (Tryz.prog.globals[4]?).map (·.type) = some 142 := by kernel_rfl
theorem qerrStar : "*" ++ "errors.errorString" = "*errors.errorString" := by decide
theorem qerrRow (u : TypeId) (h : Tryz.prog.typeName? 3 u = some "*errors.errorString") : u = 238 :=
  typeName_ptr_named (nm := "errors.errorString") (by rw [qerrStar]; kernel_rfl) (by kernel_rfl) (by decide) u (by rw [qerrStar]; exact h)
theorem qerr_of {W : World} {r : List (String × DataW Unit)} (h : laidMet Tryz.prog (("strconv.ErrRange", Rows.laid_strconv_ErrRange) :: r) W) : ErrIn W := by
  obtain ⟨a0, s0, hv0, -, -, -⟩ := laid_sentinel h gErr qgErrType Tryz.underlying142 qerrRow Tryz.underlying238 Tryz.underlying240 rfl rfl Tryz.underlying9 (by kernel_rfl) (by kernel_rfl)
  exact ⟨_, _, hv0⟩
theorem parIn_of {W : World} (h : laidMet Tryz.prog Rows.parserGapsRow.laid W) : ParIn W :=
  ⟨rules_of (laidMet.tail (laidMet.tail (laidMet.tail (laidMet.tail (laidMet.tail (laidMet.tail h)))))), qerr_of (laidMet.tail (laidMet.tail (laidMet.tail (laidMet.tail h))))⟩
/-! A world for the witness. -/
def qatomV : DataW Unit → Value
  | .lit (.int k n) => .int k n
  | .lit (.bool b) => .bool b
  | .lit (.string s) => .string ⟨s.toArray⟩
  | _ => undef
def qflat1 : DataW Unit → List Value
  | .agg m => m.map qatomV
  | d => [qatomV d]
def qflat2 : DataW Unit → List Value
  | .agg l => l.flatMap qflat1
  | d => [qatomV d]
/-- So many blocks has the settled world. -/
noncomputable def qlowBlocks : Nat := (World.holding Tryz.prog default ⟨#[], #[], []⟩).heap.size
noncomputable def laidWorld4 (os : Os) : World :=
  let w0 := World.holding Tryz.prog os ⟨#[.cells #[.string ⟨#[105, 110, 118, 97, 108, 105, 100, 32, 115, 121, 110, 116, 97, 120]⟩] 240, .cells #[.string ⟨#[118, 97, 108, 117, 101, 32, 111, 117, 116, 32, 111, 102, 32, 114, 97, 110, 103, 101]⟩] 240], #[], []⟩
  let put (h : Array Obj) (g : Nat) (cs : Array Value) : Array Obj := h.modify g fun
    | .cells _ t frozen => .cells cs t frozen
    | o => o
  let h1 := put w0.heap 3 #[.iface 238 (.pointer (some ⟨qlowBlocks, 0, none⟩))]
  let h2 := put h1 4 #[.iface 238 (.pointer (some ⟨qlowBlocks + 1, 0, none⟩))]
  let h3 := put h2 5 (qflat2 Rows.laid_unicode_utf8_first).toArray
  let h4 := put h3 6 (qflat2 Rows.laid_unicode_utf8_acceptRanges).toArray
  let h5 := put h4 7 (qflat2 Rows.laid_internal_strconv_uint64pow10).toArray
  let h6 := put h5 8 (qflat2 Rows.laid_math_bits_deBruijn32tab).toArray
  let h7 := put h6 9 (qflat2 Rows.laid_math_bits_deBruijn64tab).toArray
  let h8 := put h7 0 (qflat2 Rows.laid_nameplan_record_rules).toArray
  { w0 with heap := h8 }
theorem laidMet4 (os : Os) (args : Array Value) : laidMet Tryz.prog Rows.parserGapsRow.laid ((laidWorld4 os).forCall (fun _ _ => 0) ⟨#[], args, []⟩).memory :=
  laidMet_of_run' 8 (by kernel_rfl) (by kernel_rfl)
end Go.Proofs.YtnbolgdccdnjeaaGreatDoor
