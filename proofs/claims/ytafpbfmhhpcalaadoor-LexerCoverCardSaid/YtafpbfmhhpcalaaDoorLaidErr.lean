/- What the rows of layer 3 list: strconv.ErrRange holds an error; and a world in which all that they list lies. -/
import Derived.Test.YtafpbfmhhpcalaaDoorRows
import Derived.Test.YtafpbfmhhpcalaaDoorToken
import Derived.Stop.LaidErr
import Derived.ProofKit
import Derived.OpenShut
import Derived.Deep.DeepHandedRow
import Derived.LaidLaws
namespace Go.Proofs.YtafpbfmhhpcalaaDoor
open Go.ChangeShapes Go.WideShapes Go.ChangeAt Go.RowKit Go.Shelf
theorem gErrType : (Tryd.prog.globals[3]?).map (·.type) = some 114 := by kernel_rfl
theorem errStar : "*" ++ "errors.errorString" = "*errors.errorString" := by decide
theorem errRow (u : TypeId) (h : Tryd.prog.typeName? 3 u = some "*errors.errorString") : u = 189 :=
  typeName_ptr_named (nm := "errors.errorString") (by rw [errStar]; kernel_rfl) (by kernel_rfl) (by decide) u (by rw [errStar]; exact h)
theorem err_of {W : World} {r : List (String × DataW Unit)} (h : laidMet Tryd.prog (("strconv.ErrRange", Rows.laid_strconv_ErrRange) :: r) W) : ErrIn W := by
  obtain ⟨a0, s0, hv0, -, -, -⟩ := laid_sentinel h gErr gErrType Tryd.underlying114 errRow Tryd.underlying189 Tryd.underlying191 rfl rfl Tryd.underlying9 (by kernel_rfl) (by kernel_rfl)
  exact ⟨_, _, hv0⟩
/-! A world for the witness. -/
def atomV : DataW Unit → Value
  | .lit (.int k n) => .int k n
  | .lit (.bool b) => .bool b
  | _ => undef
def flat1 : DataW Unit → List Value
  | .agg m => m.map atomV
  | d => [atomV d]
def flat2 : DataW Unit → List Value
  | .agg l => l.flatMap flat1
  | d => [atomV d]
/-- So many blocks has the settled world. -/
noncomputable def lowBlocks : Nat := (World.holding Tryd.prog default ⟨#[], #[], []⟩).heap.size
noncomputable def laidWorld3 (os : Os) : World :=
  let w0 := World.holding Tryd.prog os ⟨#[.cells #[.string ⟨#[105, 110, 118, 97, 108, 105, 100, 32, 115, 121, 110, 116, 97, 120]⟩] 191, .cells #[.string ⟨#[118, 97, 108, 117, 101, 32, 111, 117, 116, 32, 111, 102, 32, 114, 97, 110, 103, 101]⟩] 191], #[], []⟩
  let put (h : Array Obj) (g : Nat) (cs : Array Value) : Array Obj := h.modify g fun
    | .cells _ t frozen => .cells cs t frozen
    | o => o
  let h1 := put w0.heap 2 #[.iface 189 (.pointer (some ⟨lowBlocks, 0, none⟩))]
  let h2 := put h1 3 #[.iface 189 (.pointer (some ⟨lowBlocks + 1, 0, none⟩))]
  let h3 := put h2 4 (flat2 Rows.laid_unicode_utf8_first).toArray
  let h4 := put h3 5 (flat2 Rows.laid_unicode_utf8_acceptRanges).toArray
  let h5 := put h4 6 (flat2 Rows.laid_internal_strconv_uint64pow10).toArray
  let h6 := put h5 7 (flat2 Rows.laid_math_bits_deBruijn32tab).toArray
  let h7 := put h6 8 (flat2 Rows.laid_math_bits_deBruijn64tab).toArray
  { w0 with heap := h7 }
theorem laidMet3 (os : Os) (args : Array Value) : laidMet Tryd.prog Rows.lexerJoinRow.laid ((laidWorld3 os).forCall (fun _ _ => 0) ⟨#[], args, []⟩).memory :=
  laidMet_of_run' 8 (by kernel_rfl) (by kernel_rfl)
end Go.Proofs.YtafpbfmhhpcalaaDoor
