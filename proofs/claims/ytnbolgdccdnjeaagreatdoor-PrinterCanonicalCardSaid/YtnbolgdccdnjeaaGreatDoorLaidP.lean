/- What the rows of layers 4 and 5 list, and a world in which all of it lies. -/
import Derived.Test.YtnbolgdccdnjeaaGreatDoorRA
import Derived.Test.YtnbolgdccdnjeaaGreatDoorHead05
import Derived.Stop.LaidErr
import Derived.LaidLaws
namespace Go.Proofs.YtnbolgdccdnjeaaGreatDoor
open Go.ChangeShapes Go.WideShapes Go.ChangeAt Go.RowKit Go.Shelf
theorem gErrType : (Tryz.prog.globals[4]?).map (·.type) = some 142 := by kernel_rfl
theorem errStar : "*" ++ "errors.errorString" = "*errors.errorString" := by decide
theorem errRow (u : TypeId) (h : Tryz.prog.typeName? 3 u = some "*errors.errorString") : u = 238 :=
  typeName_ptr_named (nm := "errors.errorString") (by rw [errStar]; kernel_rfl) (by kernel_rfl) (by decide) u (by rw [errStar]; exact h)
theorem err_of {W : World} {r : List (String × DataW Unit)} (h : laidMet Tryz.prog (("strconv.ErrRange", Rows.laid_strconv_ErrRange) :: r) W) : ErrIn W := by
  obtain ⟨a0, s0, hv0, -, -, -⟩ := laid_sentinel h gErr gErrType Tryz.underlying142 errRow Tryz.underlying238 Tryz.underlying240 rfl rfl Tryz.underlying9 (by kernel_rfl) (by kernel_rfl)
  exact ⟨_, _, hv0⟩
theorem gPowType : (Tryz.prog.globals[7]?).map (·.type) = some 242 := by kernel_rfl
theorem laidPow_eq : (Rows.laid_internal_strconv_uint64pow10 : DataW Unit) = Lib.tabData .u64 Lib.pow10Tab := by rfl
theorem pow_of {W : World} {r : List (String × DataW Unit)} (h : laidMet Tryz.prog (("internal/strconv.uint64pow10", Rows.laid_internal_strconv_uint64pow10) :: r) W) : PowIn W := by
  rw [laidPow_eq] at h
  exact Lib.tabIs_of_head gPow gPowType Tryz.underlying242 Tryz.underlying33 (by kernel_rfl) (by kernel_rfl) h
theorem gWords : Tryz.prog.globalNamed "nameplan/printer.words" = some 2 := by kernel_rfl
theorem gWordsType : (Tryz.prog.globals[2]?).map (·.type) = some 149 := by kernel_rfl
theorem laidWords_eq : (Rows.laid_nameplan_printer_words : DataW Unit) = .agg ((List.range 9).map fun (k : Nat) => .lit (.string (Np.wordOf k))) := by rfl
theorem cellsStrW : Tryz.prog.cellsOf 9 = 1 := by kernel_rfl
theorem words_of {W : World} {rest : List (String × DataW Unit)} (h : laidMet Tryz.prog (("nameplan/printer.words", Rows.laid_nameplan_printer_words) :: rest) W) : WordsIn W W.heap.size := by
  obtain ⟨ps, ⟨g', t', cs, fuel, p, q, hg', ht', hvar, hd, _, _⟩, _⟩ := h
  obtain rfl := Option.some.inj (gWords.symm.trans hg')
  obtain rfl := Option.some.inj (gWordsType.symm.trans ht')
  rw [laidWords_eq] at hd
  obtain ⟨xs, m, _, hx, _, hlen, hf⟩ := DataW.trod_array Tryz.underlying149 hd
  simp only [Prod.mk.injEq, DataW.agg.injEq] at hx
  have hcell : ∀ (i : Nat) (v : Value), cs[i]? = some v → W.cell? ⟨2, i, none⟩ = some v := fun i v hi => by rw [World.var?_cell gWords hvar i]; exact hi
  have hall : ∀ k : Nat, k < 9 → W.cell? ⟨2, k, none⟩ = some (strs (Np.wordOf k)) := fun k hk => by
    have h0 := hf k hk
    obtain ⟨x0, hx0⟩ : ∃ x, xs[k]? = some x := ⟨_, List.getElem?_eq_getElem (by omega)⟩
    rw [hx0] at h0
    have h1 : x0.1 = .lit (.string (Np.wordOf k)) := by
      have : (xs.map (·.1))[k]? = some (.lit (.string (Np.wordOf k))) := by rw [← hx.1, List.getElem?_map, List.getElem?_range hk]; rfl
      rw [List.getElem?_map, hx0] at this
      simpa using this
    rw [show x0 = (x0.1, x0.2) from rfl, h1] at h0
    obtain ⟨s, hs, he, _⟩ := DataW.trod_string Tryz.underlying9 h0
    simp only [Prod.mk.injEq, DataW.lit.injEq, Lit.string.injEq] at he
    rw [cellsStrW, Nat.mul_one] at hs
    have h2 := cell_at hs
    have h3 := hcell k _ (by simpa using h2)
    rw [h3]
    have : s = ⟨(Np.wordOf k).toArray⟩ := by rw [he.1]
    rw [this]
  exact ⟨World.block_lt_of_cell? _ _ (hall 0 (by decide)), hall⟩
theorem printIn_of {W : World} (h : laidMet Tryz.prog Rows.printerPartsRow.laid W) : PrintIn W :=
  ⟨rules_of (laidMet.tail (laidMet.tail (laidMet.tail (laidMet.tail (laidMet.tail (laidMet.tail h)))))), err_of (laidMet.tail (laidMet.tail (laidMet.tail (laidMet.tail h)))), pow_of (laidMet.tail (laidMet.tail h)), words_of (laidMet.tail (laidMet.tail (laidMet.tail (laidMet.tail (laidMet.tail (laidMet.tail (laidMet.tail h))))))) ⟩
/-! A world for the witness. -/
def atomV : DataW Unit → Value
  | .lit (.int k n) => .int k n
  | .lit (.bool b) => .bool b
  | .lit (.string s) => .string ⟨s.toArray⟩
  | _ => undef
def flat1 : DataW Unit → List Value
  | .agg m => m.map atomV
  | d => [atomV d]
def flat2 : DataW Unit → List Value
  | .agg l => l.flatMap flat1
  | d => [atomV d]
/-- So many blocks has the settled world. -/
noncomputable def lowBlocks : Nat := (World.holding Tryz.prog default ⟨#[], #[], []⟩).heap.size
noncomputable def laidWorld5 (os : Os) : World :=
  let w0 := World.holding Tryz.prog os ⟨#[.cells #[.string ⟨#[105, 110, 118, 97, 108, 105, 100, 32, 115, 121, 110, 116, 97, 120]⟩] 240, .cells #[.string ⟨#[118, 97, 108, 117, 101, 32, 111, 117, 116, 32, 111, 102, 32, 114, 97, 110, 103, 101]⟩] 240], #[], []⟩
  let put (h : Array Obj) (g : Nat) (cs : Array Value) : Array Obj := h.modify g fun
    | .cells _ t frozen => .cells cs t frozen
    | o => o
  let h1 := put w0.heap 3 #[.iface 238 (.pointer (some ⟨lowBlocks, 0, none⟩))]
  let h2 := put h1 4 #[.iface 238 (.pointer (some ⟨lowBlocks + 1, 0, none⟩))]
  let h3 := put h2 5 (flat2 Rows.laid_unicode_utf8_first).toArray
  let h4 := put h3 6 (flat2 Rows.laid_unicode_utf8_acceptRanges).toArray
  let h5 := put h4 7 (flat2 Rows.laid_internal_strconv_uint64pow10).toArray
  let h6 := put h5 8 (flat2 Rows.laid_math_bits_deBruijn32tab).toArray
  let h7 := put h6 9 (flat2 Rows.laid_math_bits_deBruijn64tab).toArray
  let h8 := put h7 0 (flat2 Rows.laid_nameplan_record_rules).toArray
  let h9 := put h8 2 (flat2 Rows.laid_nameplan_printer_words).toArray
  { w0 with heap := h9 }
theorem laidMet5 (os : Os) (args : Array Value) : laidMet Tryz.prog Rows.printerPartsRow.laid ((laidWorld5 os).forCall (fun _ _ => 0) ⟨#[], args, []⟩).memory :=
  laidMet_of_run' 8 (by kernel_rfl) (by kernel_rfl)
end Go.Proofs.YtnbolgdccdnjeaaGreatDoor
