/- What a row's list of variables gives: the table of rules lies in memory. -/
import Derived.Test.YtnbolgdccdnjeaaGreatDoorRows
import Derived.Test.YtnbolgdccdnjeaaGreatDoorRec3
import Derived.ProofKit
import Derived.OpenShut
import Derived.Deep.DeepHandedRow
import Derived.Lib.LaidTab
namespace Go.Proofs.YtnbolgdccdnjeaaGreatDoor
open Go.ChangeShapes Go.WideShapes Go.ChangeAt Go.RowKit

theorem gRules : Tryz.prog.globalNamed "nameplan/record.rules" = some 0 := by kernel_rfl
theorem gRulesType : (Tryz.prog.globals[0]?).map (·.type) = some 106 := by kernel_rfl
theorem cellsRule : Tryz.prog.cellsOf 105 = 8 := by kernel_rfl
theorem cellsInt : Tryz.prog.cellsOf 3 = 1 := by kernel_rfl
theorem cellsBool : Tryz.prog.cellsOf 4 = 1 := by kernel_rfl

def encD : Value → DataW Unit
  | .int k n => .lit (.int k n)
  | .bool b => .lit (.bool b)
  | _ => .nil
theorem laidRules_eq : (Rows.laid_nameplan_record_rules : DataW Unit) = .agg ((List.range 9).map fun (k : Nat) => .agg ((ruleVal (Np.ruleOf k)).toList.map encD)) := by
  rfl

section
variable {w : World} {base : Nat} {spare : Nat → Bool} {held : Bool} {fuel : Nat} {cs : List Value} {p : List MemPlace}
theorem one_int {n : Int} (h : DataW.trod (fun _ => ()) Tryz.prog w base spare held fuel 3 cs = some (encD (.int .i64 n), p)) : cs = [.int .i64 n] := by
  obtain ⟨m, rfl, hx, _⟩ := DataW.trod_int Tryz.underlying3 h
  simp only [encD, Prod.mk.injEq, DataW.lit.injEq, Lit.int.injEq] at hx
  rw [hx.1.2]
theorem one_bool {b : Bool} (h : DataW.trod (fun _ => ()) Tryz.prog w base spare held fuel 4 cs = some (encD (.bool b), p)) : cs = [.bool b] := by
  obtain ⟨m, rfl, hx⟩ := DataW.trod_bool Tryz.underlying4 h
  simp only [encD, Prod.mk.injEq, DataW.lit.injEq, Lit.bool.injEq] at hx
  rw [hx.1]
theorem cell_at {cs : List Value} {o : Nat} {v : Value} (h : (cs.drop o).take 1 = [v]) : cs[o]? = some v := by
  have := congrArg (·[0]?) h
  simpa [List.getElem?_take, List.getElem?_drop] using this

theorem rule_cells {r : Np.Rule} (h : DataW.trod (fun _ => ()) Tryz.prog w base spare held fuel 105 cs = some (.agg ((ruleVal r).toList.map encD), p)) : ∀ (j : Nat) (v : Value), (ruleVal r).toList[j]? = some v → cs[j]? = some v := by
  obtain ⟨ys, n, _, hx, _, hlen, hf⟩ := DataW.trod_struct Tryz.underlying105 h
  simp only [Prod.mk.injEq, DataW.agg.injEq] at hx
  have hy : ∀ (j : Nat) (v : Value), (ruleVal r).toList[j]? = some v → ∃ q, ys[j]? = some (encD v, q) := fun j v hj => by
    have h1 : (ys.map (·.1))[j]? = some (encD v) := by rw [← hx.1]; simp [hj]
    simp only [List.getElem?_map, Option.map_eq_some_iff] at h1
    obtain ⟨y, hy1, hy2⟩ := h1
    exact ⟨y.2, by rw [hy1, ← hy2]⟩
  intro j v hj
  obtain ⟨q, hq⟩ := hy j v hj
  match j, hj, hq with
  | 0, hj, hq => simp [ruleVal] at hj; subst hj; have : DataW.trod (fun _ => ()) Tryz.prog w base spare held n 3 ((cs.drop 0).take (Tryz.prog.cellsOf 3)) = ys[0]? := hf 0 _ rfl; rw [hq, cellsInt] at this; exact cell_at (one_int this)
  | 1, hj, hq => simp [ruleVal] at hj; subst hj; have : DataW.trod (fun _ => ()) Tryz.prog w base spare held n 3 ((cs.drop 1).take (Tryz.prog.cellsOf 3)) = ys[1]? := hf 1 _ rfl; rw [hq, cellsInt] at this; exact cell_at (one_int this)
  | 2, hj, hq => simp [ruleVal] at hj; subst hj; have : DataW.trod (fun _ => ()) Tryz.prog w base spare held n 3 ((cs.drop 2).take (Tryz.prog.cellsOf 3)) = ys[2]? := hf 2 _ rfl; rw [hq, cellsInt] at this; exact cell_at (one_int this)
  | 3, hj, hq => simp [ruleVal] at hj; subst hj; have : DataW.trod (fun _ => ()) Tryz.prog w base spare held n 3 ((cs.drop 3).take (Tryz.prog.cellsOf 3)) = ys[3]? := hf 3 _ rfl; rw [hq, cellsInt] at this; exact cell_at (one_int this)
  | 4, hj, hq => simp [ruleVal] at hj; subst hj; have : DataW.trod (fun _ => ()) Tryz.prog w base spare held n 3 ((cs.drop 4).take (Tryz.prog.cellsOf 3)) = ys[4]? := hf 4 _ rfl; rw [hq, cellsInt] at this; exact cell_at (one_int this)
  | 5, hj, hq => simp [ruleVal] at hj; subst hj; have : DataW.trod (fun _ => ()) Tryz.prog w base spare held n 4 ((cs.drop 5).take (Tryz.prog.cellsOf 4)) = ys[5]? := hf 5 _ rfl; rw [hq, cellsBool] at this; exact cell_at (one_bool this)
  | 6, hj, hq => simp [ruleVal] at hj; subst hj; have : DataW.trod (fun _ => ()) Tryz.prog w base spare held n 4 ((cs.drop 6).take (Tryz.prog.cellsOf 4)) = ys[6]? := hf 6 _ rfl; rw [hq, cellsBool] at this; exact cell_at (one_bool this)
  | 7, hj, hq => simp [ruleVal] at hj; subst hj; have : DataW.trod (fun _ => ()) Tryz.prog w base spare held n 4 ((cs.drop 7).take (Tryz.prog.cellsOf 4)) = ys[7]? := hf 7 _ rfl; rw [hq, cellsBool] at this; exact cell_at (one_bool this)
  | j + 8, hj, _ => simp [ruleVal] at hj
end

theorem rules_of {W : World} {rest : List (String × DataW Unit)} (h : laidMet Tryz.prog (("nameplan/record.rules", Rows.laid_nameplan_record_rules) :: rest) W) : RulesIn W W.heap.size := by
  obtain ⟨ps, ⟨g', t', cs, fuel, p, q, hg', ht', hvar, hd, _, _⟩, _⟩ := h
  obtain rfl := Option.some.inj (gRules.symm.trans hg')
  obtain rfl := Option.some.inj (gRulesType.symm.trans ht')
  rw [laidRules_eq] at hd
  obtain ⟨xs, m, _, hx, _, hlen, hf⟩ := DataW.trod_array Tryz.underlying106 hd
  simp only [Prod.mk.injEq, DataW.agg.injEq] at hx
  have hcell : ∀ (i : Nat) (v : Value), cs[i]? = some v → W.cell? ⟨0, i, none⟩ = some v := fun i v hi => by rw [World.var?_cell gRules hvar i]; exact hi
  refine ⟨?_, fun k hk j v hj => ?_⟩
  · have h0 := hf 0 (by omega)
    obtain ⟨x0, hx0⟩ : ∃ x, xs[0]? = some x := ⟨_, List.getElem?_eq_getElem (by omega)⟩
    rw [hx0] at h0
    have h1 : x0.1 = .agg ((ruleVal (Np.ruleOf (0 : Nat))).toList.map encD) := by
      have : (xs.map (·.1))[0]? = some (.agg ((ruleVal (Np.ruleOf (0 : Nat))).toList.map encD)) := by rw [← hx.1]; rfl
      rw [List.getElem?_map, hx0] at this
      simpa using this
    rw [show x0 = (x0.1, x0.2) from rfl, h1] at h0
    have h2 := rule_cells h0 0 _ rfl
    simp only [Nat.zero_mul, List.drop_zero, List.getElem?_take] at h2
    split at h2
    · exact World.block_lt_of_cell? _ _ (hcell 0 _ (by simpa using h2))
    · cases h2
  · have h0 := hf k hk
    obtain ⟨x0, hx0⟩ : ∃ x, xs[k]? = some x := ⟨_, List.getElem?_eq_getElem (by omega)⟩
    rw [hx0] at h0
    have h1 : x0.1 = .agg ((ruleVal (Np.ruleOf k)).toList.map encD) := by
      have : (xs.map (·.1))[k]? = some (.agg ((ruleVal (Np.ruleOf k)).toList.map encD)) := by rw [← hx.1, List.getElem?_map, List.getElem?_range hk]; rfl
      rw [List.getElem?_map, hx0] at this
      simpa using this
    rw [show x0 = (x0.1, x0.2) from rfl, h1] at h0
    have h2 := rule_cells h0 j v hj
    rw [cellsRule, List.getElem?_take] at h2
    split at h2
    · rw [List.getElem?_drop] at h2
      exact hcell _ _ (by simpa using h2)
    · cases h2
end Go.Proofs.YtnbolgdccdnjeaaGreatDoor
