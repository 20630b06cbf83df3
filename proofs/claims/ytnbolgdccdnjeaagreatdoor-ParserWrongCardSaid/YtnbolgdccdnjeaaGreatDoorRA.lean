/- Joined by program from: LaidRules, Read, ReadZ. No condition. -/
import Derived.Test.YtnbolgdccdnjeaaGreatDoorRows
import Derived.Test.YtnbolgdccdnjeaaGreatDoorNB
import Derived.ProofKit
import Derived.OpenShut
import Derived.Deep.DeepHandedRow
import Derived.Lib.LaidTab
import Derived.Carry
import Derived.Deep.Slices
import Derived.SizedLaws
import Derived.WideShapes
/- What a row's list of variables gives: the table of rules lies in memory. -/
namespace Go.Proofs.YtnbolgdccdnjeaaGreatDoor
open Go.ChangeShapes Go.WideShapes Go.ChangeAt Go.RowKit

theorem gRules : Tryz.prog.globalNamed "nameplan/record.rules" = some 0 := by kernel_rfl
theorem gRulesType : (Tryz.prog.globals[0]?).map (·.type) = some 106 := by kernel_rfl
theorem cellsRule : Tryz.prog.cellsOf 105 = 8 := by kernel_rfl
theorem cellsInt : Tryz.prog.cellsOf 3 = 1 := by kernel_rfl
theorem cellsBool : Tryz.prog.cellsOf 4 = 1 := by kernel_rfl

def encRule : Value → DataW Unit
  | .int k n => .lit (.int k n)
  | .bool b => .lit (.bool b)
  | _ => .nil
theorem laidRules_eq : (Rows.laid_nameplan_record_rules : DataW Unit) = .agg ((List.range 9).map fun (k : Nat) => .agg ((ruleVal (Np.ruleOf k)).toList.map encRule)) := by
  rfl

section
variable {w : World} {base : Nat} {spare : Nat → Bool} {held : Bool} {fuel : Nat} {cs : List Value} {p : List MemPlace}
theorem one_int {n : Int} (h : DataW.trod (fun _ => ()) Tryz.prog w base spare held fuel 3 cs = some (encRule (.int .i64 n), p)) : cs = [.int .i64 n] := by
  obtain ⟨m, rfl, hx, _⟩ := DataW.trod_int Tryz.underlying3 h
  simp only [encRule, Prod.mk.injEq, DataW.lit.injEq, Lit.int.injEq] at hx
  rw [hx.1.2]
theorem one_bool {b : Bool} (h : DataW.trod (fun _ => ()) Tryz.prog w base spare held fuel 4 cs = some (encRule (.bool b), p)) : cs = [.bool b] := by
  obtain ⟨m, rfl, hx⟩ := DataW.trod_bool Tryz.underlying4 h
  simp only [encRule, Prod.mk.injEq, DataW.lit.injEq, Lit.bool.injEq] at hx
  rw [hx.1]
theorem cell_at {cs : List Value} {o : Nat} {v : Value} (h : (cs.drop o).take 1 = [v]) : cs[o]? = some v := by
  have := congrArg (·[0]?) h
  simpa [List.getElem?_take, List.getElem?_drop] using this

theorem rule_cells {r : Np.Rule} (h : DataW.trod (fun _ => ()) Tryz.prog w base spare held fuel 105 cs = some (.agg ((ruleVal r).toList.map encRule), p)) : ∀ (j : Nat) (v : Value), (ruleVal r).toList[j]? = some v → cs[j]? = some v := by
  obtain ⟨ys, n, _, hx, _, hlen, hf⟩ := DataW.trod_struct Tryz.underlying105 h
  simp only [Prod.mk.injEq, DataW.agg.injEq] at hx
  have hy : ∀ (j : Nat) (v : Value), (ruleVal r).toList[j]? = some v → ∃ q, ys[j]? = some (encRule v, q) := fun j v hj => by
    have h1 : (ys.map (·.1))[j]? = some (encRule v) := by rw [← hx.1]; simp [hj]
    simp only [List.getElem?_map, Option.map_eq_some_iff] at h1
    obtain ⟨y, hy1, hy2⟩ := h1
    exact ⟨y.2, by rw [hy1, ← hy2]⟩
  intro j v hj
  obtain ⟨q, hq⟩ := hy j v hj
  match j, hj, hq with
  | 0, hj, hq => simp [ruleVal] at hj; subst hj; have : DataW.trod (fun _ => ()) Tryz.prog w base spare held n 3 ((cs.drop 0).take (Tryz.prog.cellsOf 3)) = ys[0]? := hf 0 _ rfl; rw [hq, cellsInt] at this; exact cell_at (one_int this)
  | 1, hj, hq => simp [ruleVal] at hj; subst hj; have : DataW.trod (fun _ => ()) Tryz.prog w base spare held n 3 ((cs.drop 1).take (Tryz.prog.cellsOf 3)) = ys[1]? := hf 1 _ rfl; rw [hq, cellsInt] at this; exact cell_at (one_int this)
  | 2, hj, hq => simp [ruleVal] at hj; subst hj; have : DataW.trod (fun _ => ()) Tryz.prog w base spare held n 3 ((cs.drop 2).take (Tryz.prog.cellsOf 3)) = ys[2]? := hf 2 _ rfl; rw [hq, cellsInt] at this; exact cell_at (one_int this)
  | 3, hj, hq => simp [ruleVal] at hj; subst hj; have : DataW.trod (fun _ => ()) Tryz.prog w base spare held n 3 ((cs.drop 3).take (Tryz.prog.cellsOf 3)) = ys[3]? := hf 3 _ rfl; rw [hq, cellsInt] at this; exact cell_at (one_int this)
  | 4, hj, hq => simp [ruleVal] at hj; subst hj; have : DataW.trod (fun _ => ()) Tryz.prog w base spare held n 3 ((cs.drop 4).take (Tryz.prog.cellsOf 3)) = ys[4]? := hf 4 _ rfl; rw [hq, cellsInt] at this; exact cell_at (one_int this)
  | 5, hj, hq => simp [ruleVal] at hj; subst hj; have : DataW.trod (fun _ => ()) Tryz.prog w base spare held n 4 ((cs.drop 5).take (Tryz.prog.cellsOf 4)) = ys[5]? := hf 5 _ rfl; rw [hq, cellsBool] at this; exact cell_at (one_bool this)
  | 6, hj, hq => simp [ruleVal] at hj; subst hj; have : DataW.trod (fun _ => ()) Tryz.prog w base spare held n 4 ((cs.drop 6).take (Tryz.prog.cellsOf 4)) = ys[6]? := hf 6 _ rfl; rw [hq, cellsBool] at this; exact cell_at (one_bool this)
  | 7, hj, hq => simp [ruleVal] at hj; subst hj; have : DataW.trod (fun _ => ()) Tryz.prog w base spare held n 4 ((cs.drop 7).take (Tryz.prog.cellsOf 4)) = ys[7]? := hf 7 _ rfl; rw [hq, cellsBool] at this; exact cell_at (one_bool this)
  | j + 8, hj, _ => simp [ruleVal] at hj
end

theorem rules_of {W : World} {rest : List (String × DataW Unit)} (h : laidMet Tryz.prog (("nameplan/record.rules", Rows.laid_nameplan_record_rules) :: rest) W) : RulesIn W W.heap.size := by
  obtain ⟨ps, ⟨g', t', cs, fuel, p, q, hg', ht', hvar, hd, _, _⟩, _⟩ := h
  obtain rfl := Option.some.inj (gRules.symm.trans hg')
  obtain rfl := Option.some.inj (gRulesType.symm.trans ht')
  rw [laidRules_eq] at hd
  obtain ⟨xs, m, _, hx, _, hlen, hf⟩ := DataW.trod_array Tryz.underlying106 hd
  simp only [Prod.mk.injEq, DataW.agg.injEq] at hx
  have hcell : ∀ (i : Nat) (v : Value), cs[i]? = some v → W.cell? ⟨0, i, none⟩ = some v := fun i v hi => by rw [World.var?_cell gRules hvar i]; exact hi
  refine ⟨?_, fun k hk j v hj => ?_⟩
  · have h0 := hf 0 (by omega)
    obtain ⟨x0, hx0⟩ : ∃ x, xs[0]? = some x := ⟨_, List.getElem?_eq_getElem (by omega)⟩
    rw [hx0] at h0
    have h1 : x0.1 = .agg ((ruleVal (Np.ruleOf (0 : Nat))).toList.map encRule) := by
      have : (xs.map (·.1))[0]? = some (.agg ((ruleVal (Np.ruleOf (0 : Nat))).toList.map encRule)) := by rw [← hx.1]; rfl
      rw [List.getElem?_map, hx0] at this
      simpa using this
    rw [show x0 = (x0.1, x0.2) from rfl, h1] at h0
    have h2 := rule_cells h0 0 _ rfl
    simp only [Nat.zero_mul, List.drop_zero, List.getElem?_take] at h2
    split at h2
    · exact World.block_lt_of_cell? _ _ (hcell 0 _ (by simpa using h2))
    · cases h2
  · have h0 := hf k hk
    obtain ⟨x0, hx0⟩ : ∃ x, xs[k]? = some x := ⟨_, List.getElem?_eq_getElem (by omega)⟩
    rw [hx0] at h0
    have h1 : x0.1 = .agg ((ruleVal (Np.ruleOf k)).toList.map encRule) := by
      have : (xs.map (·.1))[k]? = some (.agg ((ruleVal (Np.ruleOf k)).toList.map encRule)) := by rw [← hx.1, List.getElem?_map, List.getElem?_range hk]; rfl
      rw [List.getElem?_map, hx0] at this
      simpa using this
    rw [show x0 = (x0.1, x0.2) from rfl, h1] at h0
    have h2 := rule_cells h0 j v hj
    rw [cellsRule, List.getElem?_take] at h2
    split at h2
    · rw [List.getElem?_drop] at h2
      exact hcell _ _ (by simpa using h2)
    · cases h2
end Go.Proofs.YtnbolgdccdnjeaaGreatDoor
/- How arguments that lead to memory are read: a slice reads as a list, a struct as a row of cells. -/
namespace Go.Proofs.YtnbolgdccdnjeaaGreatDoor
open Go.ChangeShapes Go.WideShapes Go.ChangeAt Go.RowKit Go.Deep

/-- Whatever is read at a type can be told by R. -/
def Reads {α : Type} (P : Program) (t : TypeId) (sz : Nat) (R : World → Nat → List Value → α → Prop) : Prop :=
  ∀ (H : Type) (enc : TypeId × Value → H) (W : World) (base : Nat) (spare : Nat → Bool) (held : Bool) (fuel : Nat) (cs : List Value) (d : DataW H) (ps : List MemPlace),
    DataW.trod enc P W base spare held fuel t cs = some (d, ps) → (∀ n ∈ d.weights P t, n ≤ reachBytes) → cs.length = sz ∧ ∃ x, R W W.heap.size cs x

def RNum (k : IntKind) (_ : World) (_ : Nat) (e : List Value) (x : Int) : Prop := e = [.int k x] ∧ (Lit.int k x).wf = true
theorem reads_int {P : Program} {t : TypeId} {k : IntKind} (ht : P.underlying t = some (.int k)) : Reads P t 1 (RNum k) := by
  intro H enc W base spare held fuel cs d ps h _
  obtain ⟨n, rfl, _, hwf⟩ := DataW.trod_int ht h
  exact ⟨rfl, n, rfl, hwf⟩
def RStr (_ : World) (_ : Nat) (e : List Value) (x : List UInt8) : Prop := ∃ s : ByteArray, s.data.toList = x ∧ s.size ≤ 140737488355328 ∧ e = [.string s]
theorem reads_string {P : Program} {t : TypeId} (ht : P.underlying t = some .string) : Reads P t 1 RStr := by
  intro H enc W base spare held fuel cs d ps h hw
  obtain ⟨s, rfl, hx, _⟩ := DataW.trod_string ht h
  simp only [Prod.mk.injEq] at hx
  rw [hx.1] at hw
  have := hw s.data.toList.length (by simp [DataW.weights])
  have h2 := reachBytes_lt
  exact ⟨rfl, s.data.toList, s, rfl, by rw [size_list] at this; omega, rfl⟩
/-- A slice in one cell. -/
def RSl {α : Type} (R : World → Nat → List Value → α → Prop) (sz : Nat) (W : World) (B : Nat) (e : List Value) (xs : List α) : Prop := ∃ v, e = [v] ∧ SlR R sz W B v xs
theorem RSl.more {α : Type} {R : World → Nat → List Value → α → Prop} {sz : Nat} (h : MoreR R) : MoreR (RSl R sz) := fun _ _ _ _ _ ⟨v, hv, hs⟩ hb => ⟨v, hv, hs.more h hb⟩

theorem weights_all {H : Type} {P : Program} {e : TypeId} : ∀ {ds : List (DataW H)} {d : DataW H}, d ∈ ds → ∀ n ∈ d.weights P e, n ∈ DataW.weightsAll P e ds
  | d0 :: ds, d, hd, n, hn => by
    simp only [DataW.weightsAll, List.mem_append]
    rcases List.mem_cons.1 hd with rfl | hd
    · exact .inl hn
    · exact .inr (weights_all hd n hn)

theorem addr_add (b o n : Nat) : (⟨b, o, none⟩ : Addr).add n = ⟨b, o + n, none⟩ := by
  unfold Addr.add
  split
  · rename_i h; subst h; rfl
  · rfl
theorem addr_none {W : World} {a : Addr} {v : Value} (h : W.cell? a = some v) : a = ⟨a.block, a.off, none⟩ := by
  have := World.cell?_spot h
  cases a; simp_all

theorem reads_slice {α : Type} {P : Program} {t e : TypeId} {sz : Nat} {R : World → Nat → List Value → α → Prop} (ht : P.underlying t = some (.slice e)) (hC : P.cellsOf e = sz) (hsz : 0 < sz) (hb : 0 < P.bytesOf e) (hR : Reads P e sz R) : Reads P t 1 (RSl R sz) := by
  intro H enc W base spare held fuel cs d ps h hw
  rcases open_slice ht h with ⟨rfl, _⟩ | ⟨a, len, cap, m, n, D, Pl, rfl, hba, hl, hm, hmm, hx, hi⟩
  · exact ⟨rfl, [], _, rfl, none, 0, rfl, by simp, by simp, fun i x hx => by simp at hx⟩
  · simp only [Prod.mk.injEq] at hx
    rw [hx.1] at hw
    have hlm : len ≤ m := by rw [hmm]; split <;> omega
    have hlen : len ≤ 140737488355328 := by
      have := hw ((((List.range len).map D).length + ((List.range (m - len)).map fun j => D (len + j)).length) * P.bytesOf e) (by simp [DataW.weights, ht])
      simp only [List.length_map, List.length_range] at this
      have h2 := reachBytes_lt
      have h3 : len + (m - len) ≤ (len + (m - len)) * P.bytesOf e := Nat.le_mul_of_pos_right _ hb
      omega
    have hel : ∀ i, i < len → ∃ x cs', W.cells? base (a.add (i * sz)) sz = some cs' ∧ cs'.length = sz ∧ R W W.heap.size cs' x := fun i hil => by
      obtain ⟨cs', hc, htr⟩ := hi i (by omega)
      rw [hC] at hc
      obtain ⟨h1, x, h2⟩ := hR H enc W base spare held n cs' (D i) (Pl i) htr (fun k hk => hw k (by
        simp only [DataW.weights, ht]
        exact List.mem_cons_of_mem _ (List.mem_append_left _ (weights_all (List.mem_map.2 ⟨i, List.mem_range.2 hil, rfl⟩) k hk))))
      exact ⟨x, cs', hc, h1, h2⟩
    have hall : ∀ k, k ≤ len → ∃ xs : List α, xs.length = k ∧ ∀ i x, xs[i]? = some x → ∃ cs', W.cells? base (a.add (i * sz)) sz = some cs' ∧ cs'.length = sz ∧ R W W.heap.size cs' x := by
      intro k
      induction k with
      | zero => exact fun _ => ⟨[], rfl, fun i x hx => by simp at hx⟩
      | succ k ih =>
        intro hk
        obtain ⟨xs, hxl, hxs⟩ := ih (by omega)
        obtain ⟨x, hx⟩ := hel k (by omega)
        refine ⟨xs ++ [x], by simp [hxl], fun i y hy => ?_⟩
        rcases Nat.lt_or_ge i xs.length with hlt | hge
        · rw [List.getElem?_append_left hlt] at hy; exact hxs i y hy
        · rw [List.getElem?_append_right hge] at hy
          have : i - xs.length = 0 := by
            have := (List.getElem?_eq_some_iff.1 hy).1
            simp at this; omega
          rw [this] at hy
          simp at hy
          subst hy
          rw [show i = k by omega]
          exact hx
    obtain ⟨xs, hxl, hxs⟩ := hall len (Nat.le_refl _)
    refine ⟨rfl, xs, _, rfl, some a, cap, by rw [hxl], by omega, by omega, fun i x hx => ?_⟩
    have h0 : 0 < len := by have := (List.getElem?_eq_some_iff.1 hx).1; omega
    obtain ⟨c0, hc0, hc0l, _⟩ := hxs 0 _ (List.getElem?_eq_getElem (by omega))
    obtain ⟨_, _, hcells0⟩ := World.cells?_some hc0
    have ha : a = ⟨a.block, a.off, none⟩ := by
      have h1 := hcells0 0 hsz
      rw [show (a.add (0 * sz)).add 0 = a by simp [Addr.add]] at h1
      rw [List.getElem?_eq_getElem (by omega)] at h1
      exact addr_none h1
    obtain ⟨cs', hc, hcl, hRx⟩ := hxs i x hx
    obtain ⟨_, _, hcells⟩ := World.cells?_some hc
    have hce : CellsAt W a.block (a.off + i * sz) cs' := fun j u hj => by
      have hjl := (List.getElem?_eq_some_iff.1 hj).1
      have h1 := hcells j (by omega)
      rw [hj, ha] at h1
      have h2 : ((⟨a.block, a.off, none⟩ : Addr).add (i * sz)).add j = ⟨a.block, a.off + i * sz + j, none⟩ := by
        rw [addr_add, addr_add]
      rw [h2] at h1
      exact h1
    refine ⟨a.block, a.off, cs', by rw [← ha], ?_, hcl, hce, hRx⟩
    have := World.block_lt_of_cell? W _ (hce 0 _ (List.getElem?_eq_getElem (by omega)))
    exact this

/-- The fields of a struct, each with its own reading. -/
theorem reads_parts {P : Program} {t : TypeId} {fs : Array Field} (hs : P.underlying t = some (.struct fs)) {H : Type} {enc : TypeId × Value → H} {W : World} {base : Nat} {spare : Nat → Bool} {held : Bool} {fuel : Nat} {cs : List Value} {d : DataW H} {ps : List MemPlace}
    (h : DataW.trod enc P W base spare held fuel t cs = some (d, ps)) (hw : ∀ n ∈ d.weights P t, n ≤ reachBytes) :
    cs.length = P.cellsOf t ∧ ∀ (j : Nat) (f : Field), fs[j]? = some f → ∃ n d' ps', DataW.trod enc P W base spare held n f.type ((cs.drop f.offset).take (P.cellsOf f.type)) = some (d', ps') ∧ ∀ k ∈ d'.weights P f.type, k ≤ reachBytes := by
  obtain ⟨ys, n, _, hx, hl, hyl, hf⟩ := DataW.trod_struct hs h
  simp only [Prod.mk.injEq] at hx
  refine ⟨hl, fun j f hj => ?_⟩
  have hjl : j < fs.size := (Array.getElem?_eq_some_iff.1 hj).1
  have h1 := hf j f hj
  rw [List.getElem?_eq_getElem (by omega)] at h1
  refine ⟨n, _, _, h1, fun k hk => hw k ?_⟩
  rw [hx.1]
  simp only [DataW.weights, hs]
  refine DataW.weights_mem_each (j := j) (t := f.type) (d := (ys[j]'(by omega)).1) ?_ ?_ k hk
  · simp [hj]
  · simp [List.getElem?_eq_getElem (show j < ys.length by omega)]

/-- Every argument reads behind the call as it did before. -/
theorem below_trodAll {H : Type} {enc : TypeId × Value → H} {P : Program} (hl : laidOutB P = true) {W W' : World} (hb : Below W.heap.size W W') :
    ∀ {ts : List TypeId} {vs : List Value} {ds : List (DataW H)} {ps : List MemPlace}, (∀ t ∈ ts, P.readableRec t = true ∧ t < P.types.size) → DataW.TrodAll enc P W 0 (fun _ => true) true ts vs ds ps → (∀ x ∈ ps, x.block < W.heap.size) →
      DataW.TrodAll enc P W' 0 (fun b => decide (b < W.heap.size)) true ts vs ds ps
  | [], [], [], _, _, h, _ => h
  | t :: ts, v :: vs, d :: ds, ps, hr, h, hlt => by
    obtain ⟨p, q, h1, h2, rfl⟩ := h
    have ht := hr t (by simp)
    exact ⟨p, q, Below.trod hl ht.1 ht.2 h1 hb (fun x hx => hlt x (by simp [hx])), below_trodAll hl hb (fun t ht => hr t (by simp [ht])) h2 (fun x hx => hlt x (by simp [hx])), rfl⟩
  | [], _ :: _, _, _, _, h, _ => h.elim
  | [], [], _ :: _, _, _, h, _ => h.elim
  | _ :: _, [], _, _, _, h, _ => h.elim
  | _ :: _, _ :: _, [], _, _, h, _ => h.elim

/-- The last step of a law's row: the call handed back true, and nothing that lay before has turned. -/
theorem law_done {H : Type} {enc : TypeId × Value → H} {P : Program} {f : Func} {s : ChangeSpec} {W W' : World} {args : Array Value} {v : Value} {ds gs : List (DataW H)} {before : List MemPlace}
    (hl : laidOutB P = true) (hr : ∀ t ∈ f.params.toList, P.readableRec t = true ∧ t < P.types.size) (hvs : s.vars = [])
    (hW : DataW.Whole enc P f.params.toList s.vars false W args.toList ds gs before) (hb : Below W.heap.size W W')
    (hres : ∀ (b : Nat) (sp : Nat → Bool) (hd : Bool), DataW.TrodAll enc P W' b sp hd f.resultTypes.toList (v.resultList f.resultTypes.size) (s.fn H (ds ++ gs)).results [])
    (hargs : (s.fn H (ds ++ gs)).args = ds) (hvars : (s.fn H (ds ++ gs)).vars = []) :
    s.post enc P f false true false false W args v W' := by
  have hlt := hW.lt
  have hW' := hW
  obtain ⟨p, q, hA, hV, rfl, _, _⟩ := hW
  rw [hvs] at hV
  have hq : q = [] := by
    cases gs with
    | nil => exact hV
    | cons _ _ => exact hV.elim
  subst hq
  refine ⟨ds, gs, _, [], p, [], hW', hres _ _ _, ?_, ?_, World.keptBut_mono (fun x hx => ⟨hx, .inr (by simpa using hx)⟩) (hb.frame (· ∈ p ++ [])), fun h => by cases h⟩
  · rw [hargs]
    exact below_trodAll hl hb hr hA (fun x hx => hlt x (by simp [hx]))
  · rw [hvars, hvs]; rfl

theorem cellsStr : Tryz.prog.cellsOf 9 = 1 := by kernel_rfl
theorem lo : laidOutB Tryz.prog = true := by kernel_rfl
end Go.Proofs.YtnbolgdccdnjeaaGreatDoor
/- How zones are read. -/
namespace Go.Proofs.YtnbolgdccdnjeaaGreatDoor
open Go.ChangeShapes Go.WideShapes Go.ChangeAt Go.RowKit Go.Deep
theorem cellsSlDatum : Tryz.prog.cellsOf 37 = 1 := by kernel_rfl
/-- A set in four cells. -/
def RSet (W : World) (B : Nat) (e : List Value) (x : Np.DSet) : Prop := ∃ (s : ByteArray) (v : Value), s.data.toList = x.name ∧ s.size ≤ 140737488355328 ∧ SlR RDatum 3 W B v x.data ∧ e = [.string s, .int .i64 x.type, .int .i64 x.life, v]
set_option maxRecDepth 100000 in
theorem reads_datum : Reads Tryz.prog 43 3 RDatum := by
  intro H enc W base spare held fuel cs d ps h hw
  obtain ⟨hl, hf⟩ := reads_parts Tryz.underlying43 h hw
  have hl' : cs.length = 3 := hl.trans (by kernel_rfl)
  clear hl
  match cs, hl' with
  | [c0, c1, c2], _ =>
    obtain ⟨n0, d0, p0, t0, w0⟩ := hf 0 _ rfl
    have t0' : DataW.trod enc Tryz.prog W base spare held n0 9 (([c0, c1, c2].drop 0).take (Tryz.prog.cellsOf 9)) = some (d0, p0) := t0
    rw [cellsStr] at t0'
    have u0 : DataW.trod enc Tryz.prog W base spare held n0 9 [c0] = some (d0, p0) := t0'
    obtain ⟨n1, d1, p1, t1, w1⟩ := hf 1 _ rfl
    have t1' : DataW.trod enc Tryz.prog W base spare held n1 3 (([c0, c1, c2].drop 1).take (Tryz.prog.cellsOf 3)) = some (d1, p1) := t1
    rw [cellsInt] at t1'
    have u1 : DataW.trod enc Tryz.prog W base spare held n1 3 [c1] = some (d1, p1) := t1'
    obtain ⟨n2, d2, p2, t2, w2⟩ := hf 2 _ rfl
    have t2' : DataW.trod enc Tryz.prog W base spare held n2 3 (([c0, c1, c2].drop 2).take (Tryz.prog.cellsOf 3)) = some (d2, p2) := t2
    rw [cellsInt] at t2'
    have u2 : DataW.trod enc Tryz.prog W base spare held n2 3 [c2] = some (d2, p2) := t2'
    obtain ⟨_, _, s0, _, hs0, hx0⟩ := reads_string Tryz.underlying9 H enc W base spare held n0 _ _ _ u0 w0
    obtain rfl : c0 = .string s0 := by simpa using hx0
    obtain ⟨_, x1, hx1, wf1⟩ := reads_int Tryz.underlying3 H enc W base spare held n1 _ _ _ u1 w1
    obtain rfl : c1 = .int .i64 x1 := by simpa using hx1
    obtain ⟨_, x2, hx2, wf2⟩ := reads_int Tryz.underlying3 H enc W base spare held n2 _ _ _ u2 w2
    obtain rfl : c2 = .int .i64 x2 := by simpa using hx2
    exact ⟨rfl, ⟨s0.data.toList, x1, x2⟩, s0, rfl, hs0, rfl⟩
theorem reads_data : Reads Tryz.prog 37 1 (RSl RDatum 3) := reads_slice Tryz.underlying37 (by kernel_rfl) (by decide) (of_decide_eq_true (by kernel_rfl)) reads_datum
set_option maxRecDepth 100000 in
theorem reads_set : Reads Tryz.prog 39 4 RSet := by
  intro H enc W base spare held fuel cs d ps h hw
  obtain ⟨hl, hf⟩ := reads_parts Tryz.underlying39 h hw
  have hl' : cs.length = 4 := hl.trans (by kernel_rfl)
  clear hl
  match cs, hl' with
  | [c0, c1, c2, c3], _ =>
    obtain ⟨n0, d0, p0, t0, w0⟩ := hf 0 _ rfl
    have t0' : DataW.trod enc Tryz.prog W base spare held n0 9 (([c0, c1, c2, c3].drop 0).take (Tryz.prog.cellsOf 9)) = some (d0, p0) := t0
    rw [cellsStr] at t0'
    have u0 : DataW.trod enc Tryz.prog W base spare held n0 9 [c0] = some (d0, p0) := t0'
    obtain ⟨n1, d1, p1, t1, w1⟩ := hf 1 _ rfl
    have t1' : DataW.trod enc Tryz.prog W base spare held n1 3 (([c0, c1, c2, c3].drop 1).take (Tryz.prog.cellsOf 3)) = some (d1, p1) := t1
    rw [cellsInt] at t1'
    have u1 : DataW.trod enc Tryz.prog W base spare held n1 3 [c1] = some (d1, p1) := t1'
    obtain ⟨n2, d2, p2, t2, w2⟩ := hf 2 _ rfl
    have t2' : DataW.trod enc Tryz.prog W base spare held n2 3 (([c0, c1, c2, c3].drop 2).take (Tryz.prog.cellsOf 3)) = some (d2, p2) := t2
    rw [cellsInt] at t2'
    have u2 : DataW.trod enc Tryz.prog W base spare held n2 3 [c2] = some (d2, p2) := t2'
    obtain ⟨n3, d3, p3, t3, w3⟩ := hf 3 _ rfl
    have t3' : DataW.trod enc Tryz.prog W base spare held n3 37 (([c0, c1, c2, c3].drop 3).take (Tryz.prog.cellsOf 37)) = some (d3, p3) := t3
    rw [cellsSlDatum] at t3'
    have u3 : DataW.trod enc Tryz.prog W base spare held n3 37 [c3] = some (d3, p3) := t3'
    obtain ⟨_, _, s0, _, hs0, hx0⟩ := reads_string Tryz.underlying9 H enc W base spare held n0 _ _ _ u0 w0
    obtain rfl : c0 = .string s0 := by simpa using hx0
    obtain ⟨_, x1, hx1, wf1⟩ := reads_int Tryz.underlying3 H enc W base spare held n1 _ _ _ u1 w1
    obtain rfl : c1 = .int .i64 x1 := by simpa using hx1
    obtain ⟨_, x2, hx2, wf2⟩ := reads_int Tryz.underlying3 H enc W base spare held n2 _ _ _ u2 w2
    obtain rfl : c2 = .int .i64 x2 := by simpa using hx2
    obtain ⟨_, x3, v3, hx3, hsl3⟩ := reads_data H enc W base spare held n3 _ _ _ u3 w3
    obtain rfl : c3 = v3 := by simpa using hx3
    exact ⟨rfl, ⟨s0.data.toList, x1, x2, x3⟩, s0, _, rfl, hs0, hsl3, rfl⟩
/-- An argument that is a slice. -/
theorem arg_slice {α : Type} {P : Program} {t e : TypeId} {sz : Nat} {R : World → Nat → List Value → α → Prop} (hs : P.underlying t = some (.slice e)) (hR : Reads P t 1 (RSl R sz)) {H : Type} {enc : TypeId × Value → H} {W : World} {r : Reach} {base b0 : Nat} {spare : Nat → Bool} {held : Bool} {v : Value} {d : DataW H} {p : List MemPlace}
    (hv : Value.okWide P W r b0 t v) (h : DataW.Trod enc P W base spare held t v d p) (hw : ∀ n ∈ d.weights P t, n ≤ reachBytes) : ∃ xs : List α, SlR R sz W W.heap.size v xs := by
  obtain ⟨a, len, cap, rfl⟩ := okWide_slice hs hv
  obtain ⟨fuel, hf⟩ := h
  obtain ⟨_, x, u, hu, hx⟩ := hR H enc W base spare held fuel _ d p hf hw
  simp [Value.cells] at hu
  subst hu
  exact ⟨x, hx⟩

/-- What a row says of sizes, for one argument. -/
theorem sized_arg {H : Type} {P : Program} {ts : List TypeId} {ds : List (DataW H)} (h : (DataW.weightsEach P ts ds).all (· ≤ reachBytes) = true) {j : Nat} {t : TypeId} {d : DataW H} (ht : ts[j]? = some t) (hd : ds[j]? = some d) : ∀ n ∈ d.weights P t, n ≤ reachBytes :=
  fun n hn => by simpa using List.all_eq_true.1 h n (DataW.weights_mem_each ht hd n hn)
end Go.Proofs.YtnbolgdccdnjeaaGreatDoor
