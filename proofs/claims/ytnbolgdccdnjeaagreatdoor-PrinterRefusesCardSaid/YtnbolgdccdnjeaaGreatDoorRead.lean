/- How arguments that lead to memory are read: a slice reads as a list, a struct as a row of cells. -/
import Derived.Test.YtnbolgdccdnjeaaGreatDoorShape
import Derived.Test.YtnbolgdccdnjeaaGreatDoorLaidRules
import Derived.Carry
import Derived.Deep.Slices
import Derived.SizedLaws
import Derived.WideShapes
namespace Go.Proofs.YtnbolgdccdnjeaaGreatDoor
open Go.ChangeShapes Go.WideShapes Go.ChangeAt Go.RowKit Go.Deep

/-- Whatever is read at a type can be told by R. -/
def Reads {α : Type} (P : Program) (t : TypeId) (sz : Nat) (R : World → Nat → List Value → α → Prop) : Prop :=
  ∀ (H : Type) (enc : TypeId × Value → H) (W : World) (base : Nat) (spare : Nat → Bool) (held : Bool) (fuel : Nat) (cs : List Value) (d : DataW H) (ps : List MemPlace),
    DataW.trod enc P W base spare held fuel t cs = some (d, ps) → (∀ n ∈ d.weights P t, n ≤ reachBytes) → cs.length = sz ∧ ∃ x, R W W.heap.size cs x

def RNum (k : IntKind) (_ : World) (_ : Nat) (e : List Value) (x : Int) : Prop := e = [.int k x] ∧ (Lit.int k x).wf = true
theorem reads_int {P : Program} {t : TypeId} {k : IntKind} (ht : P.underlying t = some (.int k)) : Reads P t 1 (RNum k) := by
  intro H enc W base spare held fuel cs d ps h _
  obtain ⟨n, rfl, _, hwf⟩ := DataW.trod_int ht h
  exact ⟨rfl, n, rfl, hwf⟩
def RStr (_ : World) (_ : Nat) (e : List Value) (x : List UInt8) : Prop := ∃ s : ByteArray, s.data.toList = x ∧ s.size ≤ 140737488355328 ∧ e = [.string s]
theorem reads_string {P : Program} {t : TypeId} (ht : P.underlying t = some .string) : Reads P t 1 RStr := by
  intro H enc W base spare held fuel cs d ps h hw
  obtain ⟨s, rfl, hx, _⟩ := DataW.trod_string ht h
  simp only [Prod.mk.injEq] at hx
  rw [hx.1] at hw
  have := hw s.data.toList.length (by simp [DataW.weights])
  have h2 := reachBytes_lt
  exact ⟨rfl, s.data.toList, s, rfl, by rw [size_list] at this; omega, rfl⟩
/-- A slice in one cell. -/
def RSl {α : Type} (R : World → Nat → List Value → α → Prop) (sz : Nat) (W : World) (B : Nat) (e : List Value) (xs : List α) : Prop := ∃ v, e = [v] ∧ SlR R sz W B v xs
theorem RSl.kept {α : Type} {R : World → Nat → List Value → α → Prop} {sz : Nat} (h : KeptR R) : KeptR (RSl R sz) := fun _ _ _ _ _ ⟨v, hv, hs⟩ hb => ⟨v, hv, hs.keep h hb⟩
theorem RSl.more {α : Type} {R : World → Nat → List Value → α → Prop} {sz : Nat} (h : MoreR R) : MoreR (RSl R sz) := fun _ _ _ _ _ ⟨v, hv, hs⟩ hb => ⟨v, hv, hs.more h hb⟩

theorem weights_all {H : Type} {P : Program} {e : TypeId} : ∀ {ds : List (DataW H)} {d : DataW H}, d ∈ ds → ∀ n ∈ d.weights P e, n ∈ DataW.weightsAll P e ds
  | d0 :: ds, d, hd, n, hn => by
    simp only [DataW.weightsAll, List.mem_append]
    rcases List.mem_cons.1 hd with rfl | hd
    · exact .inl hn
    · exact .inr (weights_all hd n hn)

theorem addr_add (b o n : Nat) : (⟨b, o, none⟩ : Addr).add n = ⟨b, o + n, none⟩ := by
  unfold Addr.add
  split
  · rename_i h; subst h; rfl
  · rfl
theorem addr_none {W : World} {a : Addr} {v : Value} (h : W.cell? a = some v) : a = ⟨a.block, a.off, none⟩ := by
  have := World.cell?_spot h
  cases a; simp_all

theorem reads_slice {α : Type} {P : Program} {t e : TypeId} {sz : Nat} {R : World → Nat → List Value → α → Prop} (ht : P.underlying t = some (.slice e)) (hC : P.cellsOf e = sz) (hsz : 0 < sz) (hb : 0 < P.bytesOf e) (hR : Reads P e sz R) : Reads P t 1 (RSl R sz) := by
  intro H enc W base spare held fuel cs d ps h hw
  rcases open_slice ht h with ⟨rfl, _⟩ | ⟨a, len, cap, m, n, D, Pl, rfl, hba, hl, hm, hmm, hx, hi⟩
  · exact ⟨rfl, [], _, rfl, none, 0, rfl, by simp, by simp, fun i x hx => by simp at hx⟩
  · simp only [Prod.mk.injEq] at hx
    rw [hx.1] at hw
    have hlm : len ≤ m := by rw [hmm]; split <;> omega
    have hlen : len ≤ 140737488355328 := by
      have := hw ((((List.range len).map D).length + ((List.range (m - len)).map fun j => D (len + j)).length) * P.bytesOf e) (by simp [DataW.weights, ht])
      simp only [List.length_map, List.length_range] at this
      have h2 := reachBytes_lt
      have h3 : len + (m - len) ≤ (len + (m - len)) * P.bytesOf e := Nat.le_mul_of_pos_right _ hb
      omega
    have hel : ∀ i, i < len → ∃ x cs', W.cells? base (a.add (i * sz)) sz = some cs' ∧ cs'.length = sz ∧ R W W.heap.size cs' x := fun i hil => by
      obtain ⟨cs', hc, htr⟩ := hi i (by omega)
      rw [hC] at hc
      obtain ⟨h1, x, h2⟩ := hR H enc W base spare held n cs' (D i) (Pl i) htr (fun k hk => hw k (by
        simp only [DataW.weights, ht]
        exact List.mem_cons_of_mem _ (List.mem_append_left _ (weights_all (List.mem_map.2 ⟨i, List.mem_range.2 hil, rfl⟩) k hk))))
      exact ⟨x, cs', hc, h1, h2⟩
    have hall : ∀ k, k ≤ len → ∃ xs : List α, xs.length = k ∧ ∀ i x, xs[i]? = some x → ∃ cs', W.cells? base (a.add (i * sz)) sz = some cs' ∧ cs'.length = sz ∧ R W W.heap.size cs' x := by
      intro k
      induction k with
      | zero => exact fun _ => ⟨[], rfl, fun i x hx => by simp at hx⟩
      | succ k ih =>
        intro hk
        obtain ⟨xs, hxl, hxs⟩ := ih (by omega)
        obtain ⟨x, hx⟩ := hel k (by omega)
        refine ⟨xs ++ [x], by simp [hxl], fun i y hy => ?_⟩
        rcases Nat.lt_or_ge i xs.length with hlt | hge
        · rw [List.getElem?_append_left hlt] at hy; exact hxs i y hy
        · rw [List.getElem?_append_right hge] at hy
          have : i - xs.length = 0 := by
            have := (List.getElem?_eq_some_iff.1 hy).1
            simp at this; omega
          rw [this] at hy
          simp at hy
          subst hy
          rw [show i = k by omega]
          exact hx
    obtain ⟨xs, hxl, hxs⟩ := hall len (Nat.le_refl _)
    refine ⟨rfl, xs, _, rfl, some a, cap, by rw [hxl], by omega, by omega, fun i x hx => ?_⟩
    have h0 : 0 < len := by have := (List.getElem?_eq_some_iff.1 hx).1; omega
    obtain ⟨c0, hc0, hc0l, _⟩ := hxs 0 _ (List.getElem?_eq_getElem (by omega))
    obtain ⟨_, _, hcells0⟩ := World.cells?_some hc0
    have ha : a = ⟨a.block, a.off, none⟩ := by
      have h1 := hcells0 0 hsz
      rw [show (a.add (0 * sz)).add 0 = a by simp [Addr.add]] at h1
      rw [List.getElem?_eq_getElem (by omega)] at h1
      exact addr_none h1
    obtain ⟨cs', hc, hcl, hRx⟩ := hxs i x hx
    obtain ⟨_, _, hcells⟩ := World.cells?_some hc
    have hce : CellsAt W a.block (a.off + i * sz) cs' := fun j u hj => by
      have hjl := (List.getElem?_eq_some_iff.1 hj).1
      have h1 := hcells j (by omega)
      rw [hj, ha] at h1
      have h2 : ((⟨a.block, a.off, none⟩ : Addr).add (i * sz)).add j = ⟨a.block, a.off + i * sz + j, none⟩ := by
        rw [addr_add, addr_add]
      rw [h2] at h1
      exact h1
    refine ⟨a.block, a.off, cs', by rw [← ha], ?_, hcl, hce, hRx⟩
    have := World.block_lt_of_cell? W _ (hce 0 _ (List.getElem?_eq_getElem (by omega)))
    exact this

/-- The fields of a struct, each with its own reading. -/
theorem reads_parts {P : Program} {t : TypeId} {fs : Array Field} (hs : P.underlying t = some (.struct fs)) {H : Type} {enc : TypeId × Value → H} {W : World} {base : Nat} {spare : Nat → Bool} {held : Bool} {fuel : Nat} {cs : List Value} {d : DataW H} {ps : List MemPlace}
    (h : DataW.trod enc P W base spare held fuel t cs = some (d, ps)) (hw : ∀ n ∈ d.weights P t, n ≤ reachBytes) :
    cs.length = P.cellsOf t ∧ ∀ (j : Nat) (f : Field), fs[j]? = some f → ∃ n d' ps', DataW.trod enc P W base spare held n f.type ((cs.drop f.offset).take (P.cellsOf f.type)) = some (d', ps') ∧ ∀ k ∈ d'.weights P f.type, k ≤ reachBytes := by
  obtain ⟨ys, n, _, hx, hl, hyl, hf⟩ := DataW.trod_struct hs h
  simp only [Prod.mk.injEq] at hx
  refine ⟨hl, fun j f hj => ?_⟩
  have hjl : j < fs.size := (Array.getElem?_eq_some_iff.1 hj).1
  have h1 := hf j f hj
  rw [List.getElem?_eq_getElem (by omega)] at h1
  refine ⟨n, _, _, h1, fun k hk => hw k ?_⟩
  rw [hx.1]
  simp only [DataW.weights, hs]
  refine DataW.weights_mem_each (j := j) (t := f.type) (d := (ys[j]'(by omega)).1) ?_ ?_ k hk
  · simp [hj]
  · simp [List.getElem?_eq_getElem (show j < ys.length by omega)]

/-- Every argument reads behind the call as it did before. -/
theorem below_trodAll {H : Type} {enc : TypeId × Value → H} {P : Program} (hl : laidOutB P = true) {W W' : World} (hb : Below W.heap.size W W') :
    ∀ {ts : List TypeId} {vs : List Value} {ds : List (DataW H)} {ps : List MemPlace}, (∀ t ∈ ts, P.readableRec t = true ∧ t < P.types.size) → DataW.TrodAll enc P W 0 (fun _ => true) true ts vs ds ps → (∀ x ∈ ps, x.block < W.heap.size) →
      DataW.TrodAll enc P W' 0 (fun b => decide (b < W.heap.size)) true ts vs ds ps
  | [], [], [], _, _, h, _ => h
  | t :: ts, v :: vs, d :: ds, ps, hr, h, hlt => by
    obtain ⟨p, q, h1, h2, rfl⟩ := h
    have ht := hr t (by simp)
    exact ⟨p, q, Below.trod hl ht.1 ht.2 h1 hb (fun x hx => hlt x (by simp [hx])), below_trodAll hl hb (fun t ht => hr t (by simp [ht])) h2 (fun x hx => hlt x (by simp [hx])), rfl⟩
  | [], _ :: _, _, _, _, h, _ => h.elim
  | [], [], _ :: _, _, _, h, _ => h.elim
  | _ :: _, [], _, _, _, h, _ => h.elim
  | _ :: _, _ :: _, [], _, _, h, _ => h.elim

/-- The last step of a law's row: the call handed back true, and nothing that lay before has turned. -/
theorem law_done {H : Type} {enc : TypeId × Value → H} {P : Program} {f : Func} {s : ChangeSpec} {W W' : World} {args : Array Value} {v : Value} {ds gs : List (DataW H)} {before : List MemPlace}
    (hl : laidOutB P = true) (hr : ∀ t ∈ f.params.toList, P.readableRec t = true ∧ t < P.types.size) (hvs : s.vars = [])
    (hW : DataW.Whole enc P f.params.toList s.vars false W args.toList ds gs before) (hb : Below W.heap.size W W')
    (hres : ∀ (b : Nat) (sp : Nat → Bool) (hd : Bool), DataW.TrodAll enc P W' b sp hd f.resultTypes.toList (v.resultList f.resultTypes.size) (s.fn H (ds ++ gs)).results [])
    (hargs : (s.fn H (ds ++ gs)).args = ds) (hvars : (s.fn H (ds ++ gs)).vars = []) :
    s.post enc P f false true false false W args v W' := by
  have hlt := hW.lt
  have hW' := hW
  obtain ⟨p, q, hA, hV, rfl, _, _⟩ := hW
  rw [hvs] at hV
  have hq : q = [] := by
    cases gs with
    | nil => exact hV
    | cons _ _ => exact hV.elim
  subst hq
  refine ⟨ds, gs, _, [], p, [], hW', hres _ _ _, ?_, ?_, World.keptBut_mono (fun x hx => ⟨hx, .inr (by simpa using hx)⟩) (hb.frame (· ∈ p ++ [])), fun h => by cases h⟩
  · rw [hargs]
    exact below_trodAll hl hb hr hA (fun x hx => hlt x (by simp [hx]))
  · rw [hvars, hvs]; rfl

theorem cellsStr : Tryz.prog.cellsOf 9 = 1 := by kernel_rfl
theorem lo : laidOutB Tryz.prog = true := by kernel_rfl
end Go.Proofs.YtnbolgdccdnjeaaGreatDoor
