/- Joined by program from: AppSl, AppSl2, AppSl3, Refuse, Next. -/
import Derived.Test.YtnbolgdccdnjeaaGreatDoorOwn
import Derived.Laws.AppendOwnNone
import Derived.Deep.AppendLies
import Derived.Test.YtnbolgdccdnjeaaGreatDoorHead05
import Derived.Test.YtnbolgdccdnjeaaGreatDoorPrintBd
import Derived.Test.YtnbolgdccdnjeaaGreatDoorRfB
import Derived.Deep.RegionHeld3
/- A slice that is appended to a row of the call's own, element by element. No condition. -/
namespace Go.Proofs.YtnbolgdccdnjeaaGreatDoor
open Go.RowKit
/-- The row v of the call's own reads as xs; what its elements lead to lies below B. -/
def OwnR {α : Type} (R : World → Nat → List Value → α → Prop) (sz : Nat) (e : TypeId) (base B : Nat) (w : World) (v : Value) (xs : List α) : Prop :=
  ∃ rows : List (List Value), rows.length = xs.length ∧ w.ownsRow base e sz v xs.length rows.flatten ∧ ∀ (i : Nat) (r : List Value) (x : α), rows[i]? = some r → xs[i]? = some x → r.length = sz ∧ R w B r x
theorem flatten_at {sz : Nat} : ∀ (rows : List (List Value)) (i j : Nat) (r : List Value) (u : Value), (∀ q ∈ rows, q.length = sz) → rows[i]? = some r → r[j]? = some u → rows.flatten[i * sz + j]? = some u := by
  intro rows
  induction rows with
  | nil => intro i j r u _ h; simp at h
  | cons q rows ih =>
    intro i j r u hq h hj
    have hl : q.length = sz := hq q (by simp)
    rw [List.flatten_cons]
    cases i with
    | zero =>
      simp at h; subst h
      rw [List.getElem?_append_left (by have := (List.getElem?_eq_some_iff.1 hj).1; omega)]
      simpa using hj
    | succ i =>
      rw [List.getElem?_append_right (by rw [hl, Nat.succ_mul]; omega), hl, show (i + 1) * sz + j - sz = i * sz + j by rw [Nat.succ_mul]; omega]
      exact ih i j r u (fun q hq' => hq q (by simp [hq'])) (by simpa using h) hj
theorem flatten_len {sz : Nat} : ∀ (rows : List (List Value)), (∀ q ∈ rows, q.length = sz) → rows.flatten.length = rows.length * sz := by
  intro rows
  induction rows with
  | nil => intro _; simp
  | cons q rs ih =>
    intro h
    rw [List.flatten_cons, List.length_append, ih (fun x hx => h x (by simp [hx])), h q (by simp), List.length_cons, Nat.succ_mul]; omega
theorem OwnR.rows_len {α : Type} {R : World → Nat → List Value → α → Prop} {sz B : Nat} {w : World} {xs : List α} {rows : List (List Value)} (hl : rows.length = xs.length) (h : ∀ (i : Nat) (r : List Value) (x : α), rows[i]? = some r → xs[i]? = some x → r.length = sz ∧ R w B r x) : ∀ q ∈ rows, q.length = sz := fun q hq => by
  obtain ⟨i, hi, rfl⟩ := List.mem_iff_getElem.1 hq
  exact (h i _ _ (List.getElem?_eq_getElem hi) (List.getElem?_eq_getElem (by omega))).1
theorem OwnR.slr {α : Type} {R : World → Nat → List Value → α → Prop} {sz : Nat} {e : TypeId} {base B : Nat} {w : World} {v : Value} {xs : List α} (h : OwnR R sz e base B w v xs) (hm : MoreR R) (hB : B ≤ w.heap.size) (hl : xs.length ≤ 140737488355328) : SlR R sz w w.heap.size v xs := by
  obtain ⟨rows, h1, h2, h3⟩ := h
  rcases h2.2 with ⟨rfl, h0⟩ | ⟨g, cap, cur, rfl, hb, hg, hnc, _⟩
  · have : xs = [] := List.eq_nil_of_length_eq_zero h0
    subst this
    exact ⟨none, 0, rfl, by simp, by simp, fun i x hx => by simp at hx⟩
  · refine ⟨_, cap, rfl, hnc, hl, fun i x hx => ?_⟩
    have hi := (List.getElem?_eq_some_iff.1 hx).1
    have hr := List.getElem?_eq_getElem (show i < rows.length by omega)
    obtain ⟨h4, h5⟩ := h3 i _ x hr hx
    refine ⟨g, 0, rows[i], rfl, (Array.getElem?_eq_some_iff.1 hg).1, h4, fun j u hj => ?_, hm _ _ _ _ _ h5 hB⟩
    have h6 := h2.cells (g := g) rfl _ _ (flatten_at rows i j _ u (OwnR.rows_len h1 h3) hr hj)
    have hadd : (⟨g, 0, none⟩ : Addr).add (i * sz + j) = ⟨g, 0 + i * sz + j, none⟩ := by unfold Addr.add; split <;> simp_all
    rw [hadd] at h6
    exact h6
theorem OwnR.keep {α : Type} {R : World → Nat → List Value → α → Prop} {sz : Nat} {e : TypeId} {base B : Nat} {w w' : World} {v : Value} {xs : List α} (h : OwnR R sz e base B w v xs) (hk : KeptR R) (hb : Below w.heap.size w w') (hB : B ≤ w.heap.size) : OwnR R sz e base B w' v xs := by
  obtain ⟨rows, h1, h2, h3⟩ := h
  refine ⟨rows, h1, ownsRow_keep h2 (fun g hg => hb.block g (h2.lt g hg).2), fun i r x hr hx => ?_⟩
  obtain ⟨h4, h5⟩ := h3 i r x hr hx
  exact ⟨h4, hk _ _ _ _ _ h5 (hb.mono hB)⟩
theorem OwnR.empty {α : Type} {R : World → Nat → List Value → α → Prop} {sz : Nat} {e : TypeId} {base B : Nat} (w : World) (hb : base ≤ w.heap.size) : OwnR (α := α) R sz e base B (w.alloc (.cells #[] e)) (.slice (some ⟨w.heap.size, 0, none⟩) 0 0) [] :=
  ⟨[], rfl, ⟨by simp, .inr ⟨w.heap.size, 0, #[], rfl, hb, heap_alloc_new _ _, Nat.le_refl _, by simp [maxLen], by simp, by simp⟩⟩, fun i r x hr => by simp at hr⟩
theorem OwnR.nil {α : Type} {R : World → Nat → List Value → α → Prop} {sz : Nat} {e : TypeId} {base B : Nat} (w : World) : OwnR (α := α) R sz e base B w (.slice none 0 0) [] := ⟨[], rfl, ⟨by simp, .inl ⟨rfl, rfl⟩⟩, fun i r x hr => by simp at hr⟩
/-- The cells of a slice, row by row. -/
theorem slr_rows {α : Type} {R : World → Nat → List Value → α → Prop} {sz : Nat} {w : World} {B : Nat} {A : Option Addr} {n c : Nat} {ys : List α} (h : SlR R sz w B (.slice A n c) ys) (hsz : 0 < sz) :
    ∃ rows : List (List Value), rows.length = ys.length ∧ (∀ (i : Nat) (r : List Value) (x : α), rows[i]? = some r → ys[i]? = some x → r.length = sz ∧ R w B r x) ∧ (ys ≠ [] → ∃ b o, A = some ⟨b, o, none⟩ ∧ b < B ∧ ∀ j u, rows.flatten[j]? = some u → w.cell? ((⟨b, o, none⟩ : Addr).add j) = some u) := by
  obtain ⟨A', c', hv, hc, hl, he⟩ := h
  cases hv
  have hall : ∀ k, k ≤ ys.length → ∃ rows : List (List Value), rows.length = k ∧ (∀ (i : Nat) (r : List Value) (x : α), rows[i]? = some r → ys[i]? = some x → r.length = sz ∧ R w B r x ∧ ∃ b o, A = some ⟨b, o, none⟩ ∧ b < B ∧ CellsAt w b (o + i * sz) r) := by
    intro k
    induction k with
    | zero => exact fun _ => ⟨[], rfl, fun i r x hr => by simp at hr⟩
    | succ k ih =>
      intro hk
      obtain ⟨rows, h1, h2⟩ := ih (by omega)
      obtain ⟨b, o, e, hA, hb, hel, hce, hr⟩ := he k _ (List.getElem?_eq_getElem (by omega : k < ys.length))
      refine ⟨rows ++ [e], by simp [h1], fun i r x hr' hx => ?_⟩
      rcases Nat.lt_or_ge i rows.length with hlt | hge
      · rw [List.getElem?_append_left hlt] at hr'; exact h2 i r x hr' hx
      · rw [List.getElem?_append_right hge] at hr'
        have h0 : i - rows.length = 0 := by have := (List.getElem?_eq_some_iff.1 hr').1; simp at this; omega
        rw [h0] at hr'
        simp at hr'
        subst hr'
        obtain rfl : i = k := by omega
        rw [List.getElem?_eq_getElem (by omega)] at hx
        simp only [Option.some.injEq] at hx
        subst hx
        exact ⟨hel, hr, b, o, hA, hb, hce⟩
  obtain ⟨rows, h1, h2⟩ := hall ys.length (Nat.le_refl _)
  refine ⟨rows, h1, fun i r x hr hx => ⟨(h2 i r x hr hx).1, (h2 i r x hr hx).2.1⟩, fun hne => ?_⟩
  have h0 : 0 < ys.length := Nat.pos_of_ne_zero (fun e => hne (List.eq_nil_of_length_eq_zero e))
  obtain ⟨_, _, b, o, hA, hb, _⟩ := h2 0 _ _ (List.getElem?_eq_getElem (by omega)) (List.getElem?_eq_getElem h0)
  refine ⟨b, o, hA, hb, fun j u hj => ?_⟩
  have hlen : ∀ q ∈ rows, q.length = sz := fun q hq => by
    obtain ⟨i, hi, rfl⟩ := List.mem_iff_getElem.1 hq
    exact (h2 i _ _ (List.getElem?_eq_getElem hi) (List.getElem?_eq_getElem (by omega))).1
  have hfl := flatten_len rows hlen
  have hjl := (List.getElem?_eq_some_iff.1 hj).1
  have hi : j / sz < rows.length := by rw [hfl] at hjl; exact Nat.div_lt_of_lt_mul (by rw [Nat.mul_comm]; exact hjl)
  obtain ⟨h5, _, b', o', hA', _, hce⟩ := h2 (j / sz) _ _ (List.getElem?_eq_getElem hi) (List.getElem?_eq_getElem (by omega))
  rw [hA] at hA'
  simp only [Option.some.injEq, Addr.mk.injEq, and_true] at hA'
  obtain ⟨rfl, rfl⟩ := hA'
  have hmod : j % sz < rows[j / sz].length := by rw [h5]; exact Nat.mod_lt _ hsz
  have h7 := flatten_at rows (j / sz) (j % sz) _ _ hlen (List.getElem?_eq_getElem hi) (List.getElem?_eq_getElem hmod)
  rw [Nat.div_add_mod' j sz, hj] at h7
  simp only [Option.some.injEq] at h7
  have h8 := hce (j % sz) _ (List.getElem?_eq_getElem hmod)
  rw [← h7] at h8
  have hadd : (⟨b, o, none⟩ : Addr).add j = ⟨b, o + j, none⟩ := by unfold Addr.add; split <;> simp_all
  rw [hadd, ← h8]
  congr 2
  have := Nat.div_add_mod' j sz
  omega
section
variable {P : Program}
theorem run_append_none_any {w : World} (base : Nat) (t ty e : TypeId) (i : TypeInfo) (size : Nat) (ht : P.underlying t = some (.slice e)) (hi : P.info? e = some i) (v : Value) (n c : Nat) (xs : List Value) (hown : w.ownsRow base e size v n xs) :
    (Builtin.append_ #[t, t] ty #[v, .slice none 0 c]).run P w = .ok v w := by
  rcases hown.2 with ⟨rfl, rfl⟩ | ⟨g, cap, cur, rfl, _, _, hnc, _⟩
  · simp [Builtin.append_, run_underlying ht, sizeOf, typeInfo, hi, Builtin.lenOf, Builtin.firstCells]
  · simp [Builtin.append_, run_underlying ht, sizeOf, typeInfo, hi, Builtin.lenOf, Builtin.firstCells, hnc, storeCells]
/-- A slice is appended to a row of the call's own. -/
theorem wpList_append_R {α : Type} {R : World → Nat → List Value → α → Prop} {sz : Nat} (w : World) {ops : Array Oper} {rest : List Oper} {o : Oper} {a : Act} {Q : Exit → Act → World → Prop} (hgd : o.guard = none) (s x : Operand) (t : TypeId)
    (ho : o.op = .call { callee := .builtin .append, args := #[s, x], argTypes := #[t, t] })
    (base B : Nat) (e : TypeId) (i : TypeInfo) (z : Value) (bytes : Nat) (ht : P.underlying t = some (.slice e)) (hi : P.info? e = some i) (hz : i.zero = some z) (hsize : i.size = sz) (hby : i.bytes = bytes) (hzs : z.cells.size = sz) (hsz : 0 < sz)
    (v : Value) (xs : List α) (hs : a.eval s = v) (hown : OwnR R sz e base B w v xs) (A : Option Addr) (c Bs : Nat) (ys : List α) (hx : a.eval x = .slice A ys.length c) (hsl : SlR R sz w Bs (.slice A ys.length c) ys)
    (hone : ∀ r y, R w Bs r y → ∀ u ∈ r, u.oneCell' = true) (h63 : xs.length + ys.length ≤ maxLen) (hbytes : (xs.length + ys.length) * bytes ≤ 140737488355328) (hbase : base ≤ w.heap.size) (hBs : Bs ≤ B) (hBb : B ≤ base) (hk : KeptR R) (hm : MoreR R)
    (h : ∀ v' w', OwnR R sz e base B w' v' (xs ++ ys) → Below base w w' → w.grownBy w' v.ownBlock → wpList P ops Q rest (a.put o.dst v') w') : wpList P ops Q (o :: rest) a w := by
  have hkeep : ∀ (w' : World) (v' : Value) (rows rows' : List (List Value)), Below base w w' → rows.length = xs.length → (∀ (i : Nat) (r : List Value) (x : α), rows[i]? = some r → xs[i]? = some x → r.length = sz ∧ R w B r x) → rows'.length = ys.length →
      (∀ (i : Nat) (r : List Value) (x : α), rows'[i]? = some r → ys[i]? = some x → r.length = sz ∧ R w Bs r x) → w'.ownsRow base e sz v' (xs.length + ys.length) (rows.flatten ++ rows'.flatten) → OwnR R sz e base B w' v' (xs ++ ys) := by
    intro w' v' rows rows' hb h1 h2 h3 h4 h5
    refine ⟨rows ++ rows', by simp [h1, h3], ?_, fun j r y hr hy => ?_⟩
    · rw [List.length_append, List.flatten_append]; exact h5
    · rcases Nat.lt_or_ge j rows.length with hlt | hge
      · rw [List.getElem?_append_left hlt] at hr
        rw [List.getElem?_append_left (by omega)] at hy
        obtain ⟨h6, h7⟩ := h2 j r y hr hy
        exact ⟨h6, hk _ _ _ _ _ h7 (hb.mono hBb)⟩
      · rw [List.getElem?_append_right hge] at hr
        rw [List.getElem?_append_right (by omega), ← h1] at hy
        obtain ⟨h6, h7⟩ := h4 _ r y hr hy
        exact ⟨h6, hk _ _ _ _ _ (hm _ _ _ _ _ h7 hBs) (hb.mono hBb)⟩
  obtain ⟨rows, h1, h2, h3⟩ := hown
  obtain ⟨rows', h4, h5, h6⟩ := slr_rows hsl hsz
  by_cases hy : ys = []
  · subst hy
    have hr0 : rows' = [] := List.eq_nil_of_length_eq_zero (by simpa using h4)
    subst hr0
    cases A with
    | none =>
      have hrun := run_append_none_any (P := P) base t o.type e i sz ht hi v xs.length c rows.flatten h2
      refine wpList_plain hgd fun K hK => ?_
      unfold Oper.wp
      have hx' : a.eval x = .slice none 0 c := hx
      simp [execOp, ho, resolve, invoke, builtin, hs, hx', hrun, Result.andThen]
      refine hK _ _ (h v w (hkeep w v rows [] (Below.refl _ _) h1 h3 rfl (fun j r y hr => by simp at hr) (by simpa using h2)) (Below.refl _ _) ⟨rfl, rfl, rfl, Nat.le_refl _, fun _ _ _ => rfl⟩)
    | some ad =>
      refine wpList_append_own_at w hgd s x t ho base e i z sz bytes ht hi hz hsize hby hzs hsz v xs.length rows.flatten hs h2 ad 0 c [] hx (by simp) (fun j u hj => by simp at hj) (fun u hu => by cases hu) (by simpa using h63) (by simpa using hbytes) hbase ?_
      intro v' w' ho' hg _ _
      have hb : Below base w w' := (Below.refl _ _).grown hg hbase (fun k hk => (h2.lt k hk).1)
      exact h v' w' (hkeep w' v' rows [] hb h1 h3 rfl (fun j r y hr => by simp at hr) (by simpa using ho')) hb hg
  · obtain ⟨b, o', rfl, hbB, hcell⟩ := h6 hy
    have hl := OwnR.rows_len h4 h5
    refine wpList_append_own_at w hgd s x t ho base e i z sz bytes ht hi hz hsize hby hzs hsz v xs.length rows.flatten hs h2 ⟨b, o', none⟩ ys.length c rows'.flatten hx (by rw [flatten_len rows' hl, h4]) hcell (fun u hu => ?_) h63 hbytes hbase ?_
    · obtain ⟨r, hr, hur⟩ := List.mem_flatten.1 hu
      obtain ⟨j, hj, rfl⟩ := List.mem_iff_getElem.1 hr
      exact hone _ _ (h5 j _ _ (List.getElem?_eq_getElem hj) (List.getElem?_eq_getElem (by omega))).2 u hur
    · intro v' w' ho' hg _ _
      have hb : Below base w w' := (Below.refl _ _).grown hg hbase (fun k hk => (h2.lt k hk).1)
      exact h v' w' (hkeep w' v' rows rows' hb h1 h3 h4 h5 ho') hb hg
end
end Go.Proofs.YtnbolgdccdnjeaaGreatDoor
/- The law on append of XAppSl at a step of a region that draws its order. -/
namespace Go.Proofs.YtnbolgdccdnjeaaGreatDoor
open Go.RowKit
/-- The cells of a slice read as ys now; what they lead to lies below B (the slice itself may lie anywhere). -/
def RowsAt {α : Type} (R : World → Nat → List Value → α → Prop) (sz : Nat) (w : World) (B : Nat) (A : Option Addr) (ys : List α) : Prop :=
  ∃ rows : List (List Value), rows.length = ys.length ∧ (∀ (i : Nat) (r : List Value) (x : α), rows[i]? = some r → ys[i]? = some x → r.length = sz ∧ R w B r x) ∧ (ys ≠ [] → ∃ b o, A = some ⟨b, o, none⟩ ∧ ∀ j u, rows.flatten[j]? = some u → w.cell? ((⟨b, o, none⟩ : Addr).add j) = some u)
theorem rowsAt_slr {α : Type} {R : World → Nat → List Value → α → Prop} {sz : Nat} {w : World} {Bs B : Nat} {A : Option Addr} {n c : Nat} {ys : List α} (h : SlR R sz w Bs (.slice A n c) ys) (hsz : 0 < sz) (hB : Bs ≤ B) (hm : MoreR R) : RowsAt R sz w B A ys := by
  obtain ⟨rows, h1, h2, h3⟩ := slr_rows h hsz
  exact ⟨rows, h1, fun i r x hr hx => ⟨(h2 i r x hr hx).1, hm _ _ _ _ _ (h2 i r x hr hx).2 hB⟩, fun hy => by obtain ⟨b, o, h4, _, h5⟩ := h3 hy; exact ⟨b, o, h4, h5⟩⟩
theorem rowsAt_one {α : Type} {R : World → Nat → List Value → α → Prop} {sz : Nat} {w : World} {B b o : Nat} {r : List Value} {x : α} (hl : r.length = sz) (hr : R w B r x) (hc : CellsAt w b o r) : RowsAt R sz w B (some ⟨b, o, none⟩) [x] := by
  refine ⟨[r], rfl, fun i r' x' h1 h2 => ?_, fun _ => ⟨b, o, rfl, fun j u hj => ?_⟩⟩
  · cases i with
    | zero => simp at h1 h2; subst h1; subst h2; exact ⟨hl, hr⟩
    | succ i => simp at h1
  · have hadd : (⟨b, o, none⟩ : Addr).add j = ⟨b, o + j, none⟩ := by unfold Addr.add; split <;> simp_all
    rw [hadd]
    exact hc j u (by simpa using hj)
section
variable {P : Program}
theorem run_append_R {α : Type} {R : World → Nat → List Value → α → Prop} {sz : Nat} (w : World) (t ty : TypeId)
    (base B : Nat) (e : TypeId) (i : TypeInfo) (z : Value) (bytes : Nat) (ht : P.underlying t = some (.slice e)) (hi : P.info? e = some i) (hz : i.zero = some z) (hsize : i.size = sz) (hby : i.bytes = bytes) (hzs : z.cells.size = sz) (hsz : 0 < sz)
    (v : Value) (xs : List α) (hown : OwnR R sz e base B w v xs) (A : Option Addr) (c : Nat) (ys : List α) (hsl : RowsAt R sz w B A ys)
    (hone : ∀ r y, R w B r y → ∀ u ∈ r, u.oneCell' = true) (h63 : xs.length + ys.length ≤ maxLen) (hbytes : (xs.length + ys.length) * bytes ≤ 140737488355328) (hbase : base ≤ w.heap.size) (hBb : B ≤ base) (hk : KeptR R) :
    ∃ v' w', (Builtin.append_ #[t, t] ty #[v, .slice A ys.length c]).run P w = .ok v' w' ∧ OwnR R sz e base B w' v' (xs ++ ys) ∧ Below base w w' ∧ w.grownBy w' v.ownBlock ∧ (v'.ownBlock = v.ownBlock ∨ v'.ownBlock = some w.heap.size) := by
  have hkeep : ∀ (w' : World) (v' : Value) (rows rows' : List (List Value)), Below base w w' → rows.length = xs.length → (∀ (i : Nat) (r : List Value) (x : α), rows[i]? = some r → xs[i]? = some x → r.length = sz ∧ R w B r x) → rows'.length = ys.length →
      (∀ (i : Nat) (r : List Value) (x : α), rows'[i]? = some r → ys[i]? = some x → r.length = sz ∧ R w B r x) → w'.ownsRow base e sz v' (xs.length + ys.length) (rows.flatten ++ rows'.flatten) → OwnR R sz e base B w' v' (xs ++ ys) := by
    intro w' v' rows rows' hb h1 h2 h3 h4 h5
    refine ⟨rows ++ rows', by simp [h1, h3], ?_, fun j r y hr hy => ?_⟩
    · rw [List.length_append, List.flatten_append]; exact h5
    · rcases Nat.lt_or_ge j rows.length with hlt | hge
      · rw [List.getElem?_append_left hlt] at hr
        rw [List.getElem?_append_left (by omega)] at hy
        obtain ⟨h6, h7⟩ := h2 j r y hr hy
        exact ⟨h6, hk _ _ _ _ _ h7 (hb.mono hBb)⟩
      · rw [List.getElem?_append_right hge] at hr
        rw [List.getElem?_append_right (by omega), ← h1] at hy
        obtain ⟨h6, h7⟩ := h4 _ r y hr hy
        exact ⟨h6, hk _ _ _ _ _ h7 (hb.mono hBb)⟩
  obtain ⟨rows, h1, h2, h3⟩ := hown
  obtain ⟨rows', h4, h5, h6⟩ := hsl
  by_cases hy : ys = []
  · subst hy
    have hr0 : rows' = [] := List.eq_nil_of_length_eq_zero (by simpa using h4)
    subst hr0
    cases A with
    | none =>
      have hrun := run_append_none_any (P := P) base t ty e i sz ht hi v xs.length c rows.flatten h2
      exact ⟨v, w, hrun, hkeep w v rows [] (Below.refl _ _) h1 h3 rfl (fun j r y hr => by simp at hr) (by simpa using h2), Below.refl _ _, ⟨rfl, rfl, rfl, Nat.le_refl _, fun _ _ _ => rfl⟩, .inl rfl⟩
    | some ad =>
      obtain ⟨v', w', hr, ho', hg, _, hat⟩ := run_append_own_at (P := P) w base t ty e i z sz bytes ht hi hz hsize hby hzs hsz v xs.length rows.flatten h2 ad 0 c [] (by simp) (fun j u hj => by simp at hj) (fun u hu => by cases hu) (by simpa using h63) (by simpa using hbytes) hbase
      have hb : Below base w w' := (Below.refl _ _).grown hg hbase (fun k hk => (h2.lt k hk).1)
      exact ⟨v', w', hr, hkeep w' v' rows [] hb h1 h3 rfl (fun j r y hr => by simp at hr) (by simpa using ho'), hb, hg, hat⟩
  · obtain ⟨b, o', rfl, hcell⟩ := h6 hy
    have hl := OwnR.rows_len h4 h5
    obtain ⟨v', w', hr, ho', hg, _, hat⟩ := run_append_own_at (P := P) w base t ty e i z sz bytes ht hi hz hsize hby hzs hsz v xs.length rows.flatten h2 ⟨b, o', none⟩ ys.length c rows'.flatten (by rw [flatten_len rows' hl, h4]) hcell (fun u hu => by
      obtain ⟨r, hr, hur⟩ := List.mem_flatten.1 hu
      obtain ⟨j, hj, rfl⟩ := List.mem_iff_getElem.1 hr
      exact hone _ _ (h5 j _ _ (List.getElem?_eq_getElem hj) (List.getElem?_eq_getElem (by omega))).2 u hur) h63 hbytes hbase
    have hb : Below base w w' := (Below.refl _ _).grown hg hbase (fun k hk => (h2.lt k hk).1)
    exact ⟨v', w', hr, hkeep w' v' rows rows' hb h1 h3 h4 h5 ho', hb, hg, hat⟩
theorem wp_append_R {α : Type} {R : World → Nat → List Value → α → Prop} {sz : Nat} (w : World) {o : Oper} {a : Act} {K : Act → World → Prop} {Q : Exit → Act → World → Prop} (s x : Operand) (t : TypeId)
    (ho : o.op = .call { callee := .builtin .append, args := #[s, x], argTypes := #[t, t] })
    (base B : Nat) (e : TypeId) (i : TypeInfo) (z : Value) (bytes : Nat) (ht : P.underlying t = some (.slice e)) (hi : P.info? e = some i) (hz : i.zero = some z) (hsize : i.size = sz) (hby : i.bytes = bytes) (hzs : z.cells.size = sz) (hsz : 0 < sz)
    (v : Value) (xs : List α) (hs : a.eval s = v) (hown : OwnR R sz e base B w v xs) (A : Option Addr) (c : Nat) (ys : List α) (hx : a.eval x = .slice A ys.length c) (hsl : RowsAt R sz w B A ys)
    (hone : ∀ r y, R w B r y → ∀ u ∈ r, u.oneCell' = true) (h63 : xs.length + ys.length ≤ maxLen) (hbytes : (xs.length + ys.length) * bytes ≤ 140737488355328) (hbase : base ≤ w.heap.size) (hBb : B ≤ base) (hk : KeptR R)
    (h : ∀ v' w', OwnR R sz e base B w' v' (xs ++ ys) → Below base w w' → w.grownBy w' v.ownBlock → (v'.ownBlock = v.ownBlock ∨ v'.ownBlock = some w.heap.size) → K (a.put o.dst v') w') : o.wp P a w K Q := by
  obtain ⟨v', w', hr, h2, h3, h4, h5⟩ := run_append_R (P := P) w t o.type base B e i z bytes ht hi hz hsize hby hzs hsz v xs hown A c ys hsl hone h63 hbytes hbase hBb hk
  unfold Oper.wp execOp
  simp only [ho, resolve, invoke, builtin, Sem.run_bind, Sem.run_pure, Result.andThen_ok, List.map_toArray, List.map_cons, List.map_nil, hs, hx, hr]
  exact h v' w' h2 h3 h4 h5
theorem step_append_R {α : Type} {R : World → Nat → List Value → α → Prop} {sz : Nat} (w : World) {ops : Array Oper} {o : Oper} {a : Act} {K : Act → World → Prop} {Q : Exit → Act → World → Prop} {E : Prop} (hgd : o.guard = none) (s x : Operand) (t : TypeId)
    (ho : o.op = .call { callee := .builtin .append, args := #[s, x], argTypes := #[t, t] })
    (base B : Nat) (e : TypeId) (i : TypeInfo) (z : Value) (bytes : Nat) (ht : P.underlying t = some (.slice e)) (hi : P.info? e = some i) (hz : i.zero = some z) (hsize : i.size = sz) (hby : i.bytes = bytes) (hzs : z.cells.size = sz) (hsz : 0 < sz)
    (v : Value) (xs : List α) (hs : a.eval s = v) (hown : OwnR R sz e base B w v xs) (A : Option Addr) (c : Nat) (ys : List α) (hx : a.eval x = .slice A ys.length c) (hsl : RowsAt R sz w B A ys)
    (hone : ∀ r y, R w B r y → ∀ u ∈ r, u.oneCell' = true) (h63 : xs.length + ys.length ≤ maxLen) (hbytes : (xs.length + ys.length) * bytes ≤ 140737488355328) (hbase : base ≤ w.heap.size) (hBb : B ≤ base) (hk : KeptR R)
    (h : ∀ v' w', OwnR R sz e base B w' v' (xs ++ ys) → Below base w w' → w.grownBy w' v.ownBlock → (v'.ownBlock = v.ownBlock ∨ v'.ownBlock = some w.heap.size) → K (a.put o.dst v') w') :
    if Region.wanted o (yielded ops a.tmps) = true then Oper.wp P o a w K Q else E := by
  have hw : Region.wanted o (yielded ops a.tmps) = true := by simp [Region.wanted, hgd]
  rw [if_pos hw]
  exact wp_append_R w s x t ho base B e i z bytes ht hi hz hsize hby hzs hsz v xs hs hown A c ys hx hsl hone h63 hbytes hbase hBb hk h
end
end Go.Proofs.YtnbolgdccdnjeaaGreatDoor
/- Owned rows and cells, kept over draws, new blocks, appends and stores elsewhere. -/
namespace Go.Proofs.YtnbolgdccdnjeaaGreatDoor
open Go.RowKit
theorem OwnR.keepB {α : Type} {R : World → Nat → List Value → α → Prop} {sz : Nat} {e : TypeId} {base B : Nat} {w w' : World} {v : Value} {xs : List α} (h : OwnR R sz e base B w v xs) (hk : KeptR R) (hb : Below B w w') (ho : ∀ g, v.ownBlock = some g → w'.heap[g]? = w.heap[g]?) : OwnR R sz e base B w' v xs := by
  obtain ⟨rows, h1, h2, h3⟩ := h
  exact ⟨rows, h1, ownsRow_keep h2 ho, fun i r x hr hx => ⟨(h3 i r x hr hx).1, hk _ _ _ _ _ (h3 i r x hr hx).2 hb⟩⟩
theorem OwnR.alloc {α : Type} {R : World → Nat → List Value → α → Prop} {sz : Nat} {e : TypeId} {base B : Nat} {w : World} {v : Value} {xs : List α} (hk : KeptR R) (hB : B ≤ w.heap.size) (h : OwnR R sz e base B w v xs) (o : Obj) : OwnR R sz e base B (w.alloc o) v xs := h.keep hk ((Below.refl _ _).alloc (Nat.le_refl _) _) hB
theorem OwnR.drew {α : Type} {R : World → Nat → List Value → α → Prop} {sz : Nat} {e : TypeId} {base B : Nat} {w : World} {v : Value} {xs : List α} (hk : KeptR R) (hB : B ≤ w.heap.size) (h : OwnR R sz e base B w v xs) : OwnR R sz e base B w.drew v xs := h.keep hk (Below.refl _ _).drew hB
theorem cellsAt_alloc {w : World} {b o : Nat} {cs : List Value} (hb : b < w.heap.size) (h : CellsAt w b o cs) (ob : Obj) : CellsAt (w.alloc ob) b o cs := h.keep (B := w.heap.size) ((Below.refl _ _).alloc (Nat.le_refl _) _) hb
theorem cellsAt_drew {w : World} {b o : Nat} {cs : List Value} (hb : b < w.heap.size) (h : CellsAt w b o cs) : CellsAt w.drew b o cs := h.keep (B := w.heap.size) (Below.refl _ _).drew hb
theorem OwnR.empty_at {α : Type} {R : World → Nat → List Value → α → Prop} {sz : Nat} {e : TypeId} {base B g : Nat} (w : World) (hg : g = w.heap.size) (hb : base ≤ w.heap.size) : OwnR (α := α) R sz e base B (w.alloc (.cells #[] e)) (.slice (some ⟨g, 0, none⟩) 0 0) [] := by
  subst hg
  exact OwnR.empty w hb
theorem cellsAt_new_at {w : World} {g : Nat} (cs : Array Value) (t : TypeId) (hg : g = w.heap.size) : CellsAt (w.alloc (.cells cs t)) g 0 cs.toList := by
  subst hg
  exact cellsAt_new w cs t
theorem cellsAt_grown {w w' : World} {q : Option Nat} {b o : Nat} {cs : List Value} (hg : w.grownBy w' q) (hb : b < w.heap.size) (hn : q ≠ some b) (h : CellsAt w b o cs) : CellsAt w' b o cs := fun j v hj => by
  have h1 := h j v hj
  rw [← h1]
  unfold World.cell?
  simp only
  rw [hg.block b hb (fun e => hn e.symm)]
theorem far_cell {W w' : World} {q : Option Nat} (hg : W.grownBy w' q) (b : Nat) (hb : b < W.heap.size) (hq : q ≠ some b) : ∀ o, w'.cell? ⟨b, o, none⟩ = W.cell? ⟨b, o, none⟩ := fun o => by
  unfold World.cell?
  simp only
  rw [hg.block b hb (fun e => hq e.symm)]
theorem far_frozen {W w' : World} {q : Option Nat} (hg : W.grownBy w' q) (b : Nat) (hb : b < W.heap.size) (hq : q ≠ some b) : ∀ o, w'.frozen? ⟨b, o, none⟩ = W.frozen? ⟨b, o, none⟩ := fun o => by
  unfold World.frozen?
  simp only
  rw [hg.block b hb (fun e => hq e.symm)]
theorem OwnR.own_lt {α : Type} {R : World → Nat → List Value → α → Prop} {sz : Nat} {e : TypeId} {base B : Nat} {w : World} {v : Value} {xs : List α} (h : OwnR R sz e base B w v xs) {b : Nat} (hb : w.heap.size ≤ b) : v.ownBlock ≠ some b := by
  obtain ⟨rows, h1, h2, h3⟩ := h
  intro e
  have := (h2.lt b e).2
  omega
theorem own_ne {v : Value} {g n b : Nat} (h : v.ownBlock = some g ∨ v.ownBlock = some n) (h1 : b ≠ g) (h2 : b < n) : v.ownBlock ≠ some b := by
  rcases h with h | h
  · rw [h]; intro e; cases e; exact h1 rfl
  · rw [h]; intro e; cases e; omega
theorem cell3 {w : World} {o1 o2 o3 : Obj} {p : Addr} {v : Value} (h : w.cell? p = some v) : (((w.alloc o1).alloc o2).alloc o3).drew.cell? p = some v :=
  have one : ∀ {u : World} {o : Obj}, u.cell? p = some v → (u.alloc o).cell? p = some v := fun h => (World.cell?_alloc_lt _ _ _ (World.block_lt_of_cell? _ p h)).trans h
  one (one (one h))
theorem cell1 {u : World} {o : Obj} {p : Addr} {v : Value} (h : u.cell? p = some v) : (u.alloc o).drew.cell? p = some v := (World.cell?_alloc_lt _ _ _ (World.block_lt_of_cell? _ p h)).trans h
theorem cell1' {u : World} {o : Obj} {p : Addr} {v : Value} (h : u.cell? p = some v) : (u.alloc o).cell? p = some v := (World.cell?_alloc_lt _ _ _ (World.block_lt_of_cell? _ p h)).trans h
theorem cellsAt_newL {w : World} {g : Nat} (cs : List Value) (t : TypeId) (hg : g = w.heap.size) : CellsAt (w.alloc (.cells cs.toArray t)) g 0 cs := by
  subst hg
  exact cellsAt_new w cs.toArray t
/-- What an append leaves alone: the blocks other than its row. -/
theorem far6 {W w' : World} {g : Nat} (hg : W.grownBy w' (some g)) : (∀ b o, b < W.heap.size → b ≠ g → w'.cell? ⟨b, o, none⟩ = W.cell? ⟨b, o, none⟩) ∧ (∀ b o, b < W.heap.size → b ≠ g → w'.frozen? ⟨b, o, none⟩ = W.frozen? ⟨b, o, none⟩) :=
  ⟨fun b o h1 h2 => far_cell hg b h1 (fun e => by cases e; exact h2 rfl) o, fun b o h1 h2 => far_frozen hg b h1 (fun e => by cases e; exact h2 rfl) o⟩
theorem far7 {α : Type} {R : World → Nat → List Value → α → Prop} {sz : Nat} {e : TypeId} {base B : Nat} {w6 : World} {v : Value} {xs : List α} (ho : OwnR R sz e base B w6 v xs) {W w' : World} {g n : Nat} (hat : v.ownBlock = some g ∨ v.ownBlock = some n) (hg : W.grownBy w' v.ownBlock) :
    (∀ b o, b < n → b ≠ g → b < W.heap.size → w'.cell? ⟨b, o, none⟩ = W.cell? ⟨b, o, none⟩) ∧ (∀ b o, b < n → b ≠ g → b < W.heap.size → w'.frozen? ⟨b, o, none⟩ = W.frozen? ⟨b, o, none⟩) ∧
    (∀ b o, w6.heap.size ≤ b → b < W.heap.size → w'.cell? ⟨b, o, none⟩ = W.cell? ⟨b, o, none⟩) ∧ (∀ b o, w6.heap.size ≤ b → b < W.heap.size → w'.frozen? ⟨b, o, none⟩ = W.frozen? ⟨b, o, none⟩) :=
  ⟨fun b o h1 h2 h3 => far_cell hg b h3 (own_ne hat h2 h1) o, fun b o h1 h2 h3 => far_frozen hg b h3 (own_ne hat h2 h1) o, fun b o h1 h3 => far_cell hg b h3 (ho.own_lt h1) o, fun b o h1 h3 => far_frozen hg b h3 (ho.own_lt h1) o⟩
theorem OwnR.form {α : Type} {R : World → Nat → List Value → α → Prop} {sz : Nat} {e : TypeId} {base B : Nat} {w : World} {v : Value} {xs : List α} (h : OwnR R sz e base B w v xs) : ∃ A c, v = .slice A xs.length c := by
  obtain ⟨rows, h1, h2, h3⟩ := h
  rcases h2.2 with ⟨rfl, h0⟩ | ⟨g, cap, cur, rfl, _⟩
  · exact ⟨none, 0, by rw [h0]⟩
  · exact ⟨_, cap, rfl⟩
theorem rsigned_one {w : World} {B : Nat} {r : List Value} {y : Np.Signed} (h : RSigned w B r y) : ∀ u ∈ r, u.oneCell' = true := by
  obtain ⟨s, v, u', _, _, hv, hu, rfl⟩ := h
  obtain ⟨A, c, rfl, _, _⟩ := slr_form hv
  obtain ⟨A', c', rfl, _, _⟩ := slr_form hu
  intro u hu
  simp only [List.mem_cons, List.not_mem_nil, or_false] at hu
  rcases hu with rfl | rfl | rfl | rfl | rfl <;> rfl
end Go.Proofs.YtnbolgdccdnjeaaGreatDoor
/- The plain laws of PrinterNext and PrinterRefuses. -/
namespace Go.Proofs.YtnbolgdccdnjeaaGreatDoor.Np
theorem right_valid {z : Zone} (h : rightZ z = true) : ∀ x ∈ z.sets, validSet x.set = true := by
  unfold rightZ at h
  simp only [Bool.and_eq_true] at h
  exact goodSets_valid h.2
theorem next_plain {z : Zone} {nx : Signed} (h8 : nx.set.type = 8) (hr : rightZ ⟨z.apex, z.sets ++ [nx]⟩ = true) : validSet nx.set = true ∧ print [⟨z.apex, z.sets ++ [nx]⟩] = ([], 12) := by
  refine ⟨right_valid hr nx (by simp), ?_⟩
  have hp : plainZ ⟨z.apex, z.sets ++ [nx]⟩ = false := by
    unfold plainZ
    rw [List.all_append]
    have : plainS nx = false := by unfold plainS; rw [h8]; simp
    simp [this]
  unfold print
  rw [if_neg (by simp [hr]), if_neg (by simp [twice]), if_pos (by simp [hp])]
/-- The order and the names of a zone's sets do not turn with the signatures. -/
theorem goodSets_same (apex : List UInt8) : ∀ (l m : List Signed) (p : Option DSet), l.map (·.set) = m.map (·.set) → goodSets apex p l = goodSets apex p m := by
  intro l
  induction l with
  | nil => intro m p h; cases m with
    | nil => rfl
    | cons => simp at h
  | cons x l ih =>
    intro m p h
    cases m with
    | nil => simp at h
    | cons y m =>
      simp only [List.map_cons, List.cons.injEq] at h
      simp only [goodSets, h.1, ih m _ h.2]
theorem right_same {a : List UInt8} {l m : List Signed} (h : l.map (·.set) = m.map (·.set)) : rightZ ⟨a, l⟩ = rightZ ⟨a, m⟩ := by
  unfold rightZ
  rw [goodSets_same a l m none h]
theorem all_set {α : Type} {p : α → Bool} {l : List α} {i : Nat} {x : α} (h : l.all p = true) (hx : p x = true) : (l.set i x).all p = true := by
  rw [List.all_eq_true] at *
  intro y hy
  rcases List.mem_or_eq_of_mem_set hy with hy | rfl
  · exact h y hy
  · exact hx
theorem all_set_false {α : Type} {p : α → Bool} {l : List α} {i : Nat} {x : α} (hi : i < l.length) (hx : p x = false) : (l.set i x).all p = false := by
  rw [List.all_eq_false]
  exact ⟨x, List.mem_set hi _, by simp [hx]⟩
theorem apex_set {l : List Zone} {i : Nat} {z : Zone} {s : List Signed} (h : l[i]? = some z) : (l.set i ⟨z.apex, s⟩).map (·.apex) = l.map (·.apex) := by
  apply List.ext_getElem?
  intro j
  rw [List.getElem?_map, List.getElem?_map, List.getElem?_set]
  split
  · rename_i e
    subst e
    split
    · rw [h]; rfl
    · rename_i hn
      rw [List.getElem?_eq_none (by omega)]
  · rfl
/-- With a signature. -/
theorem refuse_sig {l : List Zone} {t : List UInt8} (h : print l = (t, 0)) {i k : Nat} {z : Zone} {x : Signed} (hz : l[i]? = some z) (hx : z.sets[k]? = some x) (g : Sig) : print (l.set i ⟨z.apex, z.sets.set k ⟨x.set, [g]⟩⟩) = ([], 12) := by
  obtain ⟨h1, h2, h3, _⟩ := print_ok h
  have hi := (List.getElem?_eq_some_iff.1 hz).1
  have hk := (List.getElem?_eq_some_iff.1 hx).1
  have hrz : rightZ z = true := List.all_eq_true.1 h1 z (List.mem_of_getElem? hz)
  have hm : (z.sets.set k ⟨x.set, [g]⟩).map (·.set) = z.sets.map (·.set) := by
    apply List.ext_getElem?
    intro j
    rw [List.getElem?_map, List.getElem?_map, List.getElem?_set]
    split
    · rename_i e
      subst e
      rw [hx]; rfl
    · rfl
  have hr : rightZ ⟨z.apex, z.sets.set k ⟨x.set, [g]⟩⟩ = true := by rw [right_same hm]; exact hrz
  have hp : plainZ ⟨z.apex, z.sets.set k ⟨x.set, [g]⟩⟩ = false := by
    unfold plainZ
    rw [all_set_false hk (by unfold plainS; rfl), Bool.and_false]
  unfold print
  rw [if_neg (by rw [all_set h1 hr]; simp), if_neg (by rw [apex_set hz, h2]; simp), if_pos (all_set_false hi hp)]
theorem cmpSet_self (a : DSet) : cmpSet a a = 0 := by
  unfold cmpSet cmpI
  simp
theorem goodSets_twice (apex : List UInt8) (x : Signed) (r : List Signed) : ∀ (l : List Signed) (p : Option DSet), goodSets apex p (l ++ x :: x :: r) = false := by
  intro l
  induction l with
  | nil =>
    intro p
    simp only [List.nil_append, goodSets, cmpSet_self]
    simp
  | cons y l ih =>
    intro p
    simp only [List.cons_append, goodSets, ih, Bool.and_false]
theorem print_wrong {l : List Zone} {i : Nat} {y : Zone} (hi : i < l.length) (hy : rightZ y = false) : print (l.set i y) = ([], 1) := by
  unfold print
  rw [if_pos (all_set_false hi hy)]
/-- With a set twice. -/
theorem refuse_twice {l : List Zone} {i k : Nat} {z : Zone} {x : Signed} (hz : l[i]? = some z) (hx : z.sets[k]? = some x) : print (l.set i ⟨z.apex, z.sets.take (k + 1) ++ ([x] ++ z.sets.drop (k + 1))⟩) = ([], 1) := by
  refine print_wrong (List.getElem?_eq_some_iff.1 hz).1 ?_
  unfold rightZ
  rw [List.take_add_one, hx]
  have : z.sets.take k ++ (some x).toList ++ ([x] ++ z.sets.drop (k + 1)) = z.sets.take k ++ x :: x :: z.sets.drop (k + 1) := by simp
  simp only [this, goodSets_twice, Bool.and_false]
theorem twice_mem {a : List (List UInt8)} {x : List UInt8} (h : x ∈ a) : twice (a ++ [x]) = true := by
  induction a with
  | nil => cases h
  | cons y a ih =>
    rw [List.cons_append, twice, Bool.or_eq_true]
    rcases List.mem_cons.1 h with rfl | h
    · left; simp
    · exact .inr (ih h)
/-- With a zone twice. -/
theorem refuse_zone {l : List Zone} {t : List UInt8} (h : print l = (t, 0)) {i : Nat} {z : Zone} (hz : l[i]? = some z) : print (l ++ [z]) = ([], 5) := by
  obtain ⟨h1, h2, h3, _⟩ := print_ok h
  have hm := List.mem_of_getElem? hz
  have hrz : rightZ z = true := List.all_eq_true.1 h1 z hm
  unfold print
  rw [if_neg (by rw [List.all_append, h1]; simp [hrz]), if_pos (by
    rw [List.map_append]
    exact twice_mem (List.mem_map.2 ⟨z, hm, rfl⟩))]
/-- With a set that is not under the apex. -/
theorem refuse_under {l : List Zone} {t : List UInt8} (h : print l = (t, 0)) {i : Nat} {z : Zone} (hz : l[i]? = some z) (hd : z.apex ≠ [46]) (s : Signed) (hs : s.set.name = [46]) (r : List Signed) : print (l.set i ⟨z.apex, [s] ++ r⟩) = ([], 1) := by
  obtain ⟨h1, _⟩ := print_ok h
  have hrz : rightZ z = true := List.all_eq_true.1 h1 z (List.mem_of_getElem? hz)
  refine print_wrong (List.getElem?_eq_some_iff.1 hz).1 ?_
  unfold rightZ at hrz
  simp only [Bool.and_eq_true] at hrz
  have hne : z.apex ≠ [] := by
    intro e
    have := hrz.1.1
    rw [e] at this
    revert this
    decide
  have hu : underL [46] z.apex = false := by
    unfold underL
    have h1 : ([46] == z.apex) = false := by rw [beq_eq_false_iff_ne]; exact fun e => hd e.symm
    have h2 : (z.apex == [46]) = false := by rw [beq_eq_false_iff_ne]; exact hd
    have h3 : decide (z.apex.length < [(46 : UInt8)].length) = false := by
      rw [decide_eq_false_iff_not]
      have : 0 < z.apex.length := List.length_pos_iff.2 hne
      simp; omega
    rw [h1, h2, h3]; rfl
  unfold rightZ
  simp only [List.singleton_append, goodSets, hs, hu, Bool.and_false, Bool.false_and]
end Go.Proofs.YtnbolgdccdnjeaaGreatDoor.Np
/- PrinterNext: the walk. -/
namespace Go.Proofs.YtnbolgdccdnjeaaGreatDoor
open Go.RowKit
theorem Tryz.infoSigned : (Tryz.prog.info? 41).map (fun i => (i.zero, i.size, i.bytes)) = some (some (.agg #[.string ⟨#[]⟩, .int .i64 0, .int .i64 0, .slice none 0 0, .slice none 0 0]), 5, 80) := by kernel_rfl
/-- One zone in a block of its own. -/
theorem zone_one (u : World) (x : List UInt8) (hx : x.length ≤ 140737488355328) (v : Value) (l : List Np.Signed) (h : SlR RSigned 5 u u.heap.size v l) :
    SlR RZone 2 (u.alloc (.cells #[strs x, v] 32)) (u.alloc (.cells #[strs x, v] 32)).heap.size (.slice (some ⟨u.heap.size, 0, none⟩) 1 1) [⟨x, l⟩] :=
  slr_block (xs := [(⟨x, l⟩ : Np.Zone)]) (cellsAt_new u #[strs x, v] 32) (by simp) (by simp) (by simp) (fun i z hz => by
    match i, hz with
    | 0, hz => simp at hz; subst hz; exact ⟨_, rfl, rfl, ⟨x.toArray⟩, _, rfl, hx, h.later rsigned_kept rsigned_more ((Below.refl _ _).alloc (Nat.le_refl _) _), rfl⟩
    | i + 1, hz => simp at hz)
theorem slr_frontS {w : World} {B : Nat} {A : Option Addr} {n c k : Nat} {xs ys : List Np.Signed} (h : SlR RSigned 5 w B (.slice A n c) (xs ++ ys)) (hk : xs.length = k) : SlR RSigned 5 w B (.slice A k c) xs := by
  subst hk
  obtain ⟨A', c', hv, hc, hl, he⟩ := h
  simp only [Value.slice.injEq] at hv
  obtain ⟨rfl, _, rfl⟩ := hv
  rw [List.length_append] at hc hl
  exact ⟨A, c, rfl, by omega, by omega, fun i x hx => he i x (by rw [List.getElem?_append_left (List.getElem?_eq_some_iff.1 hx).1]; exact hx)⟩
def nextOf (apex name : List UInt8) : Np.Signed := ⟨⟨name, 8, 0, [⟨apex, 2, 0⟩]⟩, []⟩
def NextRel (W : World) (a : List UInt8) (l : List Np.Signed) (q : Value) (wx : World) : Prop :=
  ∃ (g : Nat) (sv : Value), q = .pointer (some ⟨g, 0, none⟩) ∧ wx.cell? ⟨g, 0, none⟩ = some (strs a) ∧ wx.cell? ⟨g, 1, none⟩ = some sv ∧ SlR RSigned 5 wx wx.heap.size sv l ∧ Below W.heap.size W wx
theorem own_ne2 {o7 o6 : Option Nat} {N g : Nat} (h : o7 = o6 ∨ o7 = some N) (h6 : o6 ≠ some g) (hN : g < N) : o7 ≠ some g := by
  rcases h with h | h
  · rw [h]; exact h6
  · rw [h]; intro e; cases e; omega
theorem next_sl {w7 wx : World} {B : Nat} {l : List Np.Signed} {x : Np.Signed} {A7 : Option Addr} {p7 : Nat} (hl : l.length ≤ 300) (ho : OwnR RSigned 5 41 B B w7 (.slice A7 ([] ++ l ++ [x]).length p7) ([] ++ l ++ [x])) (hb : Below B w7 wx) (hB : B ≤ w7.heap.size)
    (hk : ∀ g, Value.ownBlock (.slice A7 ([] ++ l ++ [x]).length p7) = some g → wx.heap[g]? = w7.heap[g]?) : SlR RSigned 5 wx wx.heap.size (.slice A7 (l.length + 1) p7) (l ++ [x]) := by
  have h1 := OwnR.slr (ho.keepB rsigned_kept hb hk) rsigned_more (Nat.le_trans hB hb.size) (by simp; omega)
  have e : ([] ++ l ++ [x]).length = l.length + 1 := by simp
  rw [e, List.nil_append] at h1
  exact h1
theorem next_set {W5 w7 : World} {a nm : List UInt8} {l : List Np.Signed} {A7 : Option Addr} {p7 g : Nat} (hl : l.length ≤ 300) (ho : OwnR RSigned 5 41 W5.heap.size W5.heap.size w7 (.slice A7 ([] ++ l ++ [nextOf a nm]).length p7) ([] ++ l ++ [nextOf a nm])) (hb : Below W5.heap.size W5 w7)
    (hne : Value.ownBlock (.slice A7 ([] ++ l ++ [nextOf a nm]).length p7) ≠ some g) (h0 : (w7.cell? ⟨g, 0, none⟩).isSome = true) (h1 : (w7.cell? ⟨g, 1, none⟩).isSome = true) (hg : W5.heap.size ≤ g) :
    Hid (NextRel W5 a (l ++ [nextOf a nm]) (.pointer (some ⟨g, 0, none⟩)) ((w7.setCell ⟨g, 0, none⟩ (.string ⟨a.toArray⟩)).setCell ⟨g, 1, none⟩ (.slice A7 (l.length + 1) p7))) := by
  obtain ⟨u0, h0⟩ := Option.isSome_iff_exists.1 h0
  obtain ⟨u1, h1⟩ := Option.isSome_iff_exists.1 h1
  refine ⟨g, .slice A7 (l.length + 1) p7, rfl, ?_, ?_, ?_, (hb.setCell hg _).setCell hg _⟩
  · rw [World.cell?_setCell_other _ _ _ _ (by simp)]
    simp [World.cell?_setCell_same, h0]
  · have := (World.cell?_setCell_other w7 ⟨g, 0, none⟩ ⟨g, 1, none⟩ (.string ⟨a.toArray⟩) (by simp)).trans h1
    simp [World.cell?_setCell_same, this]
  · refine next_sl hl ho (((Below.refl _ _).setCell hg _).setCell hg _) hb.size (fun k hk => ?_)
    have hkg : k ≠ g := fun e => hne (e ▸ hk)
    rw [Below.heap_setCell _ _ _ _ hkg, Below.heap_setCell _ _ _ _ hkg]
theorem next_new {W5 w7 : World} {a nm : List UInt8} {l : List Np.Signed} {A7 : Option Addr} {p7 : Nat} (hl : l.length ≤ 300) (ho : OwnR RSigned 5 41 W5.heap.size W5.heap.size w7 (.slice A7 ([] ++ l ++ [nextOf a nm]).length p7) ([] ++ l ++ [nextOf a nm])) (hb : Below W5.heap.size W5 w7) :
    Hid (NextRel W5 a (l ++ [nextOf a nm]) (.pointer (some ⟨w7.heap.size, 0, none⟩)) (w7.alloc (.cells #[.string ⟨a.toArray⟩, .slice A7 (l.length + 1) p7] 32))) := by
  refine ⟨w7.heap.size, .slice A7 (l.length + 1) p7, rfl, World.cell?_alloc_new _ _ _ _, World.cell?_alloc_new _ _ _ _, ?_, hb.alloc hb.size _⟩
  obtain ⟨rows, _, h2, _⟩ := id ho
  exact next_sl hl ho ((Below.refl _ _).alloc hb.size _) hb.size (fun k hk => Below.heap_alloc _ _ _ (h2.lt k hk).2)
set_option maxRecDepth 100000 in
set_option maxHeartbeats 4000000 in
theorem next_walk (a : List UInt8) (ha : a.length ≤ 140737488355328) (v : Value) (l : List Np.Signed) (nm : List UInt8) (hnm : nm.length ≤ 140737488355328) (w : World) (hI : PrintIn w) (hd : SlR RSigned 5 w w.heap.size v l) :
    Calls Tryz.prog 5 #[.agg #[strs a, v], strs nm] w fun e w' => e = .returned (.bool true) ∧ Below w.heap.size w w' := by
  have HI := Lib.hid hI
  have HD := Lib.hid hd
  obtain ⟨A, c, rfl, hc1, hl1⟩ := slr_form hd
  obtain ⟨i0, hi, hz⟩ := Option.map_eq_some_iff.1 Tryz.infoSigned
  simp only [Prod.mk.injEq] at hz
  obtain ⟨hz0, hz1, hz2⟩ := hz
  clear hI hd
  have HW : Hid (∀ (u : World) (o : Obj), Below u.heap.size u (u.alloc o)) := Lib.hid (fun u o => (Below.refl _ u).alloc (Nat.le_refl _) _)
  go_enter Tryz.func5, Tryz.ntmps5
  go_wp2_with fail
  have HB0 := Lib.hid (HW.out w (.cells #[strs a, .slice A l.length c] 32))
  refine (head05_any _ (HI.out.keep HB0.out)).mono ?_
  rintro e w1 ⟨rfl, hb1⟩
  have c0 : w1.cell? ⟨w.heap.size, 0, none⟩ = some (strs a) := by rw [hb1.cell (by simp)]; exact World.cell?_alloc_new _ _ _ _
  have c1' : w1.cell? ⟨w.heap.size, 1, none⟩ = some (.slice A l.length c) := by rw [hb1.cell (by simp)]; exact World.cell?_alloc_new _ _ _ _
  have hlt1 : w.heap.size < w1.heap.size := by have := hb1.size; simp at this; omega
  have HB1 := Lib.hid (HB0.out.trans (hb1.mono (by simp)))
  clear hb1
  have HZ1 := Lib.hid (zone_one w1 a ha (.slice A l.length c) l (HD.out.later rsigned_kept rsigned_more HB1.out))
  go_wp2_with fail
  refine (few_any _ [⟨a, l⟩] _ HZ1.out).mono ?_
  rintro e w2 ⟨b1, rfl, rfl, hb1⟩
  cases b1 with
  | false =>
    go_wp2_with fail
    go_ret
    exact ⟨rfl, HB1.out.trans ((HW.out _ _).mono (by omega))⟩
  | true =>
    have hfew := (hb1 rfl).2 ⟨a, l⟩ (by simp)
    have h300 : l.length ≤ 300 := hfew.1
    clear hfew hb1
    by_cases hn100 : nm.length ≤ 100
    · have hni : ¬ (100 : Int) < (nm.length : Int) := by omega
      have hb2 := HW.out w1 (.cells #[strs a, .slice A l.length c] 32)
      have d0 : (w1.alloc (.cells #[strs a, .slice A l.length c] 32)).cell? ⟨w.heap.size, 0, none⟩ = some (strs a) := by rw [hb2.cell (by simpa using hlt1)]; exact c0
      have d1 : (w1.alloc (.cells #[strs a, .slice A l.length c] 32)).cell? ⟨w.heap.size, 1, none⟩ = some (.slice A l.length c) := by rw [hb2.cell (by simpa using hlt1)]; exact c1'
      have hlt2 : w.heap.size < (w1.alloc (.cells #[strs a, .slice A l.length c] 32)).heap.size := by simp; omega
      have HB2 := Lib.hid (HB1.out.trans (hb2.mono (by omega)))
      clear hb2 c0 c1'
      generalize w1.alloc (.cells #[strs a, .slice A l.length c] 32) = w2 at d0 d1 hlt2 HB2 ⊢
      clear HZ1
      have HZ2 := Lib.hid (zone_one w2 a ha (.slice A l.length c) l (HD.out.later rsigned_kept rsigned_more HB2.out))
      obtain ⟨p, n, hp⟩ : ∃ p n, Np.print [⟨a, l⟩] = (p, n) := ⟨_, _, rfl⟩
      have HP := Lib.hid hp
      clear hp
      go_wp2_with fail
      have hr := refPrint_any _ [⟨a, l⟩] _ (by simp) (fun z hz => by simp at hz; subst hz; exact h300) HZ2.out
      rw [HP.out] at hr
      refine hr.mono ?_
      rintro e w3 ⟨rfl, hb3⟩
      have HB3 := Lib.hid (HB2.out.trans (((HW.out _ _).trans (hb3.mono (by simp))).mono (by omega)))
      have e0 : w3.cell? ⟨w.heap.size, 0, none⟩ = some (strs a) := by rw [hb3.cell (by simp; omega)]; exact (World.cell?_alloc_lt _ _ _ (by simpa using hlt2)).trans d0
      have e1 : w3.cell? ⟨w.heap.size, 1, none⟩ = some (.slice A l.length c) := by rw [hb3.cell (by simp; omega)]; exact (World.cell?_alloc_lt _ _ _ (by simpa using hlt2)).trans d1
      have hlt3 : w.heap.size < w3.heap.size := by have := hb3.size; simp at this; omega
      clear hb3 hr d0 d1 HZ2
      go_upto_region 6 with fail
      have f0 : ((w3.alloc (.cells #[strs a, .int .i64 2, .int .i64 0] 43)).alloc (.cells #[strs nm, .int .i64 8, .int .i64 0, .slice (some ⟨w3.heap.size, 0, none⟩) 1 1, .slice none 0 0] 41)).cell? ⟨w.heap.size, 0, none⟩ = some (strs a) := (World.cell?_alloc_lt _ _ _ (by simp; omega)).trans ((World.cell?_alloc_lt _ _ _ (by simpa using hlt3)).trans e0)
      have f1 : ((w3.alloc (.cells #[strs a, .int .i64 2, .int .i64 0] 43)).alloc (.cells #[strs nm, .int .i64 8, .int .i64 0, .slice (some ⟨w3.heap.size, 0, none⟩) 1 1, .slice none 0 0] 41)).cell? ⟨w.heap.size, 1, none⟩ = some (.slice A l.length c) := (World.cell?_alloc_lt _ _ _ (by simp; omega)).trans ((World.cell?_alloc_lt _ _ _ (by simpa using hlt3)).trans e1)
      have gg : ∀ j, ((w3.alloc (.cells #[strs a, .int .i64 2, .int .i64 0] 43)).alloc (.cells #[strs nm, .int .i64 8, .int .i64 0, .slice (some ⟨w3.heap.size, 0, none⟩) 1 1, .slice none 0 0] 41)).cell? ⟨w3.heap.size + 1, j, none⟩ = #[strs nm, .int .i64 8, .int .i64 0, .slice (some ⟨w3.heap.size, 0, none⟩) 1 1, .slice none 0 0][j]? := fun j => by
        have := World.cell?_alloc_new (w3.alloc (.cells #[strs a, .int .i64 2, .int .i64 0] 43)) #[strs nm, .int .i64 8, .int .i64 0, .slice (some ⟨w3.heap.size, 0, none⟩) 1 1, .slice none 0 0] 41 j
        rw [World.size_alloc] at this
        exact this
      have HB5 := Lib.hid (HB3.out.trans (((HW.out w3 (.cells #[strs a, .int .i64 2, .int .i64 0] 43)).trans ((HW.out _ (.cells #[strs nm, .int .i64 8, .int .i64 0, .slice (some ⟨w3.heap.size, 0, none⟩) 1 1, .slice none 0 0] 41)).mono (by simp))).mono (by omega)))
      have hdn : SlR RDatum 3 ((w3.alloc (.cells #[strs a, .int .i64 2, .int .i64 0] 43)).alloc (.cells #[strs nm, .int .i64 8, .int .i64 0, .slice (some ⟨w3.heap.size, 0, none⟩) 1 1, .slice none 0 0] 41)) ((w3.alloc (.cells #[strs a, .int .i64 2, .int .i64 0] 43)).alloc (.cells #[strs nm, .int .i64 8, .int .i64 0, .slice (some ⟨w3.heap.size, 0, none⟩) 1 1, .slice none 0 0] 41)).heap.size (.slice (some ⟨w3.heap.size, 0, none⟩) 1 1) [⟨a, 2, 0⟩] :=
        SlR.later rdatum_kept rdatum_more (slr_block (xs := [(⟨a, 2, 0⟩ : Np.Datum)]) (cellsAt_new w3 #[strs a, .int .i64 2, .int .i64 0] 43) (by simp) (by simp) (by simp) (fun i z hz => by
          match i, hz with
          | 0, hz => simp at hz; subst hz; exact ⟨_, rfl, rfl, ⟨a.toArray⟩, rfl, ha, rfl⟩
          | i + 1, hz => simp at hz)) (HW.out _ _)
      have hsz5 : ((w3.alloc (.cells #[strs a, .int .i64 2, .int .i64 0] 43)).alloc (.cells #[strs nm, .int .i64 8, .int .i64 0, .slice (some ⟨w3.heap.size, 0, none⟩) 1 1, .slice none 0 0] 41)).heap.size = w3.heap.size + 2 := by simp
      generalize (w3.alloc (.cells #[strs a, .int .i64 2, .int .i64 0] 43)).alloc (.cells #[strs nm, .int .i64 8, .int .i64 0, .slice (some ⟨w3.heap.size, 0, none⟩) 1 1, .slice none 0 0] 41) = W5 at f0 f1 gg HB5 hdn hsz5 ⊢
      have g0 : W5.cell? ⟨w3.heap.size + 1, 0, none⟩ = some (strs nm) := gg 0
      have g1 : W5.cell? ⟨w3.heap.size + 1, 1, none⟩ = some (.int .i64 8) := gg 1
      have g2 : W5.cell? ⟨w3.heap.size + 1, 2, none⟩ = some (.int .i64 0) := gg 2
      have g3 : W5.cell? ⟨w3.heap.size + 1, 3, none⟩ = some (.slice (some ⟨w3.heap.size, 0, none⟩) 1 1) := gg 3
      have g4 : W5.cell? ⟨w3.heap.size + 1, 4, none⟩ = some (.slice none 0 0) := gg 4
      have hl5 := Lib.hid (HD.out.keep rsigned_kept HB5.out)
      have hlt5 : w.heap.size < W5.heap.size := by omega
      have hlt8 : w3.heap.size + 1 < W5.heap.size := by omega
      have HSZ5 := Lib.hid hsz5
      have HDN := Lib.hid hdn
      have q50 : W5.heap.size < W5.heap.size + 1 + 1 := by omega
      have q51 : W5.heap.size < W5.heap.size + 1 + 1 + 1 := by omega
      have q52 : W5.heap.size + 1 < W5.heap.size + 1 + 1 + 1 := by omega
      have q53 : ¬ W5.heap.size = W5.heap.size + 1 + 1 := by omega
      have q54 : ¬ W5.heap.size + 1 + 1 = W5.heap.size := by omega
      have q55 : ¬ W5.heap.size = w.heap.size := by omega
      have q56 : ¬ W5.heap.size + 1 = w.heap.size := by omega
      have q57 : ¬ W5.heap.size + 1 + 1 = w.heap.size := by omega
      have q58 : ¬ W5.heap.size = w3.heap.size + 1 := by omega
      have q59 : ¬ W5.heap.size = w3.heap.size := by omega
      have q60 : ¬ W5.heap.size + 1 = w3.heap.size := by omega
      clear gg e0 e1 hdn hsz5
      go_cut [9] (fun q wx => Hid (NextRel W5 a (l ++ [nextOf a nm]) q wx))
      case first =>
        go_region_held3 (fun w' => w'.cell? ⟨w.heap.size, 0, none⟩ = some (strs a) ∧ w'.cell? ⟨w.heap.size, 1, none⟩ = some (.slice A l.length c) ∧ w'.cell? ⟨w3.heap.size + 1, 0, none⟩ = some (strs nm) ∧ w'.cell? ⟨w3.heap.size + 1, 1, none⟩ = some (.int .i64 8) ∧ w'.cell? ⟨w3.heap.size + 1, 2, none⟩ = some (.int .i64 0) ∧ w'.cell? ⟨w3.heap.size + 1, 3, none⟩ = some (.slice (some ⟨w3.heap.size, 0, none⟩) 1 1) ∧ w'.cell? ⟨w3.heap.size + 1, 4, none⟩ = some (.slice none 0 0))
          (first | (go_keep; done) | (refine ⟨?_, ?_, ?_, ?_, ?_, ?_, ?_⟩ <;> (first | (refine cell3 ?_; assumption) | (refine cell1 ?_; assumption) | (refine cell1' ?_; assumption))))
          (first
            | ((refine step_append_R _ (by rfl) _ _ 30 (by rfl) W5.heap.size W5.heap.size 41 i0 (.agg #[.string ⟨#[]⟩, .int .i64 0, .int .i64 0, .slice none 0 0, .slice none 0 0]) 80 Tryz.underlying30 hi hz0 hz1 hz2 (by rfl) (by decide) _ ([] : List Np.Signed) (by rfl) (by repeat (first | exact OwnR.empty_at _ (by first | (simp; done) | (simp; omega)) (by first | (simp; done) | (simp; omega)) | (with_reducible refine OwnR.drew rsigned_kept (by first | (simp; done) | (simp; omega)) ?_) | (with_reducible refine OwnR.alloc rsigned_kept (by first | (simp; done) | (simp; omega)) ?_ _))) A c l (by rfl) (rowsAt_slr (hl5.out.keep rsigned_kept (by repeat (first | with_reducible exact Below.refl _ _ | with_reducible apply Below.drew | (with_reducible refine Below.alloc ?_ (by first | (simp; done) | (simp; omega) | omega) _)))) (by decide) (by omega) rsigned_more) (fun _ _ h => rsigned_one h) (by simp [maxLen]; omega) (by simp; omega) (by first | (simp; done) | (simp; omega)) (Nat.le_refl _) rsigned_kept ?_; intro v6 w6 ho6 hb6 hg6 hat6; replace hg6 : World.grownBy _ w6 (some _) := hg6; replace hat6 : Value.ownBlock v6 = some _ ∨ Value.ownBlock v6 = some _ := hat6; have hb65 := Below.trans (show Below W5.heap.size W5 _ from (by repeat (first | with_reducible exact Below.refl _ _ | with_reducible apply Below.drew | (with_reducible refine Below.alloc ?_ (by first | (simp; done) | (simp; omega)) _)))) hb6; obtain ⟨c6, f6⟩ := bcell hb65; have hw6 : W5.heap.size ≤ w6.heap.size := hb65.size; have hs6 := hg6.size; (try simp only [World.size_alloc, World.size_drew] at hs6); have hs61 := Nat.lt_of_succ_le hs6; (try have hs62 := Nat.lt_of_succ_lt hs61); (try have hs63 := Nat.lt_of_succ_lt hs62); obtain ⟨a6, b6⟩ := far6 hg6; have q61 : w6.heap.size < w6.heap.size + 1 + 1 := (by omega); have q62 : ¬ w6.heap.size = w.heap.size := (by omega); have q63 : ¬ w6.heap.size + 1 = w.heap.size := (by omega); have q64 : ¬ w6.heap.size = w3.heap.size + 1 := (by omega); have q65 : ¬ w6.heap.size = w3.heap.size := (by omega); have q66 : ¬ w6.heap.size + 1 + 1 = w.heap.size := (by omega); have q67 : ¬ w6.heap.size + 1 = w3.heap.size := (by omega)))
            | ((refine step_append_R _ (by rfl) _ _ 30 (by rfl) W5.heap.size W5.heap.size 41 i0 (.agg #[.string ⟨#[]⟩, .int .i64 0, .int .i64 0, .slice none 0 0, .slice none 0 0]) 80 Tryz.underlying30 hi hz0 hz1 hz2 (by rfl) (by decide) v6 ([] ++ l : List Np.Signed) (by rfl) (by repeat (first | with_reducible exact ho6 | (with_reducible refine OwnR.drew rsigned_kept (by first | (simp; done) | (simp; omega) | omega) ?_) | (with_reducible refine OwnR.alloc rsigned_kept (by first | (simp; done) | (simp; omega) | omega) ?_ _))) _ _ [nextOf a nm] (by rfl) (rowsAt_one (r := [strs nm, .int .i64 8, .int .i64 0, .slice (some ⟨w3.heap.size, 0, none⟩) 1 1, .slice none 0 0]) rfl ⟨⟨nm.toArray⟩, _, _, rfl, hnm, HDN.out.keep rdatum_kept (by repeat (first | with_reducible exact hb65 | with_reducible apply Below.drew | (with_reducible refine Below.alloc ?_ (by first | (simp; done) | (simp; omega) | omega) _))), slr_none _ _, rfl⟩ (by repeat (first | (with_reducible refine cellsAt_newL _ _ (by first | (simp; done) | (simp; omega))) | (with_reducible refine cellsAt_drew (by first | (simp; done) | (simp; omega) | omega) ?_) | (with_reducible refine cellsAt_alloc (by first | (simp; done) | (simp; omega) | omega) ?_ _) | (with_reducible refine cellsAt_grown hg6 (by first | (simp; done) | (simp; omega)) (by first | (simp; done) | (simp; omega)) ?_)))) (fun _ _ h => rsigned_one h) (by simp [maxLen]; omega) (by simp; omega) (by first | (simp; done) | (simp; omega) | omega) (Nat.le_refl _) rsigned_kept ?_; intro v7 w7 ho7 hb7 hg7 hat7; have hb75 := Below.trans (show Below W5.heap.size W5 _ from (by repeat (first | with_reducible exact hb65 | with_reducible apply Below.drew | (with_reducible refine Below.alloc ?_ (by first | (simp; done) | (simp; omega) | omega) _)))) hb7; obtain ⟨c7, f7⟩ := bcell hb75; obtain ⟨a7, b7, a7', b7'⟩ := far7 ho6 hat6 hg7; have hw7 : W5.heap.size ≤ w7.heap.size := hb75.size; have q71 : ¬ w7.heap.size = w.heap.size := (by omega); have q72 : ¬ w7.heap.size = w3.heap.size + 1 := (by omega); obtain ⟨A7, p7, rfl⟩ := ho7.form)))
        all_goals go_wp2_with fail
        all_goals go_meet
        all_goals first
          | exact next_new h300 ho7 hb75
          | (refine next_set h300 ho7 hb75 ?_ (by simp [*, go_sem]) (by simp [*, go_sem]) (by omega); exact own_ne2 hat7 (own_ne hat6 (by first | (simp; done) | (simp; omega)) (by first | (simp; done) | (simp; omega))) (by first | (simp; done) | (simp; omega) | omega))
          | (refine next_set h300 ho7 hb75 ?_ (by simp [*, go_sem]) (by simp [*, go_sem]) (by omega); exact own_ne2 hat7 (ho6.own_lt (by first | (simp; done) | (simp; omega))) (by first | (simp; done) | (simp; omega) | omega))
      case rest =>
        obtain ⟨g, sv, rfl, z0, z1, hsv, hbx⟩ := hcut.out
        have HSV := Lib.hid hsv
        have HBX := Lib.hid hbx
        obtain ⟨A9, c9, rfl, hc9, hl9⟩ := slr_form hsv
        have hln : (l ++ [nextOf a nm]).length = l.length + 1 := by simp
        rw [hln] at z1 hc9 HSV
        have HBW := Lib.hid (HB5.out.trans (HBX.out.mono (Nat.le_of_lt hlt5)))
        have x0 := (hbx.cell (p := ⟨w.heap.size, 0, none⟩) hlt5).trans f0
        have x1 := (hbx.cell (p := ⟨w.heap.size, 1, none⟩) hlt5).trans f1
        have y0 := (hbx.cell (p := ⟨w3.heap.size + 1, 0, none⟩) hlt8).trans g0
        have y1 := (hbx.cell (p := ⟨w3.heap.size + 1, 1, none⟩) hlt8).trans g1
        have y2 := (hbx.cell (p := ⟨w3.heap.size + 1, 2, none⟩) hlt8).trans g2
        have y3 := (hbx.cell (p := ⟨w3.heap.size + 1, 3, none⟩) hlt8).trans g3
        have HDX := Lib.hid (HDN.out.later rdatum_kept rdatum_more HBX.out)
        have hsx := hbx.size
        have kx1 : w.heap.size < wc.heap.size := by omega
        have kx2 : w3.heap.size + 1 < wc.heap.size := by omega
        have hgx : g < wc.heap.size := World.block_lt_of_cell? wc ⟨g, 0, none⟩ z0
        clear hbx hsv hcut f0 f1 g0 g1 g2 g3 g4 q50 q51 q52 q53 q54 q55 q56 q57 q58 q59 q60 hln
        by_cases hn0 : n = 0
        · subst hn0
          have HPR := Lib.hid (fun h => Np.next_plain (z := ⟨a, l⟩) (nx := nextOf a nm) rfl h)
          go_wp2_with fail
          have hr9 := refRight_any ⟨a.toArray⟩ ha (.slice A9 (l.length + 1) c9) (l ++ [nextOf a nm]) wc HSV.out
          obtain ⟨rz, hrz⟩ : ∃ rz, Np.rightZ ⟨a, l ++ [nextOf a nm]⟩ = rz := ⟨_, rfl⟩
          have HRZ := Lib.hid hrz
          clear hrz
          rw [show (⟨a.toArray⟩ : ByteArray).data.toList = a from rfl, HRZ.out] at hr9
          refine hr9.mono ?_
          rintro e wd ⟨rfl, hbd⟩
          have HBD := Lib.hid hbd
          replace x0 := (hbd.cell (p := ⟨w.heap.size, 0, none⟩) kx1).trans x0
          replace x1 := (hbd.cell (p := ⟨w.heap.size, 1, none⟩) kx1).trans x1
          replace y0 := (hbd.cell (p := ⟨w3.heap.size + 1, 0, none⟩) kx2).trans y0
          replace y1 := (hbd.cell (p := ⟨w3.heap.size + 1, 1, none⟩) kx2).trans y1
          replace y2 := (hbd.cell (p := ⟨w3.heap.size + 1, 2, none⟩) kx2).trans y2
          replace y3 := (hbd.cell (p := ⟨w3.heap.size + 1, 3, none⟩) kx2).trans y3
          replace z0 := (hbd.cell (p := ⟨g, 0, none⟩) hgx).trans z0
          replace z1 := (hbd.cell (p := ⟨g, 1, none⟩) hgx).trans z1
          have hsd := hbd.size
          clear hbd hr9
          cases rz with
          | false =>
            go_wp2_with fail
            go_ret
            exact ⟨rfl, HBW.out.trans (HBD.out.mono HBW.out.size)⟩
          | true =>
            obtain ⟨hv8, hp12⟩ := HPR.out HRZ.out
            have HV8 := Lib.hid hv8
            have HP12 := Lib.hid hp12
            have HBWD := Lib.hid (HBW.out.trans (HBD.out.mono HBW.out.size))
            have HZ9 := Lib.hid (zone_one wd a ha (.slice A9 (l.length + 1) c9) (l ++ [nextOf a nm]) (HSV.out.later rsigned_kept rsigned_more HBD.out))
            have HAL := Lib.hid (HW.out wd (.cells #[strs a, .slice A9 (l.length + 1) c9] 32))
            clear hv8 hp12 HPR
            go_wp2_with fail
            refine (print_at _ _ _ ((HI.out.keep HBWD.out).keep HAL.out) HZ9.out HP12.out).mono ?_
            rintro e we ⟨rfl, hbe⟩
            have HBE := Lib.hid (HAL.out.trans (hbe.mono (by simp)))
            have hbe' := HBE.out
            replace x0 := (hbe'.cell (p := ⟨w.heap.size, 0, none⟩) (Nat.lt_of_lt_of_le kx1 hsd)).trans x0
            replace x1 := (hbe'.cell (p := ⟨w.heap.size, 1, none⟩) (Nat.lt_of_lt_of_le kx1 hsd)).trans x1
            replace y0 := (hbe'.cell (p := ⟨w3.heap.size + 1, 0, none⟩) (Nat.lt_of_lt_of_le kx2 hsd)).trans y0
            replace y1 := (hbe'.cell (p := ⟨w3.heap.size + 1, 1, none⟩) (Nat.lt_of_lt_of_le kx2 hsd)).trans y1
            replace y2 := (hbe'.cell (p := ⟨w3.heap.size + 1, 2, none⟩) (Nat.lt_of_lt_of_le kx2 hsd)).trans y2
            replace y3 := (hbe'.cell (p := ⟨w3.heap.size + 1, 3, none⟩) (Nat.lt_of_lt_of_le kx2 hsd)).trans y3
            replace z0 := (hbe'.cell (p := ⟨g, 0, none⟩) (Nat.lt_of_lt_of_le hgx hsd)).trans z0
            replace z1 := (hbe'.cell (p := ⟨g, 1, none⟩) (Nat.lt_of_lt_of_le hgx hsd)).trans z1
            have hse := hbe'.size
            clear hbe hbe'
            have hi0 : (0 : Int) ≤ (l.length : Int) := by omega
            have hi1 : (l.length : Int) ≤ (c9 : Int) := by omega
            go_wp2_with fail
            have HBWE := Lib.hid (HBWD.out.trans (HBE.out.mono HBWD.out.size))
            have HAM := Lib.hid (HW.out we (.cells #[strs a, .slice A9 l.length c9] 32))
            have HZA := Lib.hid ((zone_one we a ha (.slice A9 l.length c9) l (slr_frontS ((HSV.out.later rsigned_kept rsigned_more HBD.out).later rsigned_kept rsigned_more HBE.out) rfl)).later rzone_kept rzone_more (Below.refl _ _).drew)
            have kk1 : w.heap.size < we.heap.size := by omega
            have kk2 : g < we.heap.size := by omega
            go_region_held3 (fun w' => w'.cell? ⟨w.heap.size, 0, none⟩ = some (strs a) ∧ w'.cell? ⟨w.heap.size, 1, none⟩ = some (.slice A l.length c) ∧ w'.cell? ⟨g, 1, none⟩ = some (.slice A9 (l.length + 1) c9)) (go_keep)
              (first | (go_at_call 16; refine (print_at _ _ _ ((HI.out.keep HBWE.out).keep HAM.out.drew) HZA.out HP.out).mono ?_; rintro e wf ⟨rfl, hbf⟩; have HBF := Lib.hid (HAM.out.drew.trans (hbf.mono (by simp))); obtain ⟨cf, ff⟩ := bcell HBF.out; clear hbf))
            have hbf' := HBF.out
            replace y0 := (hbf'.cell (p := ⟨w3.heap.size + 1, 0, none⟩) (Nat.lt_of_lt_of_le (Nat.lt_of_lt_of_le kx2 hsd) hse)).trans y0
            replace y1 := (hbf'.cell (p := ⟨w3.heap.size + 1, 1, none⟩) (Nat.lt_of_lt_of_le (Nat.lt_of_lt_of_le kx2 hsd) hse)).trans y1
            replace y2 := (hbf'.cell (p := ⟨w3.heap.size + 1, 2, none⟩) (Nat.lt_of_lt_of_le (Nat.lt_of_lt_of_le kx2 hsd) hse)).trans y2
            replace y3 := (hbf'.cell (p := ⟨w3.heap.size + 1, 3, none⟩) (Nat.lt_of_lt_of_le (Nat.lt_of_lt_of_le kx2 hsd) hse)).trans y3
            have HBWF := Lib.hid (HBWE.out.trans (HBF.out.mono HBWE.out.size))
            have HDF := Lib.hid (((HDX.out.later rdatum_kept rdatum_more HBD.out).later rdatum_kept rdatum_more HBE.out).later rdatum_kept rdatum_more HBF.out)
            clear hbf' x0 x1 z0 z1 cf ff
            have hpp : (p == p) = true := by simp
            go_wp2_with fail
            have hv9 := refSetValid_any ⟨nm.toArray⟩ hnm 8 0 (.slice (some ⟨w3.heap.size, 0, none⟩) 1 1) [⟨a, 2, 0⟩] wf HDF.out
            have hvv : Np.validSet ⟨(⟨nm.toArray⟩ : ByteArray).data.toList, 8, 0, [⟨a, 2, 0⟩]⟩ = true := HV8.out
            rw [hvv] at hv9
            refine hv9.mono ?_
            rintro e wg ⟨rfl, hbg⟩
            have HBG := Lib.hid hbg
            clear hbg hv9 hvv y0 y1 y2 y3
            go_wp2_with fail
            go_ret
            exact ⟨rfl, HBWF.out.trans (HBG.out.mono HBWF.out.size)⟩
        · have hn1 : (n == 0) = false := by simpa using hn0
          have hn2 : (n != 0) = true := by simpa using hn0
          have HN0 := Lib.hid hn0
          clear hn0
          go_wp2_with fail
          go_ret
          exact ⟨rfl, HBW.out⟩
    · have hni : (100 : Int) < (nm.length : Int) := by omega
      go_wp2_with fail
      go_ret
      exact ⟨rfl, HB1.out.trans ((HW.out _ _).mono (by omega))⟩
end Go.Proofs.YtnbolgdccdnjeaaGreatDoor
