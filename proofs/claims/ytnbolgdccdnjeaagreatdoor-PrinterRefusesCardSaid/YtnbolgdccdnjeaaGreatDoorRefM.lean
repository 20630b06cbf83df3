/- Joined by program from: AppSl, AppSl2, AppSl3, Parts, Refuse, Sans, RefP, RefQ, RefW0, RefW2, RefW3. -/
import Derived.Test.YtnbolgdccdnjeaaGreatDoorOwn
import Derived.Laws.AppendOwnNone
import Derived.Deep.AppendLies
import Derived.Test.YtnbolgdccdnjeaaGreatDoorHead05
import Derived.Test.YtnbolgdccdnjeaaGreatDoorShelf5
import Derived.Test.YtnbolgdccdnjeaaGreatDoorPrintBd
import Derived.Test.YtnbolgdccdnjeaaGreatDoorShape
import Derived.Test.YtnbolgdccdnjeaaGreatDoorRfB
import Derived.Deep.RegionHeld3
import Derived.IntWalk
import Derived.Deep.DeepMust
import Derived.Deep.RegionLaw
/- A slice that is appended to a row of the call's own, element by element. No condition. -/
namespace Go.Proofs.YtnbolgdccdnjeaaGreatDoor
open Go.RowKit
/-- The row v of the call's own reads as xs; what its elements lead to lies below B. -/
def OwnR {α : Type} (R : World → Nat → List Value → α → Prop) (sz : Nat) (e : TypeId) (base B : Nat) (w : World) (v : Value) (xs : List α) : Prop :=
  ∃ rows : List (List Value), rows.length = xs.length ∧ w.ownsRow base e sz v xs.length rows.flatten ∧ ∀ (i : Nat) (r : List Value) (x : α), rows[i]? = some r → xs[i]? = some x → r.length = sz ∧ R w B r x
theorem flatten_at {sz : Nat} : ∀ (rows : List (List Value)) (i j : Nat) (r : List Value) (u : Value), (∀ q ∈ rows, q.length = sz) → rows[i]? = some r → r[j]? = some u → rows.flatten[i * sz + j]? = some u := by
  intro rows
  induction rows with
  | nil => intro i j r u _ h; simp at h
  | cons q rows ih =>
    intro i j r u hq h hj
    have hl : q.length = sz := hq q (by simp)
    rw [List.flatten_cons]
    cases i with
    | zero =>
      simp at h; subst h
      rw [List.getElem?_append_left (by have := (List.getElem?_eq_some_iff.1 hj).1; omega)]
      simpa using hj
    | succ i =>
      rw [List.getElem?_append_right (by rw [hl, Nat.succ_mul]; omega), hl, show (i + 1) * sz + j - sz = i * sz + j by rw [Nat.succ_mul]; omega]
      exact ih i j r u (fun q hq' => hq q (by simp [hq'])) (by simpa using h) hj
theorem flatten_len {sz : Nat} : ∀ (rows : List (List Value)), (∀ q ∈ rows, q.length = sz) → rows.flatten.length = rows.length * sz := by
  intro rows
  induction rows with
  | nil => intro _; simp
  | cons q rs ih =>
    intro h
    rw [List.flatten_cons, List.length_append, ih (fun x hx => h x (by simp [hx])), h q (by simp), List.length_cons, Nat.succ_mul]; omega
theorem OwnR.rows_len {α : Type} {R : World → Nat → List Value → α → Prop} {sz B : Nat} {w : World} {xs : List α} {rows : List (List Value)} (hl : rows.length = xs.length) (h : ∀ (i : Nat) (r : List Value) (x : α), rows[i]? = some r → xs[i]? = some x → r.length = sz ∧ R w B r x) : ∀ q ∈ rows, q.length = sz := fun q hq => by
  obtain ⟨i, hi, rfl⟩ := List.mem_iff_getElem.1 hq
  exact (h i _ _ (List.getElem?_eq_getElem hi) (List.getElem?_eq_getElem (by omega))).1
theorem OwnR.slr {α : Type} {R : World → Nat → List Value → α → Prop} {sz : Nat} {e : TypeId} {base B : Nat} {w : World} {v : Value} {xs : List α} (h : OwnR R sz e base B w v xs) (hm : MoreR R) (hB : B ≤ w.heap.size) (hl : xs.length ≤ 140737488355328) : SlR R sz w w.heap.size v xs := by
  obtain ⟨rows, h1, h2, h3⟩ := h
  rcases h2.2 with ⟨rfl, h0⟩ | ⟨g, cap, cur, rfl, hb, hg, hnc, _⟩
  · have : xs = [] := List.eq_nil_of_length_eq_zero h0
    subst this
    exact ⟨none, 0, rfl, by simp, by simp, fun i x hx => by simp at hx⟩
  · refine ⟨_, cap, rfl, hnc, hl, fun i x hx => ?_⟩
    have hi := (List.getElem?_eq_some_iff.1 hx).1
    have hr := List.getElem?_eq_getElem (show i < rows.length by omega)
    obtain ⟨h4, h5⟩ := h3 i _ x hr hx
    refine ⟨g, 0, rows[i], rfl, (Array.getElem?_eq_some_iff.1 hg).1, h4, fun j u hj => ?_, hm _ _ _ _ _ h5 hB⟩
    have h6 := h2.cells (g := g) rfl _ _ (flatten_at rows i j _ u (OwnR.rows_len h1 h3) hr hj)
    have hadd : (⟨g, 0, none⟩ : Addr).add (i * sz + j) = ⟨g, 0 + i * sz + j, none⟩ := by unfold Addr.add; split <;> simp_all
    rw [hadd] at h6
    exact h6
theorem OwnR.keep {α : Type} {R : World → Nat → List Value → α → Prop} {sz : Nat} {e : TypeId} {base B : Nat} {w w' : World} {v : Value} {xs : List α} (h : OwnR R sz e base B w v xs) (hk : KeptR R) (hb : Below w.heap.size w w') (hB : B ≤ w.heap.size) : OwnR R sz e base B w' v xs := by
  obtain ⟨rows, h1, h2, h3⟩ := h
  refine ⟨rows, h1, ownsRow_keep h2 (fun g hg => hb.block g (h2.lt g hg).2), fun i r x hr hx => ?_⟩
  obtain ⟨h4, h5⟩ := h3 i r x hr hx
  exact ⟨h4, hk _ _ _ _ _ h5 (hb.mono hB)⟩
theorem OwnR.empty {α : Type} {R : World → Nat → List Value → α → Prop} {sz : Nat} {e : TypeId} {base B : Nat} (w : World) (hb : base ≤ w.heap.size) : OwnR (α := α) R sz e base B (w.alloc (.cells #[] e)) (.slice (some ⟨w.heap.size, 0, none⟩) 0 0) [] :=
  ⟨[], rfl, ⟨by simp, .inr ⟨w.heap.size, 0, #[], rfl, hb, heap_alloc_new _ _, Nat.le_refl _, by simp [maxLen], by simp, by simp⟩⟩, fun i r x hr => by simp at hr⟩
theorem OwnR.nil {α : Type} {R : World → Nat → List Value → α → Prop} {sz : Nat} {e : TypeId} {base B : Nat} (w : World) : OwnR (α := α) R sz e base B w (.slice none 0 0) [] := ⟨[], rfl, ⟨by simp, .inl ⟨rfl, rfl⟩⟩, fun i r x hr => by simp at hr⟩
/-- The cells of a slice, row by row. -/
theorem slr_rows {α : Type} {R : World → Nat → List Value → α → Prop} {sz : Nat} {w : World} {B : Nat} {A : Option Addr} {n c : Nat} {ys : List α} (h : SlR R sz w B (.slice A n c) ys) (hsz : 0 < sz) :
    ∃ rows : List (List Value), rows.length = ys.length ∧ (∀ (i : Nat) (r : List Value) (x : α), rows[i]? = some r → ys[i]? = some x → r.length = sz ∧ R w B r x) ∧ (ys ≠ [] → ∃ b o, A = some ⟨b, o, none⟩ ∧ b < B ∧ ∀ j u, rows.flatten[j]? = some u → w.cell? ((⟨b, o, none⟩ : Addr).add j) = some u) := by
  obtain ⟨A', c', hv, hc, hl, he⟩ := h
  cases hv
  have hall : ∀ k, k ≤ ys.length → ∃ rows : List (List Value), rows.length = k ∧ (∀ (i : Nat) (r : List Value) (x : α), rows[i]? = some r → ys[i]? = some x → r.length = sz ∧ R w B r x ∧ ∃ b o, A = some ⟨b, o, none⟩ ∧ b < B ∧ CellsAt w b (o + i * sz) r) := by
    intro k
    induction k with
    | zero => exact fun _ => ⟨[], rfl, fun i r x hr => by simp at hr⟩
    | succ k ih =>
      intro hk
      obtain ⟨rows, h1, h2⟩ := ih (by omega)
      obtain ⟨b, o, e, hA, hb, hel, hce, hr⟩ := he k _ (List.getElem?_eq_getElem (by omega : k < ys.length))
      refine ⟨rows ++ [e], by simp [h1], fun i r x hr' hx => ?_⟩
      rcases Nat.lt_or_ge i rows.length with hlt | hge
      · rw [List.getElem?_append_left hlt] at hr'; exact h2 i r x hr' hx
      · rw [List.getElem?_append_right hge] at hr'
        have h0 : i - rows.length = 0 := by have := (List.getElem?_eq_some_iff.1 hr').1; simp at this; omega
        rw [h0] at hr'
        simp at hr'
        subst hr'
        obtain rfl : i = k := by omega
        rw [List.getElem?_eq_getElem (by omega)] at hx
        simp only [Option.some.injEq] at hx
        subst hx
        exact ⟨hel, hr, b, o, hA, hb, hce⟩
  obtain ⟨rows, h1, h2⟩ := hall ys.length (Nat.le_refl _)
  refine ⟨rows, h1, fun i r x hr hx => ⟨(h2 i r x hr hx).1, (h2 i r x hr hx).2.1⟩, fun hne => ?_⟩
  have h0 : 0 < ys.length := Nat.pos_of_ne_zero (fun e => hne (List.eq_nil_of_length_eq_zero e))
  obtain ⟨_, _, b, o, hA, hb, _⟩ := h2 0 _ _ (List.getElem?_eq_getElem (by omega)) (List.getElem?_eq_getElem h0)
  refine ⟨b, o, hA, hb, fun j u hj => ?_⟩
  have hlen : ∀ q ∈ rows, q.length = sz := fun q hq => by
    obtain ⟨i, hi, rfl⟩ := List.mem_iff_getElem.1 hq
    exact (h2 i _ _ (List.getElem?_eq_getElem hi) (List.getElem?_eq_getElem (by omega))).1
  have hfl := flatten_len rows hlen
  have hjl := (List.getElem?_eq_some_iff.1 hj).1
  have hi : j / sz < rows.length := by rw [hfl] at hjl; exact Nat.div_lt_of_lt_mul (by rw [Nat.mul_comm]; exact hjl)
  obtain ⟨h5, _, b', o', hA', _, hce⟩ := h2 (j / sz) _ _ (List.getElem?_eq_getElem hi) (List.getElem?_eq_getElem (by omega))
  rw [hA] at hA'
  simp only [Option.some.injEq, Addr.mk.injEq, and_true] at hA'
  obtain ⟨rfl, rfl⟩ := hA'
  have hmod : j % sz < rows[j / sz].length := by rw [h5]; exact Nat.mod_lt _ hsz
  have h7 := flatten_at rows (j / sz) (j % sz) _ _ hlen (List.getElem?_eq_getElem hi) (List.getElem?_eq_getElem hmod)
  rw [Nat.div_add_mod' j sz, hj] at h7
  simp only [Option.some.injEq] at h7
  have h8 := hce (j % sz) _ (List.getElem?_eq_getElem hmod)
  rw [← h7] at h8
  have hadd : (⟨b, o, none⟩ : Addr).add j = ⟨b, o + j, none⟩ := by unfold Addr.add; split <;> simp_all
  rw [hadd, ← h8]
  congr 2
  have := Nat.div_add_mod' j sz
  omega
section
variable {P : Program}
theorem run_append_none_any {w : World} (base : Nat) (t ty e : TypeId) (i : TypeInfo) (size : Nat) (ht : P.underlying t = some (.slice e)) (hi : P.info? e = some i) (v : Value) (n c : Nat) (xs : List Value) (hown : w.ownsRow base e size v n xs) :
    (Builtin.append_ #[t, t] ty #[v, .slice none 0 c]).run P w = .ok v w := by
  rcases hown.2 with ⟨rfl, rfl⟩ | ⟨g, cap, cur, rfl, _, _, hnc, _⟩
  · simp [Builtin.append_, run_underlying ht, sizeOf, typeInfo, hi, Builtin.lenOf, Builtin.firstCells]
  · simp [Builtin.append_, run_underlying ht, sizeOf, typeInfo, hi, Builtin.lenOf, Builtin.firstCells, hnc, storeCells]
/-- A slice is appended to a row of the call's own. -/
theorem wpList_append_R {α : Type} {R : World → Nat → List Value → α → Prop} {sz : Nat} (w : World) {ops : Array Oper} {rest : List Oper} {o : Oper} {a : Act} {Q : Exit → Act → World → Prop} (hgd : o.guard = none) (s x : Operand) (t : TypeId)
    (ho : o.op = .call { callee := .builtin .append, args := #[s, x], argTypes := #[t, t] })
    (base B : Nat) (e : TypeId) (i : TypeInfo) (z : Value) (bytes : Nat) (ht : P.underlying t = some (.slice e)) (hi : P.info? e = some i) (hz : i.zero = some z) (hsize : i.size = sz) (hby : i.bytes = bytes) (hzs : z.cells.size = sz) (hsz : 0 < sz)
    (v : Value) (xs : List α) (hs : a.eval s = v) (hown : OwnR R sz e base B w v xs) (A : Option Addr) (c Bs : Nat) (ys : List α) (hx : a.eval x = .slice A ys.length c) (hsl : SlR R sz w Bs (.slice A ys.length c) ys)
    (hone : ∀ r y, R w Bs r y → ∀ u ∈ r, u.oneCell' = true) (h63 : xs.length + ys.length ≤ maxLen) (hbytes : (xs.length + ys.length) * bytes ≤ 140737488355328) (hbase : base ≤ w.heap.size) (hBs : Bs ≤ B) (hBb : B ≤ base) (hk : KeptR R) (hm : MoreR R)
    (h : ∀ v' w', OwnR R sz e base B w' v' (xs ++ ys) → Below base w w' → w.grownBy w' v.ownBlock → wpList P ops Q rest (a.put o.dst v') w') : wpList P ops Q (o :: rest) a w := by
  have hkeep : ∀ (w' : World) (v' : Value) (rows rows' : List (List Value)), Below base w w' → rows.length = xs.length → (∀ (i : Nat) (r : List Value) (x : α), rows[i]? = some r → xs[i]? = some x → r.length = sz ∧ R w B r x) → rows'.length = ys.length →
      (∀ (i : Nat) (r : List Value) (x : α), rows'[i]? = some r → ys[i]? = some x → r.length = sz ∧ R w Bs r x) → w'.ownsRow base e sz v' (xs.length + ys.length) (rows.flatten ++ rows'.flatten) → OwnR R sz e base B w' v' (xs ++ ys) := by
    intro w' v' rows rows' hb h1 h2 h3 h4 h5
    refine ⟨rows ++ rows', by simp [h1, h3], ?_, fun j r y hr hy => ?_⟩
    · rw [List.length_append, List.flatten_append]; exact h5
    · rcases Nat.lt_or_ge j rows.length with hlt | hge
      · rw [List.getElem?_append_left hlt] at hr
        rw [List.getElem?_append_left (by omega)] at hy
        obtain ⟨h6, h7⟩ := h2 j r y hr hy
        exact ⟨h6, hk _ _ _ _ _ h7 (hb.mono hBb)⟩
      · rw [List.getElem?_append_right hge] at hr
        rw [List.getElem?_append_right (by omega), ← h1] at hy
        obtain ⟨h6, h7⟩ := h4 _ r y hr hy
        exact ⟨h6, hk _ _ _ _ _ (hm _ _ _ _ _ h7 hBs) (hb.mono hBb)⟩
  obtain ⟨rows, h1, h2, h3⟩ := hown
  obtain ⟨rows', h4, h5, h6⟩ := slr_rows hsl hsz
  by_cases hy : ys = []
  · subst hy
    have hr0 : rows' = [] := List.eq_nil_of_length_eq_zero (by simpa using h4)
    subst hr0
    cases A with
    | none =>
      have hrun := run_append_none_any (P := P) base t o.type e i sz ht hi v xs.length c rows.flatten h2
      refine wpList_plain hgd fun K hK => ?_
      unfold Oper.wp
      have hx' : a.eval x = .slice none 0 c := hx
      simp [execOp, ho, resolve, invoke, builtin, hs, hx', hrun, Result.andThen]
      refine hK _ _ (h v w (hkeep w v rows [] (Below.refl _ _) h1 h3 rfl (fun j r y hr => by simp at hr) (by simpa using h2)) (Below.refl _ _) ⟨rfl, rfl, rfl, Nat.le_refl _, fun _ _ _ => rfl⟩)
    | some ad =>
      refine wpList_append_own_at w hgd s x t ho base e i z sz bytes ht hi hz hsize hby hzs hsz v xs.length rows.flatten hs h2 ad 0 c [] hx (by simp) (fun j u hj => by simp at hj) (fun u hu => by cases hu) (by simpa using h63) (by simpa using hbytes) hbase ?_
      intro v' w' ho' hg _ _
      have hb : Below base w w' := (Below.refl _ _).grown hg hbase (fun k hk => (h2.lt k hk).1)
      exact h v' w' (hkeep w' v' rows [] hb h1 h3 rfl (fun j r y hr => by simp at hr) (by simpa using ho')) hb hg
  · obtain ⟨b, o', rfl, hbB, hcell⟩ := h6 hy
    have hl := OwnR.rows_len h4 h5
    refine wpList_append_own_at w hgd s x t ho base e i z sz bytes ht hi hz hsize hby hzs hsz v xs.length rows.flatten hs h2 ⟨b, o', none⟩ ys.length c rows'.flatten hx (by rw [flatten_len rows' hl, h4]) hcell (fun u hu => ?_) h63 hbytes hbase ?_
    · obtain ⟨r, hr, hur⟩ := List.mem_flatten.1 hu
      obtain ⟨j, hj, rfl⟩ := List.mem_iff_getElem.1 hr
      exact hone _ _ (h5 j _ _ (List.getElem?_eq_getElem hj) (List.getElem?_eq_getElem (by omega))).2 u hur
    · intro v' w' ho' hg _ _
      have hb : Below base w w' := (Below.refl _ _).grown hg hbase (fun k hk => (h2.lt k hk).1)
      exact h v' w' (hkeep w' v' rows rows' hb h1 h3 h4 h5 ho') hb hg
end
end Go.Proofs.YtnbolgdccdnjeaaGreatDoor
/- The law on append of XAppSl at a step of a region that draws its order. -/
namespace Go.Proofs.YtnbolgdccdnjeaaGreatDoor
open Go.RowKit
/-- The cells of a slice read as ys now; what they lead to lies below B (the slice itself may lie anywhere). -/
def RowsAt {α : Type} (R : World → Nat → List Value → α → Prop) (sz : Nat) (w : World) (B : Nat) (A : Option Addr) (ys : List α) : Prop :=
  ∃ rows : List (List Value), rows.length = ys.length ∧ (∀ (i : Nat) (r : List Value) (x : α), rows[i]? = some r → ys[i]? = some x → r.length = sz ∧ R w B r x) ∧ (ys ≠ [] → ∃ b o, A = some ⟨b, o, none⟩ ∧ ∀ j u, rows.flatten[j]? = some u → w.cell? ((⟨b, o, none⟩ : Addr).add j) = some u)
theorem rowsAt_slr {α : Type} {R : World → Nat → List Value → α → Prop} {sz : Nat} {w : World} {Bs B : Nat} {A : Option Addr} {n c : Nat} {ys : List α} (h : SlR R sz w Bs (.slice A n c) ys) (hsz : 0 < sz) (hB : Bs ≤ B) (hm : MoreR R) : RowsAt R sz w B A ys := by
  obtain ⟨rows, h1, h2, h3⟩ := slr_rows h hsz
  exact ⟨rows, h1, fun i r x hr hx => ⟨(h2 i r x hr hx).1, hm _ _ _ _ _ (h2 i r x hr hx).2 hB⟩, fun hy => by obtain ⟨b, o, h4, _, h5⟩ := h3 hy; exact ⟨b, o, h4, h5⟩⟩
theorem rowsAt_one {α : Type} {R : World → Nat → List Value → α → Prop} {sz : Nat} {w : World} {B b o : Nat} {r : List Value} {x : α} (hl : r.length = sz) (hr : R w B r x) (hc : CellsAt w b o r) : RowsAt R sz w B (some ⟨b, o, none⟩) [x] := by
  refine ⟨[r], rfl, fun i r' x' h1 h2 => ?_, fun _ => ⟨b, o, rfl, fun j u hj => ?_⟩⟩
  · cases i with
    | zero => simp at h1 h2; subst h1; subst h2; exact ⟨hl, hr⟩
    | succ i => simp at h1
  · have hadd : (⟨b, o, none⟩ : Addr).add j = ⟨b, o + j, none⟩ := by unfold Addr.add; split <;> simp_all
    rw [hadd]
    exact hc j u (by simpa using hj)
section
variable {P : Program}
theorem run_append_R {α : Type} {R : World → Nat → List Value → α → Prop} {sz : Nat} (w : World) (t ty : TypeId)
    (base B : Nat) (e : TypeId) (i : TypeInfo) (z : Value) (bytes : Nat) (ht : P.underlying t = some (.slice e)) (hi : P.info? e = some i) (hz : i.zero = some z) (hsize : i.size = sz) (hby : i.bytes = bytes) (hzs : z.cells.size = sz) (hsz : 0 < sz)
    (v : Value) (xs : List α) (hown : OwnR R sz e base B w v xs) (A : Option Addr) (c : Nat) (ys : List α) (hsl : RowsAt R sz w B A ys)
    (hone : ∀ r y, R w B r y → ∀ u ∈ r, u.oneCell' = true) (h63 : xs.length + ys.length ≤ maxLen) (hbytes : (xs.length + ys.length) * bytes ≤ 140737488355328) (hbase : base ≤ w.heap.size) (hBb : B ≤ base) (hk : KeptR R) :
    ∃ v' w', (Builtin.append_ #[t, t] ty #[v, .slice A ys.length c]).run P w = .ok v' w' ∧ OwnR R sz e base B w' v' (xs ++ ys) ∧ Below base w w' ∧ w.grownBy w' v.ownBlock ∧ (v'.ownBlock = v.ownBlock ∨ v'.ownBlock = some w.heap.size) := by
  have hkeep : ∀ (w' : World) (v' : Value) (rows rows' : List (List Value)), Below base w w' → rows.length = xs.length → (∀ (i : Nat) (r : List Value) (x : α), rows[i]? = some r → xs[i]? = some x → r.length = sz ∧ R w B r x) → rows'.length = ys.length →
      (∀ (i : Nat) (r : List Value) (x : α), rows'[i]? = some r → ys[i]? = some x → r.length = sz ∧ R w B r x) → w'.ownsRow base e sz v' (xs.length + ys.length) (rows.flatten ++ rows'.flatten) → OwnR R sz e base B w' v' (xs ++ ys) := by
    intro w' v' rows rows' hb h1 h2 h3 h4 h5
    refine ⟨rows ++ rows', by simp [h1, h3], ?_, fun j r y hr hy => ?_⟩
    · rw [List.length_append, List.flatten_append]; exact h5
    · rcases Nat.lt_or_ge j rows.length with hlt | hge
      · rw [List.getElem?_append_left hlt] at hr
        rw [List.getElem?_append_left (by omega)] at hy
        obtain ⟨h6, h7⟩ := h2 j r y hr hy
        exact ⟨h6, hk _ _ _ _ _ h7 (hb.mono hBb)⟩
      · rw [List.getElem?_append_right hge] at hr
        rw [List.getElem?_append_right (by omega), ← h1] at hy
        obtain ⟨h6, h7⟩ := h4 _ r y hr hy
        exact ⟨h6, hk _ _ _ _ _ h7 (hb.mono hBb)⟩
  obtain ⟨rows, h1, h2, h3⟩ := hown
  obtain ⟨rows', h4, h5, h6⟩ := hsl
  by_cases hy : ys = []
  · subst hy
    have hr0 : rows' = [] := List.eq_nil_of_length_eq_zero (by simpa using h4)
    subst hr0
    cases A with
    | none =>
      have hrun := run_append_none_any (P := P) base t ty e i sz ht hi v xs.length c rows.flatten h2
      exact ⟨v, w, hrun, hkeep w v rows [] (Below.refl _ _) h1 h3 rfl (fun j r y hr => by simp at hr) (by simpa using h2), Below.refl _ _, ⟨rfl, rfl, rfl, Nat.le_refl _, fun _ _ _ => rfl⟩, .inl rfl⟩
    | some ad =>
      obtain ⟨v', w', hr, ho', hg, _, hat⟩ := run_append_own_at (P := P) w base t ty e i z sz bytes ht hi hz hsize hby hzs hsz v xs.length rows.flatten h2 ad 0 c [] (by simp) (fun j u hj => by simp at hj) (fun u hu => by cases hu) (by simpa using h63) (by simpa using hbytes) hbase
      have hb : Below base w w' := (Below.refl _ _).grown hg hbase (fun k hk => (h2.lt k hk).1)
      exact ⟨v', w', hr, hkeep w' v' rows [] hb h1 h3 rfl (fun j r y hr => by simp at hr) (by simpa using ho'), hb, hg, hat⟩
  · obtain ⟨b, o', rfl, hcell⟩ := h6 hy
    have hl := OwnR.rows_len h4 h5
    obtain ⟨v', w', hr, ho', hg, _, hat⟩ := run_append_own_at (P := P) w base t ty e i z sz bytes ht hi hz hsize hby hzs hsz v xs.length rows.flatten h2 ⟨b, o', none⟩ ys.length c rows'.flatten (by rw [flatten_len rows' hl, h4]) hcell (fun u hu => by
      obtain ⟨r, hr, hur⟩ := List.mem_flatten.1 hu
      obtain ⟨j, hj, rfl⟩ := List.mem_iff_getElem.1 hr
      exact hone _ _ (h5 j _ _ (List.getElem?_eq_getElem hj) (List.getElem?_eq_getElem (by omega))).2 u hur) h63 hbytes hbase
    have hb : Below base w w' := (Below.refl _ _).grown hg hbase (fun k hk => (h2.lt k hk).1)
    exact ⟨v', w', hr, hkeep w' v' rows rows' hb h1 h3 h4 h5 ho', hb, hg, hat⟩
theorem wp_append_R {α : Type} {R : World → Nat → List Value → α → Prop} {sz : Nat} (w : World) {o : Oper} {a : Act} {K : Act → World → Prop} {Q : Exit → Act → World → Prop} (s x : Operand) (t : TypeId)
    (ho : o.op = .call { callee := .builtin .append, args := #[s, x], argTypes := #[t, t] })
    (base B : Nat) (e : TypeId) (i : TypeInfo) (z : Value) (bytes : Nat) (ht : P.underlying t = some (.slice e)) (hi : P.info? e = some i) (hz : i.zero = some z) (hsize : i.size = sz) (hby : i.bytes = bytes) (hzs : z.cells.size = sz) (hsz : 0 < sz)
    (v : Value) (xs : List α) (hs : a.eval s = v) (hown : OwnR R sz e base B w v xs) (A : Option Addr) (c : Nat) (ys : List α) (hx : a.eval x = .slice A ys.length c) (hsl : RowsAt R sz w B A ys)
    (hone : ∀ r y, R w B r y → ∀ u ∈ r, u.oneCell' = true) (h63 : xs.length + ys.length ≤ maxLen) (hbytes : (xs.length + ys.length) * bytes ≤ 140737488355328) (hbase : base ≤ w.heap.size) (hBb : B ≤ base) (hk : KeptR R)
    (h : ∀ v' w', OwnR R sz e base B w' v' (xs ++ ys) → Below base w w' → w.grownBy w' v.ownBlock → (v'.ownBlock = v.ownBlock ∨ v'.ownBlock = some w.heap.size) → K (a.put o.dst v') w') : o.wp P a w K Q := by
  obtain ⟨v', w', hr, h2, h3, h4, h5⟩ := run_append_R (P := P) w t o.type base B e i z bytes ht hi hz hsize hby hzs hsz v xs hown A c ys hsl hone h63 hbytes hbase hBb hk
  unfold Oper.wp execOp
  simp only [ho, resolve, invoke, builtin, Sem.run_bind, Sem.run_pure, Result.andThen_ok, List.map_toArray, List.map_cons, List.map_nil, hs, hx, hr]
  exact h v' w' h2 h3 h4 h5
theorem step_append_R {α : Type} {R : World → Nat → List Value → α → Prop} {sz : Nat} (w : World) {ops : Array Oper} {o : Oper} {a : Act} {K : Act → World → Prop} {Q : Exit → Act → World → Prop} {E : Prop} (hgd : o.guard = none) (s x : Operand) (t : TypeId)
    (ho : o.op = .call { callee := .builtin .append, args := #[s, x], argTypes := #[t, t] })
    (base B : Nat) (e : TypeId) (i : TypeInfo) (z : Value) (bytes : Nat) (ht : P.underlying t = some (.slice e)) (hi : P.info? e = some i) (hz : i.zero = some z) (hsize : i.size = sz) (hby : i.bytes = bytes) (hzs : z.cells.size = sz) (hsz : 0 < sz)
    (v : Value) (xs : List α) (hs : a.eval s = v) (hown : OwnR R sz e base B w v xs) (A : Option Addr) (c : Nat) (ys : List α) (hx : a.eval x = .slice A ys.length c) (hsl : RowsAt R sz w B A ys)
    (hone : ∀ r y, R w B r y → ∀ u ∈ r, u.oneCell' = true) (h63 : xs.length + ys.length ≤ maxLen) (hbytes : (xs.length + ys.length) * bytes ≤ 140737488355328) (hbase : base ≤ w.heap.size) (hBb : B ≤ base) (hk : KeptR R)
    (h : ∀ v' w', OwnR R sz e base B w' v' (xs ++ ys) → Below base w w' → w.grownBy w' v.ownBlock → (v'.ownBlock = v.ownBlock ∨ v'.ownBlock = some w.heap.size) → K (a.put o.dst v') w') :
    if Region.wanted o (yielded ops a.tmps) = true then Oper.wp P o a w K Q else E := by
  have hw : Region.wanted o (yielded ops a.tmps) = true := by simp [Region.wanted, hgd]
  rw [if_pos hw]
  exact wp_append_R w s x t ho base B e i z bytes ht hi hz hsize hby hzs hsz v xs hs hown A c ys hx hsl hone h63 hbytes hbase hBb hk h
end
end Go.Proofs.YtnbolgdccdnjeaaGreatDoor
/- Owned rows and cells, kept over draws, new blocks, appends and stores elsewhere. -/
namespace Go.Proofs.YtnbolgdccdnjeaaGreatDoor
open Go.RowKit
theorem OwnR.keepB {α : Type} {R : World → Nat → List Value → α → Prop} {sz : Nat} {e : TypeId} {base B : Nat} {w w' : World} {v : Value} {xs : List α} (h : OwnR R sz e base B w v xs) (hk : KeptR R) (hb : Below B w w') (ho : ∀ g, v.ownBlock = some g → w'.heap[g]? = w.heap[g]?) : OwnR R sz e base B w' v xs := by
  obtain ⟨rows, h1, h2, h3⟩ := h
  exact ⟨rows, h1, ownsRow_keep h2 ho, fun i r x hr hx => ⟨(h3 i r x hr hx).1, hk _ _ _ _ _ (h3 i r x hr hx).2 hb⟩⟩
theorem OwnR.alloc {α : Type} {R : World → Nat → List Value → α → Prop} {sz : Nat} {e : TypeId} {base B : Nat} {w : World} {v : Value} {xs : List α} (hk : KeptR R) (hB : B ≤ w.heap.size) (h : OwnR R sz e base B w v xs) (o : Obj) : OwnR R sz e base B (w.alloc o) v xs := h.keep hk ((Below.refl _ _).alloc (Nat.le_refl _) _) hB
theorem OwnR.drew {α : Type} {R : World → Nat → List Value → α → Prop} {sz : Nat} {e : TypeId} {base B : Nat} {w : World} {v : Value} {xs : List α} (hk : KeptR R) (hB : B ≤ w.heap.size) (h : OwnR R sz e base B w v xs) : OwnR R sz e base B w.drew v xs := h.keep hk (Below.refl _ _).drew hB
theorem cellsAt_alloc {w : World} {b o : Nat} {cs : List Value} (hb : b < w.heap.size) (h : CellsAt w b o cs) (ob : Obj) : CellsAt (w.alloc ob) b o cs := h.keep (B := w.heap.size) ((Below.refl _ _).alloc (Nat.le_refl _) _) hb
theorem cellsAt_drew {w : World} {b o : Nat} {cs : List Value} (hb : b < w.heap.size) (h : CellsAt w b o cs) : CellsAt w.drew b o cs := h.keep (B := w.heap.size) (Below.refl _ _).drew hb
theorem OwnR.empty_at {α : Type} {R : World → Nat → List Value → α → Prop} {sz : Nat} {e : TypeId} {base B g : Nat} (w : World) (hg : g = w.heap.size) (hb : base ≤ w.heap.size) : OwnR (α := α) R sz e base B (w.alloc (.cells #[] e)) (.slice (some ⟨g, 0, none⟩) 0 0) [] := by
  subst hg
  exact OwnR.empty w hb
theorem cellsAt_new_at {w : World} {g : Nat} (cs : Array Value) (t : TypeId) (hg : g = w.heap.size) : CellsAt (w.alloc (.cells cs t)) g 0 cs.toList := by
  subst hg
  exact cellsAt_new w cs t
theorem cellsAt_grown {w w' : World} {q : Option Nat} {b o : Nat} {cs : List Value} (hg : w.grownBy w' q) (hb : b < w.heap.size) (hn : q ≠ some b) (h : CellsAt w b o cs) : CellsAt w' b o cs := fun j v hj => by
  have h1 := h j v hj
  rw [← h1]
  unfold World.cell?
  simp only
  rw [hg.block b hb (fun e => hn e.symm)]
theorem far_cell {W w' : World} {q : Option Nat} (hg : W.grownBy w' q) (b : Nat) (hb : b < W.heap.size) (hq : q ≠ some b) : ∀ o, w'.cell? ⟨b, o, none⟩ = W.cell? ⟨b, o, none⟩ := fun o => by
  unfold World.cell?
  simp only
  rw [hg.block b hb (fun e => hq e.symm)]
theorem far_frozen {W w' : World} {q : Option Nat} (hg : W.grownBy w' q) (b : Nat) (hb : b < W.heap.size) (hq : q ≠ some b) : ∀ o, w'.frozen? ⟨b, o, none⟩ = W.frozen? ⟨b, o, none⟩ := fun o => by
  unfold World.frozen?
  simp only
  rw [hg.block b hb (fun e => hq e.symm)]
theorem OwnR.own_lt {α : Type} {R : World → Nat → List Value → α → Prop} {sz : Nat} {e : TypeId} {base B : Nat} {w : World} {v : Value} {xs : List α} (h : OwnR R sz e base B w v xs) {b : Nat} (hb : w.heap.size ≤ b) : v.ownBlock ≠ some b := by
  obtain ⟨rows, h1, h2, h3⟩ := h
  intro e
  have := (h2.lt b e).2
  omega
theorem own_ne {v : Value} {g n b : Nat} (h : v.ownBlock = some g ∨ v.ownBlock = some n) (h1 : b ≠ g) (h2 : b < n) : v.ownBlock ≠ some b := by
  rcases h with h | h
  · rw [h]; intro e; cases e; exact h1 rfl
  · rw [h]; intro e; cases e; omega
theorem cell3 {w : World} {o1 o2 o3 : Obj} {p : Addr} {v : Value} (h : w.cell? p = some v) : (((w.alloc o1).alloc o2).alloc o3).drew.cell? p = some v :=
  have one : ∀ {u : World} {o : Obj}, u.cell? p = some v → (u.alloc o).cell? p = some v := fun h => (World.cell?_alloc_lt _ _ _ (World.block_lt_of_cell? _ p h)).trans h
  one (one (one h))
theorem cell1 {u : World} {o : Obj} {p : Addr} {v : Value} (h : u.cell? p = some v) : (u.alloc o).drew.cell? p = some v := (World.cell?_alloc_lt _ _ _ (World.block_lt_of_cell? _ p h)).trans h
theorem cell1' {u : World} {o : Obj} {p : Addr} {v : Value} (h : u.cell? p = some v) : (u.alloc o).cell? p = some v := (World.cell?_alloc_lt _ _ _ (World.block_lt_of_cell? _ p h)).trans h
theorem cellsAt_newL {w : World} {g : Nat} (cs : List Value) (t : TypeId) (hg : g = w.heap.size) : CellsAt (w.alloc (.cells cs.toArray t)) g 0 cs := by
  subst hg
  exact cellsAt_new w cs.toArray t
/-- What an append leaves alone: the blocks other than its row. -/
theorem far6 {W w' : World} {g : Nat} (hg : W.grownBy w' (some g)) : (∀ b o, b < W.heap.size → b ≠ g → w'.cell? ⟨b, o, none⟩ = W.cell? ⟨b, o, none⟩) ∧ (∀ b o, b < W.heap.size → b ≠ g → w'.frozen? ⟨b, o, none⟩ = W.frozen? ⟨b, o, none⟩) :=
  ⟨fun b o h1 h2 => far_cell hg b h1 (fun e => by cases e; exact h2 rfl) o, fun b o h1 h2 => far_frozen hg b h1 (fun e => by cases e; exact h2 rfl) o⟩
theorem far7 {α : Type} {R : World → Nat → List Value → α → Prop} {sz : Nat} {e : TypeId} {base B : Nat} {w6 : World} {v : Value} {xs : List α} (ho : OwnR R sz e base B w6 v xs) {W w' : World} {g n : Nat} (hat : v.ownBlock = some g ∨ v.ownBlock = some n) (hg : W.grownBy w' v.ownBlock) :
    (∀ b o, b < n → b ≠ g → b < W.heap.size → w'.cell? ⟨b, o, none⟩ = W.cell? ⟨b, o, none⟩) ∧ (∀ b o, b < n → b ≠ g → b < W.heap.size → w'.frozen? ⟨b, o, none⟩ = W.frozen? ⟨b, o, none⟩) ∧
    (∀ b o, w6.heap.size ≤ b → b < W.heap.size → w'.cell? ⟨b, o, none⟩ = W.cell? ⟨b, o, none⟩) ∧ (∀ b o, w6.heap.size ≤ b → b < W.heap.size → w'.frozen? ⟨b, o, none⟩ = W.frozen? ⟨b, o, none⟩) :=
  ⟨fun b o h1 h2 h3 => far_cell hg b h3 (own_ne hat h2 h1) o, fun b o h1 h2 h3 => far_frozen hg b h3 (own_ne hat h2 h1) o, fun b o h1 h3 => far_cell hg b h3 (ho.own_lt h1) o, fun b o h1 h3 => far_frozen hg b h3 (ho.own_lt h1) o⟩
theorem OwnR.form {α : Type} {R : World → Nat → List Value → α → Prop} {sz : Nat} {e : TypeId} {base B : Nat} {w : World} {v : Value} {xs : List α} (h : OwnR R sz e base B w v xs) : ∃ A c, v = .slice A xs.length c := by
  obtain ⟨rows, h1, h2, h3⟩ := h
  rcases h2.2 with ⟨rfl, h0⟩ | ⟨g, cap, cur, rfl, _⟩
  · exact ⟨none, 0, by rw [h0]⟩
  · exact ⟨_, cap, rfl⟩
theorem rsigned_one {w : World} {B : Nat} {r : List Value} {y : Np.Signed} (h : RSigned w B r y) : ∀ u ∈ r, u.oneCell' = true := by
  obtain ⟨s, v, u', _, _, hv, hu, rfl⟩ := h
  obtain ⟨A, c, rfl, _, _⟩ := slr_form hv
  obtain ⟨A', c', rfl, _, _⟩ := slr_form hu
  intro u hu
  simp only [List.mem_cons, List.not_mem_nil, or_false] at hu
  rcases hu with rfl | rfl | rfl | rfl | rfl <;> rfl
end Go.Proofs.YtnbolgdccdnjeaaGreatDoor
/- PrinterParts: the walk. -/
namespace Go.Proofs.YtnbolgdccdnjeaaGreatDoor
open Go.RowKit
theorem Tryz.infoZone : (Tryz.prog.info? 32).map (fun i => (i.zero, i.size, i.bytes)) = some (some (.agg #[.string ⟨#[]⟩, .slice none 0 0]), 2, 40) := by kernel_rfl
theorem rzone_one {w : World} {B : Nat} {r : List Value} {y : Np.Zone} (h : RZone w B r y) : ∀ u ∈ r, u.oneCell' = true := by
  obtain ⟨s, v, _, _, hv, rfl⟩ := h
  obtain ⟨A, c, rfl, _, _⟩ := slr_form hv
  intro u hu
  simp only [List.mem_cons, List.not_mem_nil, or_false] at hu
  rcases hu with rfl | rfl <;> rfl
theorem suffix_end (u : List UInt8) : Np.suffix ⟨(u ++ [125, 10]).toArray⟩ ⟨#[125, 10]⟩ = true := by
  have h : (⟨(u ++ [125, 10]).toArray⟩ : ByteArray).size = u.length + 2 := by show (u ++ [125, 10]).toArray.size = _; simp
  unfold Np.suffix
  rw [h, ByteArray.toList_eq, ByteArray.toList_eq, show (⟨#[125, 10]⟩ : ByteArray).size = 2 from rfl]
  rw [ByteArray.data_extract]
  simp
def PartsRel (w : World) (zs : List Np.Zone) (n i : Value) (wr : World) : Prop :=
  ∃ k : Nat, k ≤ zs.length ∧ i = .int .i64 k ∧ n = .int .i64 (Np.linesOf (zs.take k)) ∧ Np.linesOf (zs.take k) ≤ k * 302 ∧ Hid (Below w.heap.size w wr)
set_option maxRecDepth 100000 in
set_option maxHeartbeats 2000000 in
theorem parts_walk (v1 v2 : Value) (z1 z2 : List Np.Zone) (w : World) (hI : PrintIn w) (h1 : SlR RZone 2 w w.heap.size v1 z1) (h2 : SlR RZone 2 w w.heap.size v2 z2) :
    Calls Tryz.prog 6 #[v1, v2] w fun e w' => e = .returned (.bool true) ∧ Below w.heap.size w w' := by
  have HI := Lib.hid hI
  have HZ1 := Lib.hid h1
  have HZ2 := Lib.hid h2
  obtain ⟨A1, c1, rfl, hc1, hl1⟩ := slr_form h1
  obtain ⟨A2, c2, rfl, hc2, hl2⟩ := slr_form h2
  obtain ⟨i0, hi, hz⟩ := Option.map_eq_some_iff.1 Tryz.infoZone
  simp only [Prod.mk.injEq] at hz
  obtain ⟨hz0, hz1, hz2⟩ := hz
  clear hI h1 h2
  go_enter Tryz.func6, Tryz.ntmps6
  go_wp2_with fail
  refine (head05_any _ HI.out).mono ?_
  rintro e wa ⟨rfl, hba⟩
  have HBA := Lib.hid hba
  have hsa := hba.size
  have HA1 := Lib.hid (HZ1.out.later rzone_kept rzone_more hba)
  have HA2 := Lib.hid (HZ2.out.later rzone_kept rzone_more hba)
  clear hba
  go_wp2_with fail
  refine (few_any _ z1 _ HA1.out).mono ?_
  rintro e wa' ⟨b1, rfl, rfl, hb1⟩
  cases b1 with
  | false =>
    go_wp2_with fail
    go_ret
    exact ⟨rfl, HBA.out⟩
  | true =>
    have hf1 := hb1 rfl
    have HF1 := Lib.hid hf1
    have hn1 := hf1.1
    clear hb1 hf1
    go_wp2_with fail
    refine (few_any _ z2 _ HA2.out).mono ?_
    rintro e wa' ⟨b2, rfl, rfl, hb2⟩
    cases b2 with
    | false =>
      go_wp2_with fail
      go_ret
      exact ⟨rfl, HBA.out⟩
    | true =>
      have hf2 := hb2 rfl
      have HF2 := Lib.hid hf2
      have hn2 := hf2.1
      clear hb2 hf2
      have hal : Below wa.heap.size wa (wa.alloc (.cells #[] 32)) := (Below.refl _ _).alloc (Nat.le_refl _) _
      have HAL := Lib.hid hal
      clear hal
      go_wp2_with (first
        | (at_builtin; refine wpList_append_R _ rfl _ _ 22 rfl wa.heap.size wa.heap.size 32 i0 (.agg #[.string ⟨#[]⟩, .slice none 0 0]) 40 Tryz.underlying22 hi hz0 hz1 hz2 rfl (by decide) _ [] rfl (OwnR.empty (R := RZone) (sz := 2) wa (Nat.le_refl _)) A1 c1 wa.heap.size z1 rfl (HA1.out.keep rzone_kept HAL.out) (fun _ _ h => rzone_one h) (by simp [maxLen]; omega) (by simp; omega) (by simp) (Nat.le_refl _) (Nat.le_refl _) rzone_kept rzone_more ?_; intro v3 w3 ho3 hb3 hg3; have H3 := Lib.hid (And.intro ho3 (And.intro (HAL.out.trans hb3) (show wa.heap.size ≤ w3.heap.size from (HAL.out.trans hb3).size))); clear ho3 hb3 hg3)
        | (at_builtin; refine wpList_append_R _ rfl _ _ 22 rfl wa.heap.size wa.heap.size 32 i0 (.agg #[.string ⟨#[]⟩, .slice none 0 0]) 40 Tryz.underlying22 hi hz0 hz1 hz2 rfl (by decide) _ _ rfl H3.out.1 A2 c2 wa.heap.size z2 rfl (HA2.out.keep rzone_kept H3.out.2.1) (fun _ _ h => rzone_one h) (by simp [maxLen]; omega) (by simp; omega) H3.out.2.2 (Nat.le_refl _) (Nat.le_refl _) rzone_kept rzone_more ?_; intro v4 w4 ho4 hb4 hg4; have H4 := Lib.hid (And.intro ho4 (H3.out.2.1.trans hb4)); clear ho4 hb4 hg4))
      have h41 := OwnR.slr H4.out.1 rzone_more H4.out.2.size (by simp; omega)
      have HS := Lib.hid h41
      have HBB := Lib.hid (HBA.out.trans (H4.out.2.mono hsa))
      obtain ⟨A4, c4, rfl, hc4, hl4⟩ := slr_form h41
      clear h41
      have hnz : (([] ++ z1 : List Np.Zone) ++ z2) = z1 ++ z2 := by simp
      rw [hnz] at hc4 hl4
      have HSB : Hid (SlR RZone 2 w4 w4.heap.size (.slice A4 (z1 ++ z2).length c4) (z1 ++ z2)) := Lib.hid (by have := HS.out; rw [hnz] at this; exact this)
      have HFZ : Hid (∀ z ∈ z1 ++ z2, z.sets.length ≤ 300) := Lib.hid (fun z hz => by
        rcases List.mem_append.1 hz with h | h
        · exact (HF1.out.2 z h).1
        · exact (HF2.out.2 z h).1)
      rw [hnz]
      have hzl : (z1 ++ z2).length ≤ 20 := by simp; omega
      have HAPP : Hid (∀ t, Np.print (z1 ++ z2) = (t, 0) → Np.print z1 = (z1.flatMap Np.zoneText, 0) ∧ Np.print z2 = (z2.flatMap Np.zoneText, 0) ∧ t = z1.flatMap Np.zoneText ++ z2.flatMap Np.zoneText) := Lib.hid (fun t h => Np.print_app h)
      clear hnz HS
      generalize hzs : z1 ++ z2 = zs at *
      clear hzs
      obtain ⟨p1, n1, hp1⟩ : ∃ p n, Np.print z1 = (p, n) := ⟨_, _, rfl⟩
      obtain ⟨p2, n2, hp2⟩ : ∃ p n, Np.print z2 = (p, n) := ⟨_, _, rfl⟩
      obtain ⟨p0, n0, hp0⟩ : ∃ p n, Np.print zs = (p, n) := ⟨_, _, rfl⟩
      have HP1 := Lib.hid hp1
      have HP2 := Lib.hid hp2
      have HP0 := Lib.hid hp0
      clear hp1 hp2 hp0
      refine (print_at _ z1 _ (HI.out.keep HBB.out) (HZ1.out.later rzone_kept rzone_more HBB.out) HP1.out).mono ?_
      rintro e w5 ⟨rfl, hb5⟩
      have HB5 := Lib.hid (HBB.out.trans (hb5.mono HBB.out.size))
      have HS5 := Lib.hid (HSB.out.later rzone_kept rzone_more hb5)
      clear hb5
      go_wp2_with fail
      refine (print_at _ z2 _ (HI.out.keep HB5.out) (HZ2.out.later rzone_kept rzone_more HB5.out) HP2.out).mono ?_
      rintro e w6 ⟨rfl, hb6⟩
      have HB6 := Lib.hid (HB5.out.trans (hb6.mono HB5.out.size))
      have HS6 := Lib.hid (HS5.out.later rzone_kept rzone_more hb6)
      clear hb6
      go_wp2_with fail
      refine (print_at _ zs _ (HI.out.keep HB6.out) HS6.out HP0.out).mono ?_
      rintro e w7 ⟨rfl, hb7⟩
      have HB7 := Lib.hid (HB6.out.trans (hb7.mono HB6.out.size))
      have HS7 := Lib.hid (HS6.out.later rzone_kept rzone_more hb7)
      clear hb7 HS6 HS5 HSB HBB H4 H3
      by_cases hn0 : n0 = 0
      · subst hn0
        obtain ⟨q1, q2, q3⟩ := HAPP.out p0 HP0.out
        rw [HP1.out, Prod.mk.injEq] at q1
        rw [HP2.out, Prod.mk.injEq] at q2
        obtain ⟨q1, rfl⟩ := q1
        obtain ⟨q2, rfl⟩ := q2
        obtain ⟨r1, _, _, r4, r5, _⟩ := Np.print_ok HP0.out
        have hfd := Np.text_feeds r1
        have hte := Np.text_end zs
        rw [← r4] at hfd hte
        rw [← q1, ← q2] at q3
        have HFD := Lib.hid hfd
        have HTE := Lib.hid hte
        have HQ3 := Lib.hid q3
        clear hfd hte r1 r4 q1 q2 q3 HAPP
        go_wp2_with fail
        go_loopw [13, 55] (fun n i wr => PartsRel w7 zs n i wr) (fun _ i _ => zs.length - (intOf i).toNat)
        case atStart => exact ⟨0, Nat.zero_le _, rfl, rfl, by simp [Np.linesOf], Lib.hid (Below.refl _ _)⟩
        case round =>
          obtain ⟨k, hk, rfl, rfl, hln, HBr⟩ := hrel
          by_cases hlt : k < zs.length
          · have hget := List.getElem?_eq_getElem hlt
            obtain ⟨b, o, c', sn, sv, hA, hbB, _, hsn, hsz, hsv, e0, e1⟩ := zone_at (HS7.out.keep rzone_kept HBr.out) hget
            cases hA
            have hz300 := HFZ.out _ (List.getElem_mem hlt)
            have htk : Np.linesOf (zs.take (k + 1)) = Np.linesOf (zs.take k) + (zs[k].sets.length + 2) := by
              rw [List.take_add_one, hget]
              simp only [Np.linesOf, Option.toList_some, List.map_append, List.sum_append, List.map_cons, List.map_nil, List.sum_cons, List.sum_nil, Nat.add_zero]
            have HTK := Lib.hid htk
            generalize hx : zs[k] = z at *
            clear hx htk
            obtain ⟨As, cs, rfl, hcs, hls⟩ := slr_form hsv
            have hwr := HBr.out.size
            have hba : ∀ o, Below wr.heap.size wr (wr.alloc o) := fun o => (Below.refl _ _).alloc (Nat.le_refl _) _
            have HBAr := Lib.hid hba
            clear hba hget hsn hsv
            generalize hL : Np.linesOf (zs.take k) = L at *
            go_wp2_with fail
            go_roundw
            case rel => exact ⟨k + 1, by omega, by go_num, by rw [HTK.out]; go_num, by rw [HTK.out]; omega, Lib.hid (HBr.out.trans ((HBAr.out _).mono hwr))⟩
            case measure => simp [intOf] <;> omega
          · have hke : k = zs.length := by omega
            subst hke
            rw [List.take_length]
            have hp12 : p1.length + p2.length ≤ 8000 := by rw [HQ3.out, List.length_append] at r5; exact r5
            have hov : ¬ 9223372036854775807 < p1.length + p2.length := by omega
            have hcnt : ∀ w, Calls Tryz.prog 20 #[strs p0, .string ⟨#[10]⟩] w (fun e w' => e = .returned (.int .i64 (Np.linesOf zs)) ∧ w' = w) := fun w => by
              refine (Tryz.strings_Count_one ⟨p0.toArray⟩ 10 w).mono ?_
              rintro e w' ⟨rfl, rfl⟩
              refine ⟨?_, rfl⟩
              rw [← HFD.out]
              rfl
            have HCNT := Lib.hid hcnt
            clear hcnt
            generalize Np.linesOf zs = L at *
            have heq : (p0 == ((⟨p1.toArray⟩ : ByteArray) ++ ⟨p2.toArray⟩).toList) = true := by
              rw [beq_iff_eq, ByteArray.toList_eq, HQ3.out]
              simp
            rcases HTE.out with he | ⟨u, he⟩
            · have hnil : (p0 == []) = true := by rw [he]; rfl
              have HE := Lib.hid he
              clear he
              go_wp2_with (go_at_call 20; refine (HCNT.out _).mono ?_; rintro e w9 ⟨rfl, rfl⟩)
              go_ret
              exact ⟨rfl, HB7.out.trans (HBr.out.mono HB7.out.size)⟩
            · have hnil : (p0 == []) = false := by rw [he]; simp
              have hsuf : ∀ w, Calls Tryz.prog 21 #[strs p0, .string ⟨#[125, 10]⟩] w (fun e w' => e = .returned (.bool true) ∧ w' = w) := fun w => by
                refine (hasSuffix_any ⟨p0.toArray⟩ ⟨#[125, 10]⟩ (show p0.length ≤ _ by omega) (by decide) w).mono ?_
                rintro e w' ⟨rfl, rfl⟩
                refine ⟨?_, rfl⟩
                rw [he, suffix_end u]
              have HSUF := Lib.hid hsuf
              have HE := Lib.hid he
              clear he hsuf
              go_wp2_with (first
                | (go_at_call 20; refine (HCNT.out _).mono ?_; rintro e w9 ⟨rfl, rfl⟩)
                | (go_at_call 21; refine (HSUF.out _).mono ?_; rintro e w9 ⟨rfl, rfl⟩))
              go_ret
              exact ⟨rfl, HB7.out.trans (HBr.out.mono HB7.out.size)⟩
      · have hpe : p0 = [] := by have := Np.print_bad (l := zs) (by rw [HP0.out]; exact hn0); rw [HP0.out] at this; exact this
        subst hpe
        go_wp2_with fail
        go_ret
        exact ⟨rfl, HB7.out⟩
end Go.Proofs.YtnbolgdccdnjeaaGreatDoor
/- The plain laws of PrinterNext and PrinterRefuses. -/
namespace Go.Proofs.YtnbolgdccdnjeaaGreatDoor.Np
theorem right_valid {z : Zone} (h : rightZ z = true) : ∀ x ∈ z.sets, validSet x.set = true := by
  unfold rightZ at h
  simp only [Bool.and_eq_true] at h
  exact goodSets_valid h.2
theorem next_plain {z : Zone} {nx : Signed} (h8 : nx.set.type = 8) (hr : rightZ ⟨z.apex, z.sets ++ [nx]⟩ = true) : validSet nx.set = true ∧ print [⟨z.apex, z.sets ++ [nx]⟩] = ([], 12) := by
  refine ⟨right_valid hr nx (by simp), ?_⟩
  have hp : plainZ ⟨z.apex, z.sets ++ [nx]⟩ = false := by
    unfold plainZ
    rw [List.all_append]
    have : plainS nx = false := by unfold plainS; rw [h8]; simp
    simp [this]
  unfold print
  rw [if_neg (by simp [hr]), if_neg (by simp [twice]), if_pos (by simp [hp])]
/-- The order and the names of a zone's sets do not turn with the signatures. -/
theorem goodSets_same (apex : List UInt8) : ∀ (l m : List Signed) (p : Option DSet), l.map (·.set) = m.map (·.set) → goodSets apex p l = goodSets apex p m := by
  intro l
  induction l with
  | nil => intro m p h; cases m with
    | nil => rfl
    | cons => simp at h
  | cons x l ih =>
    intro m p h
    cases m with
    | nil => simp at h
    | cons y m =>
      simp only [List.map_cons, List.cons.injEq] at h
      simp only [goodSets, h.1, ih m _ h.2]
theorem right_same {a : List UInt8} {l m : List Signed} (h : l.map (·.set) = m.map (·.set)) : rightZ ⟨a, l⟩ = rightZ ⟨a, m⟩ := by
  unfold rightZ
  rw [goodSets_same a l m none h]
theorem all_set {α : Type} {p : α → Bool} {l : List α} {i : Nat} {x : α} (h : l.all p = true) (hx : p x = true) : (l.set i x).all p = true := by
  rw [List.all_eq_true] at *
  intro y hy
  rcases List.mem_or_eq_of_mem_set hy with hy | rfl
  · exact h y hy
  · exact hx
theorem all_set_false {α : Type} {p : α → Bool} {l : List α} {i : Nat} {x : α} (hi : i < l.length) (hx : p x = false) : (l.set i x).all p = false := by
  rw [List.all_eq_false]
  exact ⟨x, List.mem_set hi _, by simp [hx]⟩
theorem apex_set {l : List Zone} {i : Nat} {z : Zone} {s : List Signed} (h : l[i]? = some z) : (l.set i ⟨z.apex, s⟩).map (·.apex) = l.map (·.apex) := by
  apply List.ext_getElem?
  intro j
  rw [List.getElem?_map, List.getElem?_map, List.getElem?_set]
  split
  · rename_i e
    subst e
    split
    · rw [h]; rfl
    · rename_i hn
      rw [List.getElem?_eq_none (by omega)]
  · rfl
/-- With a signature. -/
theorem refuse_sig {l : List Zone} {t : List UInt8} (h : print l = (t, 0)) {i k : Nat} {z : Zone} {x : Signed} (hz : l[i]? = some z) (hx : z.sets[k]? = some x) (g : Sig) : print (l.set i ⟨z.apex, z.sets.set k ⟨x.set, [g]⟩⟩) = ([], 12) := by
  obtain ⟨h1, h2, h3, _⟩ := print_ok h
  have hi := (List.getElem?_eq_some_iff.1 hz).1
  have hk := (List.getElem?_eq_some_iff.1 hx).1
  have hrz : rightZ z = true := List.all_eq_true.1 h1 z (List.mem_of_getElem? hz)
  have hm : (z.sets.set k ⟨x.set, [g]⟩).map (·.set) = z.sets.map (·.set) := by
    apply List.ext_getElem?
    intro j
    rw [List.getElem?_map, List.getElem?_map, List.getElem?_set]
    split
    · rename_i e
      subst e
      rw [hx]; rfl
    · rfl
  have hr : rightZ ⟨z.apex, z.sets.set k ⟨x.set, [g]⟩⟩ = true := by rw [right_same hm]; exact hrz
  have hp : plainZ ⟨z.apex, z.sets.set k ⟨x.set, [g]⟩⟩ = false := by
    unfold plainZ
    rw [all_set_false hk (by unfold plainS; rfl), Bool.and_false]
  unfold print
  rw [if_neg (by rw [all_set h1 hr]; simp), if_neg (by rw [apex_set hz, h2]; simp), if_pos (all_set_false hi hp)]
theorem cmpSet_self (a : DSet) : cmpSet a a = 0 := by
  unfold cmpSet cmpI
  simp
theorem goodSets_twice (apex : List UInt8) (x : Signed) (r : List Signed) : ∀ (l : List Signed) (p : Option DSet), goodSets apex p (l ++ x :: x :: r) = false := by
  intro l
  induction l with
  | nil =>
    intro p
    simp only [List.nil_append, goodSets, cmpSet_self]
    simp
  | cons y l ih =>
    intro p
    simp only [List.cons_append, goodSets, ih, Bool.and_false]
theorem print_wrong {l : List Zone} {i : Nat} {y : Zone} (hi : i < l.length) (hy : rightZ y = false) : print (l.set i y) = ([], 1) := by
  unfold print
  rw [if_pos (all_set_false hi hy)]
/-- With a set twice. -/
theorem refuse_twice {l : List Zone} {i k : Nat} {z : Zone} {x : Signed} (hz : l[i]? = some z) (hx : z.sets[k]? = some x) : print (l.set i ⟨z.apex, z.sets.take (k + 1) ++ ([x] ++ z.sets.drop (k + 1))⟩) = ([], 1) := by
  refine print_wrong (List.getElem?_eq_some_iff.1 hz).1 ?_
  unfold rightZ
  rw [List.take_add_one, hx]
  have : z.sets.take k ++ (some x).toList ++ ([x] ++ z.sets.drop (k + 1)) = z.sets.take k ++ x :: x :: z.sets.drop (k + 1) := by simp
  simp only [this, goodSets_twice, Bool.and_false]
theorem twice_mem {a : List (List UInt8)} {x : List UInt8} (h : x ∈ a) : twice (a ++ [x]) = true := by
  induction a with
  | nil => cases h
  | cons y a ih =>
    rw [List.cons_append, twice, Bool.or_eq_true]
    rcases List.mem_cons.1 h with rfl | h
    · left; simp
    · exact .inr (ih h)
/-- With a zone twice. -/
theorem refuse_zone {l : List Zone} {t : List UInt8} (h : print l = (t, 0)) {i : Nat} {z : Zone} (hz : l[i]? = some z) : print (l ++ [z]) = ([], 5) := by
  obtain ⟨h1, h2, h3, _⟩ := print_ok h
  have hm := List.mem_of_getElem? hz
  have hrz : rightZ z = true := List.all_eq_true.1 h1 z hm
  unfold print
  rw [if_neg (by rw [List.all_append, h1]; simp [hrz]), if_pos (by
    rw [List.map_append]
    exact twice_mem (List.mem_map.2 ⟨z, hm, rfl⟩))]
/-- With a set that is not under the apex. -/
theorem refuse_under {l : List Zone} {t : List UInt8} (h : print l = (t, 0)) {i : Nat} {z : Zone} (hz : l[i]? = some z) (hd : z.apex ≠ [46]) (s : Signed) (hs : s.set.name = [46]) (r : List Signed) : print (l.set i ⟨z.apex, [s] ++ r⟩) = ([], 1) := by
  obtain ⟨h1, _⟩ := print_ok h
  have hrz : rightZ z = true := List.all_eq_true.1 h1 z (List.mem_of_getElem? hz)
  refine print_wrong (List.getElem?_eq_some_iff.1 hz).1 ?_
  unfold rightZ at hrz
  simp only [Bool.and_eq_true] at hrz
  have hne : z.apex ≠ [] := by
    intro e
    have := hrz.1.1
    rw [e] at this
    revert this
    decide
  have hu : underL [46] z.apex = false := by
    unfold underL
    have h1 : ([46] == z.apex) = false := by rw [beq_eq_false_iff_ne]; exact fun e => hd e.symm
    have h2 : (z.apex == [46]) = false := by rw [beq_eq_false_iff_ne]; exact hd
    have h3 : decide (z.apex.length < [(46 : UInt8)].length) = false := by
      rw [decide_eq_false_iff_not]
      have : 0 < z.apex.length := List.length_pos_iff.2 hne
      simp; omega
    rw [h1, h2, h3]; rfl
  unfold rightZ
  simp only [List.singleton_append, goodSets, hs, hu, Bool.and_false, Bool.false_and]
end Go.Proofs.YtnbolgdccdnjeaaGreatDoor.Np
/- Reading around memory that may be written: the mutable blocks are taken for empty. No condition. -/
namespace Go.Proofs.YtnbolgdccdnjeaaGreatDoor
open Go.RowKit
open Classical in
/-- The world with the blocks M taken for empty. -/
noncomputable def sansP (w : World) (M : Nat → Prop) : World := { w with heap := w.heap.mapIdx fun k o => if M k then .cells #[] 0 else o }
theorem sansP_size (w : World) (M : Nat → Prop) : (sansP w M).heap.size = w.heap.size := by simp [sansP]
theorem sansP_out {w : World} {M : Nat → Prop} {k : Nat} (h : ¬ M k) : (sansP w M).heap[k]? = w.heap[k]? := by
  unfold sansP
  simp only [Array.getElem?_mapIdx, h, if_false]
  cases w.heap[k]? <;> rfl
theorem sansP_in {w : World} {M : Nat → Prop} {k : Nat} (h : M k) : (sansP w M).heap[k]? = (w.heap[k]?).map fun _ => Obj.cells #[] 0 := by
  unfold sansP
  simp only [Array.getElem?_mapIdx, h, if_true]
theorem sansP_cell {w : World} {M : Nat → Prop} {p : Addr} {v : Value} (h : (sansP w M).cell? p = some v) : ¬ M p.block ∧ w.cell? p = some v := by
  by_cases hm : M p.block
  · exfalso
    unfold World.cell? at h
    rw [sansP_in hm] at h
    cases hh : w.heap[p.block]? with
    | none => simp [hh] at h
    | some o => simp [hh] at h
  · refine ⟨hm, ?_⟩
    rw [← h]
    exact (World.cell?_of_block (w := w) (sansP_out hm)).symm
theorem sansP_cell_of {w : World} {M : Nat → Prop} {p : Addr} (h : ¬ M p.block) : (sansP w M).cell? p = w.cell? p := World.cell?_of_block (w := w) (sansP_out h)
/-- R may be read with fewer blocks left out. -/
def SansR {α : Type} (R : World → Nat → List Value → α → Prop) : Prop := ∀ w (M M' : Nat → Prop) B e x, (∀ k, M' k → M k) → R (sansP w M) B e x → R (sansP w M') B e x
theorem CellsAt.sans {w : World} {M M' : Nat → Prop} {b o : Nat} {e : List Value} (hM : ∀ k, M' k → M k) (h : CellsAt (sansP w M) b o e) : CellsAt (sansP w M') b o e := fun j v hj => by
  obtain ⟨h1, h2⟩ := sansP_cell (h j v hj)
  rw [sansP_cell_of (fun e => h1 (hM _ e))]
  exact h2
theorem SlR.sans {α : Type} {R : World → Nat → List Value → α → Prop} {sz : Nat} {w : World} {M M' : Nat → Prop} {B : Nat} {v : Value} {xs : List α} (hR : SansR R) (hM : ∀ k, M' k → M k) (h : SlR R sz (sansP w M) B v xs) : SlR R sz (sansP w M') B v xs := by
  obtain ⟨A, c, hv, hc, hl, he⟩ := h
  refine ⟨A, c, hv, hc, hl, fun i x hx => ?_⟩
  obtain ⟨b, o, e, hA, hB, hel, hce, hr⟩ := he i x hx
  exact ⟨b, o, e, hA, hB, hel, hce.sans hM, hR _ _ _ _ _ _ hM hr⟩
theorem sansP_none (w : World) : sansP w (fun _ => False) = w := by
  unfold sansP
  cases w
  simp only [World.mk.injEq, and_true]
  apply Array.ext_getElem?
  intro i
  simp only [Array.getElem?_mapIdx, if_false]
  rename_i heap _ _ _ _
  cases heap[i]? <;> rfl
theorem SlR.all {α : Type} {R : World → Nat → List Value → α → Prop} {sz : Nat} {w : World} {M : Nat → Prop} {B : Nat} {v : Value} {xs : List α} (hR : SansR R) (h : SlR R sz (sansP w M) B v xs) : SlR R sz w B v xs := by
  have := h.sans (M' := fun _ => False) hR (fun _ e => e.elim)
  rw [sansP_none] at this
  exact this
theorem rdatum_sans : SansR RDatum := fun _ _ _ _ _ _ _ h => h
theorem rsig_sans : SansR RSig := fun _ _ _ _ _ _ _ h => h
theorem rsigned_sans : SansR RSigned := fun _ _ _ _ _ _ hM ⟨s, v, u, h1, h2, h3, h4, h5⟩ => ⟨s, v, u, h1, h2, h3.sans rdatum_sans hM, h4.sans rsig_sans hM, h5⟩
theorem rzone_sans : SansR RZone := fun _ _ _ _ _ _ hM ⟨s, v, h1, h2, h3, h5⟩ => ⟨s, v, h1, h2, h3.sans rsigned_sans hM, h5⟩
theorem SansR.all {α : Type} {R : World → Nat → List Value → α → Prop} (hR : SansR R) {w : World} {M : Nat → Prop} {B : Nat} {e : List Value} {x : α} (h : R (sansP w M) B e x) : R w B e x := by
  have := hR w M (fun _ => False) B e x (fun _ e => e.elim) h
  rw [sansP_none] at this
  exact this
/-- What a step leaves: blocks that are not mutable stay; the new mutable ones are old mutable ones, or new. -/
structure Leaves' (M : Nat → Prop) (w w' : World) (M' : Nat → Prop) : Prop where
  os : w'.os = w.os
  tape : w'.tape = w.tape
  output : w'.output = w.output
  size : w.heap.size ≤ w'.heap.size
  keep : ∀ k, k < w.heap.size → ¬ M k → ¬ M' k ∧ w'.heap[k]? = w.heap[k]?
theorem Leaves'.refl (M : Nat → Prop) (w : World) : Leaves' M w w M := ⟨rfl, rfl, rfl, Nat.le_refl _, fun _ _ h => ⟨h, rfl⟩⟩
theorem Leaves'.trans {M M' M'' : Nat → Prop} {a b c : World} (h : Leaves' M a b M') (k : Leaves' M' b c M'') : Leaves' M a c M'' :=
  ⟨k.os.trans h.os, k.tape.trans h.tape, k.output.trans h.output, Nat.le_trans h.size k.size, fun i hi hm => by
    obtain ⟨h1, h2⟩ := h.keep i hi hm
    obtain ⟨h3, h4⟩ := k.keep i (Nat.lt_of_lt_of_le hi h.size) h1
    exact ⟨h3, h4.trans h2⟩⟩
theorem Leaves'.of_below {M : Nat → Prop} {w w' : World} (h : Below w.heap.size w w') : Leaves' M w w' M := ⟨h.os, h.tape, h.output, h.size, fun k hk hm => ⟨hm, h.block k hk⟩⟩
theorem Leaves'.setCell (M : Nat → Prop) (w : World) {p : Addr} (hp : M p.block) (v : Value) : Leaves' M w (w.setCell p v) M :=
  ⟨rfl, rfl, rfl, by simp [World.setCell], fun k _ hm => ⟨hm, Below.heap_setCell _ _ _ _ (fun e => hm (e ▸ hp))⟩⟩
theorem Leaves'.grown {M : Nat → Prop} {w w' : World} {row : Option Nat} (hg : w.grownBy w' row) (hr : ∀ k, row = some k → M k) : Leaves' M w w' M :=
  ⟨hg.os, hg.tape, hg.output, hg.size, fun k hk hm => ⟨hm, hg.block k hk (fun e => hm (hr k e.symm))⟩⟩
/-- A new block, or any at all, becomes mutable. -/
theorem Leaves'.more {M M' N : Nat → Prop} {w w' : World} (h : Leaves' M w w' M') (hN : ∀ k, N k → M' k ∨ w.heap.size ≤ k) : Leaves' M w w' N :=
  ⟨h.os, h.tape, h.output, h.size, fun k hk hm => ⟨fun e => (hN k e).elim (h.keep k hk hm).1 (by omega), (h.keep k hk hm).2⟩⟩
theorem Leaves'.read {α : Type} {R : World → Nat → List Value → α → Prop} (hk : KeptR R) (hs : SansR R) (hm : MoreR R) {M M' : Nat → Prop} {w w' : World} (h : Leaves' M w w' M') {e : List Value} {x : α} (hr : R (sansP w M) w.heap.size e x) : R (sansP w' M') w'.heap.size e x := by
  have hb : Below w.heap.size (sansP w M) (sansP w' fun k => M k ∨ M' k) := by
    refine ⟨h.os, h.tape, h.output, by rw [sansP_size, sansP_size]; exact h.size, fun k hk => ?_⟩
    by_cases hM : M k
    · rw [sansP_in hM, sansP_in (M := fun k => M k ∨ M' k) (Or.inl hM)]
      have h1 : k < w'.heap.size := Nat.lt_of_lt_of_le hk h.size
      rw [Array.getElem?_eq_getElem hk, Array.getElem?_eq_getElem h1]
      rfl
    · obtain ⟨h1, h2⟩ := h.keep k hk hM
      rw [sansP_out hM, sansP_out (M := fun k => M k ∨ M' k) (fun e => e.elim hM h1), h2]
  exact hm _ _ _ _ _ (hs _ _ _ _ _ _ (fun k e => Or.inr e) (hk _ _ _ _ _ hr hb)) h.size
/-- A row of the call's own among the mutable blocks, whose elements are read around them. -/
def OwnM {α : Type} (R : World → Nat → List Value → α → Prop) (sz : Nat) (e : TypeId) (base : Nat) (M : Nat → Prop) (w : World) (v : Value) (xs : List α) : Prop :=
  ∃ rows : List (List Value), rows.length = xs.length ∧ w.ownsRow base e sz v xs.length rows.flatten ∧ (∀ g, v.ownBlock = some g → M g) ∧
    ∀ (i : Nat) (r : List Value) (x : α), rows[i]? = some r → xs[i]? = some x → r.length = sz ∧ R (sansP w M) w.heap.size r x
theorem OwnM.nil {α : Type} {R : World → Nat → List Value → α → Prop} {sz : Nat} {e : TypeId} {base : Nat} {M : Nat → Prop} (w : World) : OwnM (α := α) R sz e base M w (.slice none 0 0) [] :=
  ⟨[], rfl, ⟨by simp, .inl ⟨rfl, rfl⟩⟩, (fun g h => by cases h), fun i r x h => by simp at h⟩
theorem OwnM.form {α : Type} {R : World → Nat → List Value → α → Prop} {sz : Nat} {e : TypeId} {base : Nat} {M : Nat → Prop} {w : World} {v : Value} {xs : List α} (h : OwnM R sz e base M w v xs) : ∃ A c, v = .slice A xs.length c := by
  obtain ⟨rows, h1, h2, h3⟩ := h
  rcases h2.2 with ⟨rfl, h0⟩ | ⟨g, cap, cur, rfl, _⟩
  · exact ⟨none, 0, by rw [h0]⟩
  · exact ⟨_, cap, rfl⟩
theorem OwnM.leaves {α : Type} {R : World → Nat → List Value → α → Prop} (hk : KeptR R) (hs : SansR R) (hm : MoreR R) {sz : Nat} {e : TypeId} {base : Nat} {M M' : Nat → Prop} {w w' : World} {v : Value} {xs : List α} (h : OwnM R sz e base M w v xs) (hl : Leaves' M w w' M')
    (ho : ∀ g, v.ownBlock = some g → w'.heap[g]? = w.heap[g]? ∧ M' g) : OwnM R sz e base M' w' v xs := by
  obtain ⟨rows, h1, h2, h3, h4⟩ := h
  exact ⟨rows, h1, ownsRow_keep h2 (fun g hg => (ho g hg).1), fun g hg => (ho g hg).2, fun i r x hr hx => ⟨(h4 i r x hr hx).1, hl.read hk hs hm (h4 i r x hr hx).2⟩⟩
theorem OwnM.slr {α : Type} {R : World → Nat → List Value → α → Prop} (hs : SansR R) {sz : Nat} {e : TypeId} {base : Nat} {M : Nat → Prop} {w : World} {v : Value} {xs : List α} (h : OwnM R sz e base M w v xs) (hl : xs.length ≤ 140737488355328) : SlR R sz w w.heap.size v xs := by
  obtain ⟨rows, h1, h2, h3, h4⟩ := h
  have hl' := OwnR.rows_len (w := sansP w M) (B := w.heap.size) h1 h4
  rcases h2.2 with ⟨rfl, h0⟩ | ⟨g, cap, cur, rfl, hb, hg, hnc, _⟩
  · have : xs = [] := List.eq_nil_of_length_eq_zero h0
    subst this
    exact ⟨none, 0, rfl, by simp, by simp, fun i x hx => by simp at hx⟩
  · refine ⟨_, cap, rfl, hnc, hl, fun i x hx => ?_⟩
    have hi := (List.getElem?_eq_some_iff.1 hx).1
    have hr := List.getElem?_eq_getElem (l := rows) (i := i) (by omega)
    obtain ⟨h5, h6⟩ := h4 i _ x hr hx
    refine ⟨g, 0, rows[i], rfl, (Array.getElem?_eq_some_iff.1 hg).1, h5, fun j u hj => ?_, hs.all h6⟩
    have h7 := h2.cells (g := g) rfl _ _ (flatten_at rows i j _ u hl' hr hj)
    have hadd : (⟨g, 0, none⟩ : Addr).add (i * sz + j) = ⟨g, 0 + i * sz + j, none⟩ := by unfold Addr.add; split <;> simp_all
    rw [hadd] at h7
    exact h7
/-- The cells of a slice read as ys now, around the mutable blocks (the slice itself may lie anywhere). -/
def RowsM {α : Type} (R : World → Nat → List Value → α → Prop) (sz : Nat) (M : Nat → Prop) (w : World) (A : Option Addr) (ys : List α) : Prop :=
  ∃ rows : List (List Value), rows.length = ys.length ∧ (∀ (i : Nat) (r : List Value) (x : α), rows[i]? = some r → ys[i]? = some x → r.length = sz ∧ R (sansP w M) w.heap.size r x) ∧ (ys ≠ [] → ∃ b o, A = some ⟨b, o, none⟩ ∧ ∀ j u, rows.flatten[j]? = some u → w.cell? ((⟨b, o, none⟩ : Addr).add j) = some u)
theorem rowsM_one {α : Type} {R : World → Nat → List Value → α → Prop} {sz : Nat} {M : Nat → Prop} {w : World} {b o : Nat} {r : List Value} {x : α} (hl : r.length = sz) (hr : R (sansP w M) w.heap.size r x) (hc : CellsAt w b o r) : RowsM R sz M w (some ⟨b, o, none⟩) [x] := by
  refine ⟨[r], rfl, fun i r' x' h1 h2 => ?_, fun _ => ⟨b, o, rfl, fun j u hj => ?_⟩⟩
  · cases i with
    | zero => simp at h1 h2; subst h1; subst h2; exact ⟨hl, hr⟩
    | succ i => simp at h1
  · have hadd : (⟨b, o, none⟩ : Addr).add j = ⟨b, o + j, none⟩ := by unfold Addr.add; split <;> simp_all
    rw [hadd]
    exact hc j u (by simpa using hj)
theorem rowsM_slr {α : Type} {R : World → Nat → List Value → α → Prop} {sz : Nat} {M : Nat → Prop} {w : World} {A : Option Addr} {n c : Nat} {ys : List α} (h : SlR R sz (sansP w M) w.heap.size (.slice A n c) ys) (hsz : 0 < sz) : RowsM R sz M w A ys := by
  obtain ⟨rows, h1, h2, h3⟩ := slr_rows h hsz
  exact ⟨rows, h1, h2, fun hy => by obtain ⟨b, o, h4, _, h5⟩ := h3 hy; exact ⟨b, o, h4, fun j u hj => (sansP_cell (h5 j u hj)).2⟩⟩
section
variable {P : Program}
theorem run_append_M {α : Type} {R : World → Nat → List Value → α → Prop} {sz : Nat} {M : Nat → Prop} (w : World) (t ty : TypeId)
    (base : Nat) (e : TypeId) (i : TypeInfo) (z : Value) (bytes : Nat) (ht : P.underlying t = some (.slice e)) (hi : P.info? e = some i) (hz : i.zero = some z) (hsize : i.size = sz) (hby : i.bytes = bytes) (hzs : z.cells.size = sz) (hsz : 0 < sz)
    (v : Value) (xs : List α) (hown : OwnM R sz e base M w v xs) (A : Option Addr) (c : Nat) (ys : List α) (hsl : RowsM R sz M w A ys)
    (hone : ∀ w B r y, R w B r y → ∀ u ∈ r, u.oneCell' = true) (h63 : xs.length + ys.length ≤ maxLen) (hbytes : (xs.length + ys.length) * bytes ≤ 140737488355328) (hbase : base ≤ w.heap.size) (hk : KeptR R) (hs : SansR R) (hm : MoreR R) :
    ∃ v' w', (Builtin.append_ #[t, t] ty #[v, .slice A ys.length c]).run P w = .ok v' w' ∧ OwnM R sz e base (fun k => M k ∨ v'.ownBlock = some k) w' v' (xs ++ ys) ∧ w.grownBy w' v.ownBlock ∧ (v'.ownBlock = v.ownBlock ∨ v'.ownBlock = some w.heap.size) := by
  have hkeep : ∀ (w' : World) (v' : Value) (rows rows' : List (List Value)), w.grownBy w' v.ownBlock → (v'.ownBlock = v.ownBlock ∨ v'.ownBlock = some w.heap.size) → (∀ g, v.ownBlock = some g → M g) → rows.length = xs.length → (∀ (i : Nat) (r : List Value) (x : α), rows[i]? = some r → xs[i]? = some x → r.length = sz ∧ R (sansP w M) w.heap.size r x) → rows'.length = ys.length →
      (∀ (i : Nat) (r : List Value) (x : α), rows'[i]? = some r → ys[i]? = some x → r.length = sz ∧ R (sansP w M) w.heap.size r x) → w'.ownsRow base e sz v' (xs.length + ys.length) (rows.flatten ++ rows'.flatten) → OwnM R sz e base (fun k => M k ∨ v'.ownBlock = some k) w' v' (xs ++ ys) := by
    intro w' v' rows rows' hg hat hMv h1 h2 h3 h4 h5
    have hlv : Leaves' M w w' (fun k => M k ∨ v'.ownBlock = some k) := (Leaves'.grown hg hMv).more (fun k e => by
      rcases e with e | e
      · exact .inl e
      · rcases hat with h | h
        · exact .inl (hMv k (h ▸ e))
        · rw [h] at e; cases e; exact .inr (Nat.le_refl _))
    refine ⟨rows ++ rows', by simp [h1, h3], ?_, fun g hg' => .inr hg', fun j r y hr hy => ?_⟩
    · rw [List.length_append, List.flatten_append]; exact h5
    · rcases Nat.lt_or_ge j rows.length with hlt | hge
      · rw [List.getElem?_append_left hlt] at hr
        rw [List.getElem?_append_left (by omega)] at hy
        obtain ⟨h6, h7⟩ := h2 j r y hr hy
        exact ⟨h6, hlv.read hk hs hm h7⟩
      · rw [List.getElem?_append_right hge] at hr
        rw [List.getElem?_append_right (by omega), ← h1] at hy
        obtain ⟨h6, h7⟩ := h4 _ r y hr hy
        exact ⟨h6, hlv.read hk hs hm h7⟩
  obtain ⟨rows, h1, h2, hMv, h3⟩ := hown
  obtain ⟨rows', h4, h5, h6⟩ := hsl
  by_cases hy : ys = []
  · subst hy
    have hr0 : rows' = [] := List.eq_nil_of_length_eq_zero (by simpa using h4)
    subst hr0
    cases A with
    | none =>
      have hrun := run_append_none_any (P := P) base t ty e i sz ht hi v xs.length c rows.flatten h2
      have hg : w.grownBy w v.ownBlock := ⟨rfl, rfl, rfl, Nat.le_refl _, fun _ _ _ => rfl⟩
      exact ⟨v, w, hrun, hkeep w v rows [] hg (.inl rfl) hMv h1 h3 rfl (fun j r y hr => by simp at hr) (by simpa using h2), hg, .inl rfl⟩
    | some ad =>
      obtain ⟨v', w', hr, ho', hg, _, hat⟩ := run_append_own_at (P := P) w base t ty e i z sz bytes ht hi hz hsize hby hzs hsz v xs.length rows.flatten h2 ad 0 c [] (by simp) (fun j u hj => by simp at hj) (fun u hu => by cases hu) (by simpa using h63) (by simpa using hbytes) hbase
      exact ⟨v', w', hr, hkeep w' v' rows [] hg hat hMv h1 h3 rfl (fun j r y hr => by simp at hr) (by simpa using ho'), hg, hat⟩
  · obtain ⟨b, o', rfl, hcell⟩ := h6 hy
    have hl := OwnR.rows_len (w := sansP w M) (B := w.heap.size) h4 h5
    obtain ⟨v', w', hr, ho', hg, _, hat⟩ := run_append_own_at (P := P) w base t ty e i z sz bytes ht hi hz hsize hby hzs hsz v xs.length rows.flatten h2 ⟨b, o', none⟩ ys.length c rows'.flatten (by rw [flatten_len rows' hl, h4]) hcell (fun u hu => by
      obtain ⟨r, hr, hur⟩ := List.mem_flatten.1 hu
      obtain ⟨j, hj, rfl⟩ := List.mem_iff_getElem.1 hr
      exact hone _ _ _ _ (h5 j _ _ (List.getElem?_eq_getElem hj) (List.getElem?_eq_getElem (by omega))).2 u hur) h63 hbytes hbase
    exact ⟨v', w', hr, hkeep w' v' rows rows' hg hat hMv h1 h3 h4 h5 ho', hg, hat⟩
theorem wp_append_M {α : Type} {R : World → Nat → List Value → α → Prop} {sz : Nat} {M : Nat → Prop} (w : World) {o : Oper} {a : Act} {K : Act → World → Prop} {Q : Exit → Act → World → Prop} (s x : Operand) (t : TypeId)
    (ho : o.op = .call { callee := .builtin .append, args := #[s, x], argTypes := #[t, t] })
    (base : Nat) (e : TypeId) (i : TypeInfo) (z : Value) (bytes : Nat) (ht : P.underlying t = some (.slice e)) (hi : P.info? e = some i) (hz : i.zero = some z) (hsize : i.size = sz) (hby : i.bytes = bytes) (hzs : z.cells.size = sz) (hsz : 0 < sz)
    (v : Value) (xs : List α) (hv : a.eval s = v) (hown : OwnM R sz e base M w v xs) (A : Option Addr) (c : Nat) (ys : List α) (hx : a.eval x = .slice A ys.length c) (hsl : RowsM R sz M w A ys)
    (hone : ∀ w B r y, R w B r y → ∀ u ∈ r, u.oneCell' = true) (h63 : xs.length + ys.length ≤ maxLen) (hbytes : (xs.length + ys.length) * bytes ≤ 140737488355328) (hbase : base ≤ w.heap.size) (hk : KeptR R) (hs : SansR R) (hm : MoreR R)
    (h : ∀ v' w', OwnM R sz e base (fun k => M k ∨ v'.ownBlock = some k) w' v' (xs ++ ys) → w.grownBy w' v.ownBlock → (v'.ownBlock = v.ownBlock ∨ v'.ownBlock = some w.heap.size) → K (a.put o.dst v') w') : o.wp P a w K Q := by
  obtain ⟨v', w', hr, h2, h4, h5⟩ := run_append_M (P := P) w t o.type base e i z bytes ht hi hz hsize hby hzs hsz v xs hown A c ys hsl hone h63 hbytes hbase hk hs hm
  unfold Oper.wp execOp
  simp only [ho, resolve, invoke, builtin, Sem.run_bind, Sem.run_pure, Result.andThen_ok, List.map_toArray, List.map_cons, List.map_nil, hv, hx, hr]
  exact h v' w' h2 h4 h5
theorem wpList_append_M {α : Type} {R : World → Nat → List Value → α → Prop} {sz : Nat} {M : Nat → Prop} (w : World) {ops : Array Oper} {rest : List Oper} {o : Oper} {a : Act} {Q : Exit → Act → World → Prop} (hgd : o.guard = none) (s x : Operand) (t : TypeId)
    (ho : o.op = .call { callee := .builtin .append, args := #[s, x], argTypes := #[t, t] })
    (base : Nat) (e : TypeId) (i : TypeInfo) (z : Value) (bytes : Nat) (ht : P.underlying t = some (.slice e)) (hi : P.info? e = some i) (hz : i.zero = some z) (hsize : i.size = sz) (hby : i.bytes = bytes) (hzs : z.cells.size = sz) (hsz : 0 < sz)
    (v : Value) (xs : List α) (hv : a.eval s = v) (hown : OwnM R sz e base M w v xs) (A : Option Addr) (c : Nat) (ys : List α) (hx : a.eval x = .slice A ys.length c) (hsl : RowsM R sz M w A ys)
    (hone : ∀ w B r y, R w B r y → ∀ u ∈ r, u.oneCell' = true) (h63 : xs.length + ys.length ≤ maxLen) (hbytes : (xs.length + ys.length) * bytes ≤ 140737488355328) (hbase : base ≤ w.heap.size) (hk : KeptR R) (hs : SansR R) (hm : MoreR R)
    (h : ∀ v' w', OwnM R sz e base (fun k => M k ∨ v'.ownBlock = some k) w' v' (xs ++ ys) → w.grownBy w' v.ownBlock → (v'.ownBlock = v.ownBlock ∨ v'.ownBlock = some w.heap.size) → wpList P ops Q rest (a.put o.dst v') w') : wpList P ops Q (o :: rest) a w := by
  refine wpList_plain hgd fun K hK => ?_
  exact wp_append_M w s x t ho base e i z bytes ht hi hz hsize hby hzs hsz v xs hv hown A c ys hx hsl hone h63 hbytes hbase hk hs hm (fun v' w' h1 h2 h3 => hK _ _ (h v' w' h1 h2 h3))
theorem step_append_M {α : Type} {R : World → Nat → List Value → α → Prop} {sz : Nat} {M : Nat → Prop} (w : World) {ops : Array Oper} {o : Oper} {a : Act} {K : Act → World → Prop} {Q : Exit → Act → World → Prop} {E : Prop} (hgd : o.guard = none) (s x : Operand) (t : TypeId)
    (ho : o.op = .call { callee := .builtin .append, args := #[s, x], argTypes := #[t, t] })
    (base : Nat) (e : TypeId) (i : TypeInfo) (z : Value) (bytes : Nat) (ht : P.underlying t = some (.slice e)) (hi : P.info? e = some i) (hz : i.zero = some z) (hsize : i.size = sz) (hby : i.bytes = bytes) (hzs : z.cells.size = sz) (hsz : 0 < sz)
    (v : Value) (xs : List α) (hv : a.eval s = v) (hown : OwnM R sz e base M w v xs) (A : Option Addr) (c : Nat) (ys : List α) (hx : a.eval x = .slice A ys.length c) (hsl : RowsM R sz M w A ys)
    (hone : ∀ w B r y, R w B r y → ∀ u ∈ r, u.oneCell' = true) (h63 : xs.length + ys.length ≤ maxLen) (hbytes : (xs.length + ys.length) * bytes ≤ 140737488355328) (hbase : base ≤ w.heap.size) (hk : KeptR R) (hs : SansR R) (hm : MoreR R)
    (h : ∀ v' w', OwnM R sz e base (fun k => M k ∨ v'.ownBlock = some k) w' v' (xs ++ ys) → w.grownBy w' v.ownBlock → (v'.ownBlock = v.ownBlock ∨ v'.ownBlock = some w.heap.size) → K (a.put o.dst v') w') :
    if Region.wanted o (yielded ops a.tmps) = true then Oper.wp P o a w K Q else E := by
  have hw : Region.wanted o (yielded ops a.tmps) = true := by simp [Region.wanted, hgd]
  rw [if_pos hw]
  exact wp_append_M w s x t ho base e i z bytes ht hi hz hsize hby hzs hsz v xs hv hown A c ys hx hsl hone h63 hbytes hbase hk hs hm h
end
end Go.Proofs.YtnbolgdccdnjeaaGreatDoor
/- PrinterRefuses: what the walks of its cases share. -/
namespace Go.Proofs.YtnbolgdccdnjeaaGreatDoor
open Go.RowKit
theorem Tryz.infoSignedR : (Tryz.prog.info? 41).map (fun i => (i.zero, i.size, i.bytes)) = some (some (.agg #[.string ⟨#[]⟩, .int .i64 0, .int .i64 0, .slice none 0 0, .slice none 0 0]), 5, 80) := by kernel_rfl
/-- A row of the call's own that is not empty. -/
theorem OwnR.isRow {α : Type} {R : World → Nat → List Value → α → Prop} {sz : Nat} {e : TypeId} {base B : Nat} {w : World} {v : Value} {xs : List α} (h : OwnR R sz e base B w v xs) (hx : xs ≠ []) :
    ∃ (g c : Nat), v = .slice (some ⟨g, 0, none⟩) xs.length c ∧ base ≤ g ∧ g < w.heap.size ∧ xs.length ≤ c ∧ c ≤ maxLen ∧ (∀ o, w.frozen? ⟨g, o, none⟩ = false) ∧
      ∀ i x, xs[i]? = some x → ∃ r, r.length = sz ∧ R w B r x ∧ CellsAt w g (i * sz) r := by
  obtain ⟨rows, h1, h2, h3⟩ := h
  have hl := OwnR.rows_len h1 h3
  rcases h2.2 with ⟨rfl, h0⟩ | ⟨g, cap, cur, rfl, hb, hg, hnc, hm, hr⟩
  · exact absurd (List.eq_nil_of_length_eq_zero h0) hx
  · refine ⟨g, cap, rfl, hb, (Array.getElem?_eq_some_iff.1 hg).1, hnc, hm, fun o => h2.frozenAt o, fun i x hx => ?_⟩
    have hi := (List.getElem?_eq_some_iff.1 hx).1
    have hr := List.getElem?_eq_getElem (l := rows) (i := i) (by omega)
    obtain ⟨h4, h5⟩ := h3 i _ x hr hx
    refine ⟨rows[i], h4, h5, fun j u hj => ?_⟩
    have h6 := h2.cells (g := g) rfl _ _ (flatten_at rows i j _ u hl hr hj)
    have hadd : (⟨g, 0, none⟩ : Addr).add (i * sz + j) = ⟨g, i * sz + j, none⟩ := by unfold Addr.add; split <;> simp_all
    rw [hadd] at h6
    exact h6
/-- The zones, one of which has another slice of sets now. -/
theorem bad_slr {w3 W : World} {B gb c i : Nat} {zs : List Np.Zone} {z : Np.Zone} {v' : Value} {sets' : List Np.Signed} (h : ∀ j x, zs[j]? = some x → ∃ r, r.length = 2 ∧ RZone w3 B r x ∧ CellsAt w3 gb (j * 2) r) (hb : Below B w3 W) (hB : B ≤ W.heap.size)
    (hcell : ∀ o, o ≠ i * 2 + 1 → W.cell? ⟨gb, o, none⟩ = w3.cell? ⟨gb, o, none⟩) (hv : W.cell? ⟨gb, i * 2 + 1, none⟩ = some v') (hgb : gb < W.heap.size) (hz : zs[i]? = some z) (hs : SlR RSigned 5 W W.heap.size v' sets') (hc : zs.length ≤ c) (hl : zs.length ≤ 140737488355328) :
    SlR RZone 2 W W.heap.size (.slice (some ⟨gb, 0, none⟩) zs.length c) (zs.set i ⟨z.apex, sets'⟩) := by
  refine ⟨some ⟨gb, 0, none⟩, c, by simp, by simpa using hc, by simpa using hl, fun j x hx => ?_⟩
  by_cases hj : j = i
  · subst hj
    have hjl := (List.getElem?_eq_some_iff.1 hz).1
    rw [List.getElem?_set_self hjl] at hx
    cases hx
    obtain ⟨r, h1, ⟨s, sv, h2, h3, h4, rfl⟩, h5⟩ := h j z hz
    refine ⟨gb, 0, [.string s, v'], rfl, hgb, rfl, fun k u hk => ?_, s, v', h2, h3, hs, rfl⟩
    match k, hk with
    | 0, hk =>
      simp at hk; subst hk
      have := h5 0 _ rfl
      rw [show 0 + j * 2 + 0 = j * 2 + 0 by omega, hcell _ (by omega)]; exact this
    | 1, hk => simp at hk; subst hk; rw [show 0 + j * 2 + 1 = j * 2 + 1 by omega]; exact hv
    | k + 2, hk => simp at hk
  · rw [List.getElem?_set_ne (fun e => hj e.symm)] at hx
    obtain ⟨r, h1, h2, h5⟩ := h j x hx
    refine ⟨gb, 0, r, rfl, hgb, h1, fun k u hk => ?_, rzone_more _ _ _ _ _ (rzone_kept _ _ _ _ _ h2 hb) hB⟩
    have hk2 : k < 2 := by have := (List.getElem?_eq_some_iff.1 hk).1; omega
    rw [show 0 + j * 2 + k = j * 2 + k by omega, hcell _ (by omega)]
    exact h5 k u hk
theorem flatten_set {sz : Nat} : ∀ (rows : List (List Value)) (i j : Nat) (r : List Value) (u : Value), (∀ q ∈ rows, q.length = sz) → rows[i]? = some r → j < sz → (rows.set i (r.set j u)).flatten = rows.flatten.set (i * sz + j) u := by
  intro rows
  induction rows with
  | nil => intro i j r u _ h; simp at h
  | cons q rows ih =>
    intro i j r u hq h hj
    have hl : q.length = sz := hq q (by simp)
    cases i with
    | zero =>
      simp at h; subst h
      simp only [List.set_cons_zero, List.flatten_cons, Nat.zero_mul, Nat.zero_add]
      rw [List.set_append_left _ _ (by omega)]
    | succ i =>
      simp only [List.set_cons_succ, List.flatten_cons]
      rw [List.set_append_right _ _ (by rw [Nat.succ_mul]; omega), hl, show (i + 1) * sz + j - sz = i * sz + j by rw [Nat.succ_mul]; omega]
      rw [ih i j r u (fun q hq' => hq q (by simp [hq'])) (by simpa using h) hj]
/-- The zones, one of which has a row of the call's own for its sets: still a row of the call's own. -/
theorem bad_own {w3 w4 : World} {B gb c i base : Nat} {zs : List Np.Zone} {z : Np.Zone} {s : ByteArray} {sv : Value} {A4 : Option Addr} {n4 p4 : Nat} (h : OwnR RZone 2 32 base B w3 (.slice (some ⟨gb, 0, none⟩) zs.length c) zs) (hB : B ≤ gb) (hb : Below w3.heap.size w3 w4) (hgb : gb < w3.heap.size)
    (hz : zs[i]? = some z) (hs1 : s.data.toList = z.apex) (hs2 : s.size ≤ 140737488355328) (e0 : w3.cell? ⟨gb, i * 2, none⟩ = some (.string s)) (e1 : w3.cell? ⟨gb, i * 2 + 1, none⟩ = some sv)
    (ho : OwnR RSigned 5 41 w3.heap.size B w4 (.slice A4 n4 p4) z.sets) (hl : z.sets.length ≤ 300) :
    OwnM RZone 2 32 base (fun k => k = gb) (w4.setCell ⟨gb, i * 2 + 1, none⟩ (.slice A4 n4 p4)) (.slice (some ⟨gb, 0, none⟩) zs.length c) zs := by
  obtain ⟨rows, h1, h2, h3⟩ := h
  have hlr := OwnR.rows_len h1 h3
  have hi := (List.getElem?_eq_some_iff.1 hz).1
  have hr := List.getElem?_eq_getElem (l := rows) (i := i) (by omega)
  have h4 : w4.ownsRow base 32 2 (.slice (some ⟨gb, 0, none⟩) zs.length c) zs.length rows.flatten := ownsRow_keep h2 (fun g hg => hb.block g (h2.lt g hg).2)
  have h5 := (h4.stored (i * 2 + 1) (.slice A4 n4 p4)).1
  rw [← flatten_set (sz := 2) rows i 1 _ _ hlr hr (by omega)] at h5
  obtain ⟨h6, h7⟩ := h3 i _ _ hr hz
  obtain ⟨s', sv', h8, h9, h10, h11⟩ := h7
  have hcells := fun j u hj => h2.cells (g := gb) rfl _ _ (flatten_at rows i j _ u hlr hr hj)
  have hadd : ∀ j, (⟨gb, 0, none⟩ : Addr).add (i * 2 + j) = ⟨gb, i * 2 + j, none⟩ := fun j => by unfold Addr.add; split <;> simp_all
  have hc0 := hcells 0 (.string s') (by rw [h11]; rfl)
  rw [hadd, Nat.add_zero, e0] at hc0
  cases hc0
  have hbW : Below B w3 (sansP (w4.setCell ⟨gb, i * 2 + 1, none⟩ (.slice A4 n4 p4)) (fun k => k = gb)) :=
    ⟨hb.os, hb.tape, hb.output, by rw [sansP_size]; simpa [World.setCell] using hb.size, fun k hk => by
      have hkg : k ≠ gb := by omega
      rw [sansP_out (M := fun k => k = gb) (k := k) hkg, Below.heap_setCell _ _ _ _ hkg]
      exact hb.block k (by omega)⟩
  have hbW4 : Below B w4 (sansP (w4.setCell ⟨gb, i * 2 + 1, none⟩ (.slice A4 n4 p4)) (fun k => k = gb)) :=
    ⟨rfl, rfl, rfl, by rw [sansP_size]; simp [World.setCell], fun k hk => by
      have hkg : k ≠ gb := by omega
      rw [sansP_out (M := fun k => k = gb) (k := k) hkg, Below.heap_setCell _ _ _ _ hkg]⟩
  have hsz : (sansP (w4.setCell ⟨gb, i * 2 + 1, none⟩ (.slice A4 n4 p4)) (fun k => k = gb)).heap.size = (w4.setCell ⟨gb, i * 2 + 1, none⟩ (.slice A4 n4 p4)).heap.size := sansP_size _ _
  have hBs : B ≤ (w4.setCell ⟨gb, i * 2 + 1, none⟩ (.slice A4 n4 p4)).heap.size := by have := hb.size; simp [World.setCell]; omega
  refine ⟨rows.set i (rows[i].set 1 (.slice A4 n4 p4)), by simp [h1], h5, fun g hg => by simp [Value.ownBlock] at hg; exact hg.symm, fun j r x hrj hx => ?_⟩
  by_cases hj : j = i
  · subst hj
    rw [List.getElem?_set_self (by omega)] at hrj
    cases hrj
    rw [hz] at hx
    cases hx
    refine ⟨by simp [h6], s, .slice A4 n4 p4, hs1, hs2, ?_, by rw [h11]; rfl⟩
    rw [← hsz]
    refine OwnR.slr (ho.keepB rsigned_kept hbW4 (fun g hg => ?_)) rsigned_more (by rw [hsz]; exact hBs) (by omega)
    have hgg : g ≠ gb := by
      obtain ⟨_, _, hoo, _⟩ := ho
      have := (hoo.lt g hg).1
      omega
    rw [sansP_out (M := fun k => k = gb) (k := g) hgg, Below.heap_setCell _ _ _ _ hgg]
  · rw [List.getElem?_set_ne (fun e => hj e.symm)] at hrj
    obtain ⟨k1, k2⟩ := h3 j r x hrj hx
    exact ⟨k1, rzone_more _ _ _ _ _ (rzone_kept _ _ _ _ _ k2 hbW) hBs⟩
theorem own_sans {W : World} {B gb base : Nat} {v : Value} {xs : List Np.Signed} (ho : OwnR RSigned 5 41 base B W v xs) (hB : B ≤ gb) (hbase : gb < base) (hW : B ≤ W.heap.size) (hl : xs.length ≤ 1000) : SlR RSigned 5 (sansP W (fun k => k = gb)) W.heap.size v xs := by
  have hb : Below B W (sansP W (fun k => k = gb)) := ⟨rfl, rfl, rfl, by rw [sansP_size]; exact Nat.le_refl _, fun k hk => sansP_out (M := fun k => k = gb) (k := k) (by omega)⟩
  have hsz : (sansP W (fun k => k = gb)).heap.size = W.heap.size := sansP_size _ _
  rw [← hsz]
  refine OwnR.slr (ho.keepB rsigned_kept hb (fun g hg => ?_)) rsigned_more (by rw [hsz]; exact hW) (by omega)
  obtain ⟨_, _, hoo, _⟩ := ho
  exact sansP_out (M := fun k => k = gb) (k := g) (by have := (hoo.lt g hg).1; omega)
/-- The sets, one of which has other signatures now. -/
theorem sig_slr {W6 W : World} {B g4 c k : Nat} {l : List Np.Signed} {x : Np.Signed} {gv : Value} {sg : List Np.Sig} (h : ∀ j y, l[j]? = some y → ∃ r, r.length = 5 ∧ RSigned W6 B r y ∧ CellsAt W6 g4 (j * 5) r) (hb : Below B W6 W) (hB : B ≤ W.heap.size)
    (hcell : ∀ o, o ≠ k * 5 + 4 → W.cell? ⟨g4, o, none⟩ = W6.cell? ⟨g4, o, none⟩) (hv : W.cell? ⟨g4, k * 5 + 4, none⟩ = some gv) (hg : g4 < W.heap.size) (hx : l[k]? = some x) (hs : SlR RSig 6 W W.heap.size gv sg) (hc : l.length ≤ c) (hl : l.length ≤ 140737488355328) :
    SlR RSigned 5 W W.heap.size (.slice (some ⟨g4, 0, none⟩) l.length c) (l.set k ⟨x.set, sg⟩) := by
  refine ⟨some ⟨g4, 0, none⟩, c, by simp, by simpa using hc, by simpa using hl, fun j y hy => ?_⟩
  by_cases hj : j = k
  · subst hj
    have hjl := (List.getElem?_eq_some_iff.1 hx).1
    rw [List.getElem?_set_self hjl] at hy
    cases hy
    obtain ⟨r, h1, ⟨s, v, u, h2, h3, h4, _, rfl⟩, h5⟩ := h j x hx
    refine ⟨g4, 0, [.string s, .int .i64 x.set.type, .int .i64 x.set.life, v, gv], rfl, hg, rfl, fun q w' hq => ?_, s, v, gv, h2, h3, (h4.keep rdatum_kept hb).more rdatum_more hB, hs, rfl⟩
    by_cases hq4 : q = 4
    · subst hq4
      simp at hq; subst hq
      rw [show 0 + j * 5 + 4 = j * 5 + 4 by omega]; exact hv
    · have hq5 : q < 4 := by have := (List.getElem?_eq_some_iff.1 hq).1; simp at this; omega
      have := h5 q w' (by
        match q, hq5, hq with
        | 0, _, hq => exact hq
        | 1, _, hq => exact hq
        | 2, _, hq => exact hq
        | 3, _, hq => exact hq)
      rw [show 0 + j * 5 + q = j * 5 + q by omega, hcell _ (by omega)]; exact this
  · rw [List.getElem?_set_ne (fun e => hj e.symm)] at hy
    obtain ⟨r, h1, h2, h5⟩ := h j y hy
    refine ⟨g4, 0, r, rfl, hg, h1, fun q u hq => ?_, rsigned_more _ _ _ _ _ (rsigned_kept _ _ _ _ _ h2 hb) hB⟩
    have hq2 : q < 5 := by have := (List.getElem?_eq_some_iff.1 hq).1; omega
    rw [show 0 + j * 5 + q = j * 5 + q by omega, hcell _ (by omega)]
    exact h5 q u hq
/-- A new block with one element. -/
theorem OwnR.one_new {α : Type} {R : World → Nat → List Value → α → Prop} {sz : Nat} {e : TypeId} {base B g : Nat} {w : World} {r : List Value} {x : α} (hg : g = w.heap.size) (hb : base ≤ w.heap.size) (hl : r.length = sz) (hr : R (w.alloc (.cells r.toArray e)) B r x) : OwnR R sz e base B (w.alloc (.cells r.toArray e)) (.slice (some ⟨g, 0, none⟩) 1 1) [x] := by
  subst hg
  refine ⟨[r], rfl, ⟨by simp [hl], .inr ⟨w.heap.size, 1, r.toArray, rfl, hb, heap_alloc_new _ _, Nat.le_refl _, by simp [maxLen], by simp [hl], by simp; exact List.take_of_length_le (by omega)⟩⟩, fun i r' x' h1 h2 => ?_⟩
  cases i with
  | zero => simp at h1 h2; subst h1; subst h2; exact ⟨hl, hr⟩
  | succ i => simp at h1
/-- Case 0 of PrinterRefuses: what is printed. -/
theorem read0 {w3 W6 : World} {B gb g4 c3 p4 i k : Nat} {zs : List Np.Zone} {z : Np.Zone} {x : Np.Signed} {s : ByteArray} {u5 : Value} (hrow : ∀ j y, zs[j]? = some y → ∃ r, r.length = 2 ∧ RZone w3 B r y ∧ CellsAt w3 gb (j * 2) r) (hb6 : Below B w3 W6)
    (hc6 : ∀ o, o ≠ i * 2 + 1 → W6.cell? ⟨gb, o, none⟩ = w3.cell? ⟨gb, o, none⟩) (k1 : W6.cell? ⟨gb, i * 2 + 1, none⟩ = some (.slice (some ⟨g4, 0, none⟩) z.sets.length p4)) (hr4 : ∀ j y, z.sets[j]? = some y → ∃ r, r.length = 5 ∧ RSigned W6 B r y ∧ CellsAt W6 g4 (j * 5) r)
    (hz : zs[i]? = some z) (hx : z.sets[k]? = some x) (hs1 : s.data.toList = z.apex) (hs2 : s.size ≤ 140737488355328) (y4 : W6.cell? ⟨g4, k * 5 + 4, none⟩ = some u5) (hne : ¬ g4 = gb) (hB4 : B ≤ g4) (hB : B ≤ W6.heap.size) (hgb : gb < W6.heap.size) (hg4 : g4 < W6.heap.size)
    (hc : zs.length ≤ c3) (hl : zs.length ≤ 10) (hc4 : z.sets.length ≤ p4) (hl4 : z.sets.length ≤ 300) :
    SlR RZone 2 ((W6.setCell ⟨g4, k * 5 + 4, none⟩ (.slice (some ⟨W6.heap.size, 0, none⟩) 1 1)).alloc (.cells #[.string s, .int .i64 1, .int .i64 1, .int .i64 0, .int .i64 0, .int .u64 0] 35)).drew
      ((W6.setCell ⟨g4, k * 5 + 4, none⟩ (.slice (some ⟨W6.heap.size, 0, none⟩) 1 1)).alloc (.cells #[.string s, .int .i64 1, .int .i64 1, .int .i64 0, .int .i64 0, .int .u64 0] 35)).drew.heap.size
      (.slice (some ⟨gb, 0, none⟩) zs.length c3) (zs.set i ⟨z.apex, z.sets.set k ⟨x.set, [⟨z.apex, 1, 1, 0, 0, 0⟩]⟩⟩) := by
  have hset : (W6.setCell ⟨g4, k * 5 + 4, none⟩ (.slice (some ⟨W6.heap.size, 0, none⟩) 1 1)).heap.size = W6.heap.size := by simp [World.setCell]
  have hbs : Below B W6 (W6.setCell ⟨g4, k * 5 + 4, none⟩ (.slice (some ⟨W6.heap.size, 0, none⟩) 1 1)) := Below.setCell (Below.refl B W6) (p := ⟨g4, k * 5 + 4, none⟩) hB4 _
  have hbd : Below B W6 ((W6.setCell ⟨g4, k * 5 + 4, none⟩ (.slice (some ⟨W6.heap.size, 0, none⟩) 1 1)).alloc (.cells #[.string s, .int .i64 1, .int .i64 1, .int .i64 0, .int .i64 0, .int .u64 0] 35)).drew := (hbs.alloc (by rw [hset]; exact hB) _).drew
  have hcell : ∀ b o, b < W6.heap.size → ((W6.setCell ⟨g4, k * 5 + 4, none⟩ (.slice (some ⟨W6.heap.size, 0, none⟩) 1 1)).alloc (.cells #[.string s, .int .i64 1, .int .i64 1, .int .i64 0, .int .i64 0, .int .u64 0] 35)).drew.cell? ⟨b, o, none⟩ = (W6.setCell ⟨g4, k * 5 + 4, none⟩ (.slice (some ⟨W6.heap.size, 0, none⟩) 1 1)).cell? ⟨b, o, none⟩ := fun b o h => World.cell?_alloc_lt _ _ _ (by rw [hset]; exact h)
  have hsig : SlR RSig 6 ((W6.setCell ⟨g4, k * 5 + 4, none⟩ (.slice (some ⟨W6.heap.size, 0, none⟩) 1 1)).alloc (.cells #[.string s, .int .i64 1, .int .i64 1, .int .i64 0, .int .i64 0, .int .u64 0] 35)).drew
      ((W6.setCell ⟨g4, k * 5 + 4, none⟩ (.slice (some ⟨W6.heap.size, 0, none⟩) 1 1)).alloc (.cells #[.string s, .int .i64 1, .int .i64 1, .int .i64 0, .int .i64 0, .int .u64 0] 35)).drew.heap.size (.slice (some ⟨W6.heap.size, 0, none⟩) 1 1) [⟨z.apex, 1, 1, 0, 0, 0⟩] := by
    have h0 := cellsAt_new (W6.setCell ⟨g4, k * 5 + 4, none⟩ (.slice (some ⟨W6.heap.size, 0, none⟩) 1 1)) #[.string s, .int .i64 1, .int .i64 1, .int .i64 0, .int .i64 0, .int .u64 0] 35
    rw [hset] at h0
    refine slr_block (xs := [(⟨z.apex, 1, 1, 0, 0, 0⟩ : Np.Sig)]) (fun j v hj => h0 j v hj) (by simp [hset]) (by simp) (by simp) (fun j y hy => ?_)
    match j, hy with
    | 0, hy => simp at hy; subst hy; exact ⟨_, rfl, rfl, s, hs1, hs2, rfl⟩
    | j + 1, hy => simp at hy
  refine bad_slr (v' := .slice (some ⟨g4, 0, none⟩) z.sets.length p4) hrow (hb6.trans hbd) (Nat.le_trans hB hbd.size) (fun o ho => ?_) ?_ (Nat.lt_of_lt_of_le hgb hbd.size) hz (sig_slr hr4 hbd (Nat.le_trans hB hbd.size) (fun o ho => ?_) ?_ (Nat.lt_of_lt_of_le hg4 hbd.size) hx hsig hc4 (by omega)) hc (by omega)
  · rw [hcell _ _ hgb, World.cell?_setCell_other _ _ _ _ (fun e => hne (congrArg Addr.block e))]; exact hc6 o ho
  · rw [hcell _ _ hgb, World.cell?_setCell_other _ _ _ _ (fun e => hne (congrArg Addr.block e))]; exact k1
  · rw [hcell _ _ hg4]; exact World.cell?_setCell_other _ _ _ _ (by intro e; cases e; exact ho rfl)
  · rw [hcell _ _ hg4]; simp [World.cell?_setCell_same, y4]
theorem OwnM.formN {α : Type} {R : World → Nat → List Value → α → Prop} {sz : Nat} {e : TypeId} {base : Nat} {M : Nat → Prop} {w : World} {v : Value} {xs : List α} (h : OwnM R sz e base M w v xs) : ∃ A n c, v = .slice A n c ∧ Hid (n = xs.length) := by
  obtain ⟨A, c, h⟩ := h.form
  exact ⟨A, _, c, h, rfl⟩
theorem OwnR.formN {α : Type} {R : World → Nat → List Value → α → Prop} {sz : Nat} {e : TypeId} {base B : Nat} {w : World} {v : Value} {xs : List α} (h : OwnR R sz e base B w v xs) : ∃ A n c, v = .slice A n c ∧ Hid (n = xs.length) := by
  obtain ⟨A, c, h⟩ := h.form
  exact ⟨A, _, c, h, rfl⟩
theorem own_sansM {W : World} {M : Nat → Prop} {B base : Nat} {v : Value} {xs : List Np.Signed} (ho : OwnR RSigned 5 41 base B W v xs) (hM : ∀ k, M k → B ≤ k) (hv : ∀ g, v.ownBlock = some g → ¬ M g) (hW : B ≤ W.heap.size) (hl : xs.length ≤ 1000) : SlR RSigned 5 (sansP W M) W.heap.size v xs := by
  have hb : Below B W (sansP W M) := ⟨rfl, rfl, rfl, by rw [sansP_size]; exact Nat.le_refl _, fun k hk => sansP_out (fun e => by have := hM k e; omega)⟩
  have hsz : (sansP W M).heap.size = W.heap.size := sansP_size _ _
  rw [← hsz]
  exact OwnR.slr (ho.keepB rsigned_kept hb (fun g hg => sansP_out (hv g hg))) rsigned_more (by rw [hsz]; exact hW) (by omega)
theorem OwnM.one_new {α : Type} {R : World → Nat → List Value → α → Prop} {sz : Nat} {e : TypeId} {base : Nat} {M : Nat → Prop} {w : World} {r : List Value} {x : α} (hb : base ≤ w.heap.size) (hM : M w.heap.size) (hl : r.length = sz) (hr : R (sansP (w.alloc (.cells r.toArray e)).drew M) (w.alloc (.cells r.toArray e)).drew.heap.size r x) : OwnM R sz e base M (w.alloc (.cells r.toArray e)).drew (.slice (some ⟨w.heap.size, 0, none⟩) 1 1) [x] := by
  refine ⟨[r], rfl, ⟨by simp [hl], .inr ⟨w.heap.size, 1, r.toArray, rfl, hb, heap_alloc_new _ _, Nat.le_refl _, by simp [maxLen], by simp [hl], by simp; exact List.take_of_length_le (by omega)⟩⟩, fun g hg => by cases hg; exact hM, fun i r' x' h1 h2 => ?_⟩
  cases i with
  | zero => simp at h1 h2; subst h1; subst h2; exact ⟨hl, hr⟩
  | succ i => simp at h1
/-- A slice that lies in one block, read around the mutable ones. -/
theorem slr_sans {α : Type} {R : World → Nat → List Value → α → Prop} {sz : Nat} {w : World} {M : Nat → Prop} {B g cap : Nat} {cs : List Value} {xs : List α} (hc : CellsAt w g 0 cs) (hM : ¬ M g) (hg : g < B) (hcap : xs.length ≤ cap) (hl : xs.length ≤ 140737488355328)
    (h : ∀ i x, xs[i]? = some x → ∃ e, e.length = sz ∧ (∀ j v, e[j]? = some v → cs[i * sz + j]? = some v) ∧ R (sansP w M) B e x) : SlR R sz (sansP w M) B (.slice (some ⟨g, 0, none⟩) xs.length cap) xs := by
  refine ⟨_, cap, rfl, hcap, hl, fun i x hx => ?_⟩
  obtain ⟨e, h1, h2, h3⟩ := h i x hx
  refine ⟨g, 0, e, rfl, hg, h1, fun j v hj => ?_, h3⟩
  rw [sansP_cell_of hM]
  have := hc (i * sz + j) v (h2 j v hj)
  rw [show 0 + i * sz + j = 0 + (i * sz + j) by omega]
  exact this
theorem read_set {w3 W6 w9 : World} {B gb c3 i : Nat} {zs : List Np.Zone} {z : Np.Zone} {sets' : List Np.Signed} {v9 u : Value} (hrow : ∀ j y, zs[j]? = some y → ∃ r, r.length = 2 ∧ RZone w3 B r y ∧ CellsAt w3 gb (j * 2) r) (hb6 : Below B w3 W6)
    (hc6 : ∀ o, o ≠ i * 2 + 1 → W6.cell? ⟨gb, o, none⟩ = w3.cell? ⟨gb, o, none⟩) (hb9 : Below W6.heap.size W6 w9) (q1 : w9.cell? ⟨gb, i * 2 + 1, none⟩ = some u) (hgb : gb < W6.heap.size) (hB : B ≤ gb) (hz : zs[i]? = some z)
    (hs : SlR RSigned 5 (w9.setCell ⟨gb, i * 2 + 1, none⟩ v9) (w9.setCell ⟨gb, i * 2 + 1, none⟩ v9).heap.size v9 sets') (hc : zs.length ≤ c3) (hl : zs.length ≤ 10) :
    SlR RZone 2 (w9.setCell ⟨gb, i * 2 + 1, none⟩ v9) (w9.setCell ⟨gb, i * 2 + 1, none⟩ v9).heap.size (.slice (some ⟨gb, 0, none⟩) zs.length c3) (zs.set i ⟨z.apex, sets'⟩) := by
  have hset : (w9.setCell ⟨gb, i * 2 + 1, none⟩ v9).heap.size = w9.heap.size := by simp [World.setCell]
  have h9 := hb9.size
  have hbs : Below B w9 (w9.setCell ⟨gb, i * 2 + 1, none⟩ v9) := Below.setCell (Below.refl B w9) (p := ⟨gb, i * 2 + 1, none⟩) hB _
  refine bad_slr (v' := v9) hrow (hb6.trans ((hb9.mono (by omega)).trans hbs)) (by omega) (fun o ho => ?_) ?_ (by omega) hz hs hc (by omega)
  · rw [World.cell?_setCell_other _ _ _ _ (by intro e; cases e; exact ho rfl), hb9.cell hgb]; exact hc6 o ho
  · simp [World.cell?_setCell_same, q1]
end Go.Proofs.YtnbolgdccdnjeaaGreatDoor
/- PrinterRefuses: a row of the call's own, cut in two. -/
namespace Go.Proofs.YtnbolgdccdnjeaaGreatDoor
open Go.RowKit
theorem flatten_take {sz : Nat} : ∀ (rows : List (List Value)) (k : Nat), (∀ q ∈ rows, q.length = sz) → k ≤ rows.length → rows.flatten.take (k * sz) = (rows.take k).flatten ∧ rows.flatten.drop (k * sz) = (rows.drop k).flatten := by
  intro rows
  induction rows with
  | nil => intro k _ hk; have : k = 0 := by simpa using hk
           subst this; simp
  | cons q rows ih =>
    intro k hq hk
    have hl : q.length = sz := hq q (by simp)
    cases k with
    | zero => simp
    | succ k =>
      obtain ⟨h1, h2⟩ := ih k (fun x hx => hq x (by simp [hx])) (by simpa using hk)
      simp only [List.flatten_cons, List.take_succ_cons, List.drop_succ_cons]
      have e1 : (k + 1) * sz = q.length + k * sz := by rw [hl, Nat.succ_mul]; omega
      rw [e1, List.take_length_add_append, List.drop_length_add_append, h1, h2]
      exact ⟨rfl, rfl⟩
theorem OwnR.toM {α : Type} {R : World → Nat → List Value → α → Prop} (hk : KeptR R) (hm : MoreR R) {sz : Nat} {e : TypeId} {base B : Nat} {M : Nat → Prop} {w : World} {v : Value} {xs : List α} (h : OwnR R sz e base B w v xs) (hM : ∀ k, M k → B ≤ k) (hv : ∀ g, v.ownBlock = some g → M g) (hB : B ≤ w.heap.size) : OwnM R sz e base M w v xs := by
  obtain ⟨rows, h1, h2, h3⟩ := h
  have hb : Below B w (sansP w M) := ⟨rfl, rfl, rfl, by rw [sansP_size]; exact Nat.le_refl _, fun k hk => sansP_out (fun e => by have := hM k e; omega)⟩
  exact ⟨rows, h1, h2, hv, fun i r x hr hx => ⟨(h3 i r x hr hx).1, hm _ _ _ _ _ (hk _ _ _ _ _ (h3 i r x hr hx).2 hb) hB⟩⟩
theorem OwnM.front {α : Type} {R : World → Nat → List Value → α → Prop} {sz : Nat} {e : TypeId} {base g c n k : Nat} {M : Nat → Prop} {w : World} {xs : List α} (h : OwnM R sz e base M w (.slice (some ⟨g, 0, none⟩) n c) xs) (hn : n = xs.length) (hk : k ≤ xs.length) : OwnM R sz e base M w (.slice (some ⟨g, 0, none⟩) k c) (xs.take k) := by
  subst hn
  obtain ⟨rows, h1, h2, h3, h4⟩ := h
  have hl := OwnR.rows_len (w := sansP w M) (B := w.heap.size) h1 h4
  have hlen : (xs.take k).length = k := by simp; omega
  refine ⟨rows.take k, by simp [h1], ?_, fun g' hg => h3 g' hg, fun i r x hr hx => ?_⟩
  · rcases h2.2 with ⟨h', _⟩ | ⟨g', cap', cur, h', hb, hg, hnc, hcm, hcs, htake⟩
    · cases h'
    · cases h'
      rw [hlen]
      refine ⟨?_, .inr ⟨g, c, cur, rfl, hb, hg, by omega, hcm, hcs, ?_⟩⟩
      · rw [flatten_len (sz := sz) _ (fun q hq => hl q (List.mem_of_mem_take hq))]; simp; rw [Nat.min_eq_left (by omega)]
      · rw [← (flatten_take rows k hl (by omega)).1, ← htake, List.take_take, Nat.min_eq_left (Nat.mul_le_mul_right _ hk)]
  · rw [List.getElem?_take] at hr hx
    split at hr
    · rename_i hik
      rw [if_pos hik] at hx
      exact h4 i r x hr hx
    · cases hr
theorem OwnM.tail {α : Type} {R : World → Nat → List Value → α → Prop} {sz : Nat} {e : TypeId} {base g c n k : Nat} {M : Nat → Prop} {w : World} {xs : List α} {A : Option Addr} (h : OwnM R sz e base M w (.slice (some ⟨g, 0, none⟩) n c) xs) (hk : k ≤ xs.length) (hA : xs.drop k ≠ [] → A = some ⟨g, k * sz, none⟩) : RowsM R sz M w A (xs.drop k) := by
  obtain ⟨rows, h1, h2, h3, h4⟩ := h
  have hl := OwnR.rows_len (w := sansP w M) (B := w.heap.size) h1 h4
  refine ⟨rows.drop k, by simp [h1], fun i r x hr hx => ?_, fun hy => ⟨g, k * sz, hA hy, fun j u hj => ?_⟩⟩
  · rw [List.getElem?_drop] at hr hx
    exact h4 _ r x hr hx
  · rw [← (flatten_take rows k hl (by omega)).2, List.getElem?_drop] at hj
    have := h2.cells (g := g) rfl _ _ hj
    have e1 : (⟨g, 0, none⟩ : Addr).add (k * sz + j) = (⟨g, k * sz, none⟩ : Addr).add j := by unfold Addr.add; split <;> split <;> simp_all
    rw [e1] at this
    exact this
/-- A row of the call's own, as a slice whose cells read. -/
theorem OwnM.rowsM {α : Type} {R : World → Nat → List Value → α → Prop} {sz : Nat} {e : TypeId} {base n c : Nat} {M : Nat → Prop} {w : World} {xs : List α} {A : Option Addr} (h : OwnM R sz e base M w (.slice A n c) xs) : RowsM R sz M w A xs := by
  obtain ⟨rows, h1, h2, h3, h4⟩ := h
  refine ⟨rows, h1, h4, fun hy => ?_⟩
  rcases h2.2 with ⟨h', h0⟩ | ⟨g', cap', cur, h', hb, hg, hnc, hcm, hcs, htake⟩
  · exact absurd (List.eq_nil_of_length_eq_zero h0) hy
  · cases h'
    exact ⟨g', 0, rfl, fun j u hj => h2.cells (g := g') rfl _ _ hj⟩
theorem OwnM.moreM {α : Type} {R : World → Nat → List Value → α → Prop} (hk : KeptR R) (hs : SansR R) (hm : MoreR R) {sz : Nat} {e : TypeId} {base : Nat} {M M' : Nat → Prop} {w : World} {v : Value} {xs : List α} (h : OwnM R sz e base M w v xs) (h1 : ∀ k, M k → M' k) (h2 : ∀ k, M' k → M k) : OwnM R sz e base M' w v xs :=
  h.leaves hk hs hm ((Leaves'.refl M w).more (fun k e => .inl (h2 k e))) (fun g hg => ⟨rfl, h1 g (by obtain ⟨_, _, _, h3, _⟩ := h; exact h3 g hg)⟩)
theorem step_append_M2 {P : Program} {α : Type} {R : World → Nat → List Value → α → Prop} {sz : Nat} {M : Nat → Prop} (w : World) {ops : Array Oper} {o : Oper} {a : Act} {K : Act → World → Prop} {Q : Exit → Act → World → Prop} {E : Prop} (hgd : o.guard = none) (s x : Operand) (t : TypeId)
    (ho : o.op = .call { callee := .builtin .append, args := #[s, x], argTypes := #[t, t] })
    (base : Nat) (e : TypeId) (i : TypeInfo) (z : Value) (bytes : Nat) (ht : P.underlying t = some (.slice e)) (hi : P.info? e = some i) (hz : i.zero = some z) (hsize : i.size = sz) (hby : i.bytes = bytes) (hzs : z.cells.size = sz) (hsz : 0 < sz)
    (v : Value) (xs : List α) (hv : a.eval s = v) (hown : OwnM R sz e base M w v xs) (A : Option Addr) (m c : Nat) (ys : List α) (hm' : m = ys.length) (hx : a.eval x = .slice A m c) (hsl : RowsM R sz M w A ys)
    (hone : ∀ w B r y, R w B r y → ∀ u ∈ r, u.oneCell' = true) (h63 : xs.length + ys.length ≤ maxLen) (hbytes : (xs.length + ys.length) * bytes ≤ 140737488355328) (hbase : base ≤ w.heap.size) (hk : KeptR R) (hs : SansR R) (hm : MoreR R)
    (h : ∀ v' w', OwnM R sz e base (fun k => M k ∨ v'.ownBlock = some k) w' v' (xs ++ ys) → w.grownBy w' v.ownBlock → (v'.ownBlock = v.ownBlock ∨ v'.ownBlock = some w.heap.size) → K (a.put o.dst v') w') :
    if Region.wanted o (yielded ops a.tmps) = true then Oper.wp P o a w K Q else E := by
  subst hm'
  exact step_append_M w hgd s x t ho base e i z bytes ht hi hz hsize hby hzs hsz v xs hv hown A c ys hx hsl hone h63 hbytes hbase hk hs hm h
theorem read_set2 {w3 W6 w9 : World} {B gb c3 i : Nat} {zs : List Np.Zone} {z : Np.Zone} {sets' : List Np.Signed} {v9 u : Value} (hrow : ∀ j y, zs[j]? = some y → ∃ r, r.length = 2 ∧ RZone w3 B r y ∧ CellsAt w3 gb (j * 2) r) (hb6 : Below B w3 W6)
    (hc6 : ∀ o, o ≠ i * 2 + 1 → W6.cell? ⟨gb, o, none⟩ = w3.cell? ⟨gb, o, none⟩) (hb9 : Below B W6 w9) (hc9 : w9.heap[gb]? = W6.heap[gb]?) (q1 : w9.cell? ⟨gb, i * 2 + 1, none⟩ = some u) (hgb : gb < W6.heap.size) (hB : B ≤ gb) (hz : zs[i]? = some z)
    (hs : SlR RSigned 5 (w9.setCell ⟨gb, i * 2 + 1, none⟩ v9) (w9.setCell ⟨gb, i * 2 + 1, none⟩ v9).heap.size v9 sets') (hc : zs.length ≤ c3) (hl : zs.length ≤ 10) :
    SlR RZone 2 (w9.setCell ⟨gb, i * 2 + 1, none⟩ v9) (w9.setCell ⟨gb, i * 2 + 1, none⟩ v9).heap.size (.slice (some ⟨gb, 0, none⟩) zs.length c3) (zs.set i ⟨z.apex, sets'⟩) := by
  have hset : (w9.setCell ⟨gb, i * 2 + 1, none⟩ v9).heap.size = w9.heap.size := by simp [World.setCell]
  have h9 := hb9.size
  have hbs : Below B w9 (w9.setCell ⟨gb, i * 2 + 1, none⟩ v9) := Below.setCell (Below.refl B w9) (p := ⟨gb, i * 2 + 1, none⟩) hB _
  refine bad_slr (v' := v9) hrow (hb6.trans (hb9.trans hbs)) (by omega) (fun o ho => ?_) ?_ (by omega) hz hs hc (by omega)
  · rw [World.cell?_setCell_other _ _ _ _ (by intro e; cases e; exact ho rfl), World.cell?_of_block (w := W6) hc9]; exact hc6 o ho
  · simp [World.cell?_setCell_same, q1]
theorem hat_more {o : Option Nat} {g n : Nat} {M : Nat → Prop} (hat : o = some g ∨ o = some n) (hM : M g) : ∀ q, (M q ∨ o = some q) → M q ∨ n ≤ q := fun q e => by
  rcases e with e | e
  · exact .inl e
  · rcases hat with h | h
    · rw [h] at e; cases e; exact .inl hM
    · rw [h] at e; cases e; exact .inr (Nat.le_refl _)
/-- Case 1 of PrinterRefuses: what is printed. -/
def Printed (w : World) (gb n c : Nat) (zs : List Np.Zone) (wx : World) : Prop := SlR RZone 2 wx wx.heap.size (.slice (some ⟨gb, 0, none⟩) n c) zs ∧ Below w.heap.size w wx
theorem fin1 {w w3 W6 w8 w9 : World} {B gb g4 c3 i n9 c9 : Nat} {M9 : Nat → Prop} {A9 : Option Addr} {zs : List Np.Zone} {z : Np.Zone} {sets' : List Np.Signed} {u : Value} (hrow : ∀ j y, zs[j]? = some y → ∃ r, r.length = 2 ∧ RZone w3 B r y ∧ CellsAt w3 gb (j * 2) r) (hb6 : Below B w3 W6)
    (hc6 : ∀ o, o ≠ i * 2 + 1 → W6.cell? ⟨gb, o, none⟩ = w3.cell? ⟨gb, o, none⟩) (hb8 : Below W6.heap.size W6 w8) (hg9 : w8.grownBy w9 (some g4)) (hblk : w9.heap[gb]? = w8.heap[gb]?) (ho9 : OwnM RSigned 5 41 w3.heap.size M9 w9 (.slice A9 n9 c9) sets') (hM : M9 gb)
    (q3 : w9.cell? ⟨gb, i * 2 + 1, none⟩ = some u) (hgb : gb < W6.heap.size) (hB : B ≤ gb) (hgb1 : gb < w3.heap.size) (hg4 : w3.heap.size ≤ g4) (hz : zs[i]? = some z) (hc : zs.length ≤ c3) (hl : zs.length ≤ 10) (hl' : sets'.length ≤ 1000) (hw6 : Below w.heap.size w W6) (hwB : w.heap.size ≤ B) :
    Printed w gb zs.length c3 (zs.set i ⟨z.apex, sets'⟩) (w9.setCell ⟨gb, i * 2 + 1, none⟩ (.slice A9 n9 c9)) := by
  have hs8 := hb8.size
  have hb9 : Below B W6 w9 := (hb8.mono (by omega)).trans ((Below.refl B w8).grown hg9 (by omega) (fun k hk => by cases hk; omega))
  have hgn : ∀ g, Value.ownBlock (.slice A9 n9 c9) = some g → w3.heap.size ≤ g := fun g hg => by
    obtain ⟨_, _, hoo, _⟩ := id ho9
    exact (hoo.lt g hg).1
  have hown9 : ∀ g, Value.ownBlock (.slice A9 n9 c9) = some g → M9 g := by obtain ⟨_, _, _, h3, _⟩ := id ho9; exact h3
  have hs9 := (ho9.leaves rsigned_kept rsigned_sans rsigned_more (Leaves'.setCell M9 w9 (p := ⟨gb, i * 2 + 1, none⟩) hM (.slice A9 n9 c9)) (fun g hg => ⟨Below.heap_setCell _ _ _ _ (by have := hgn g hg; simp; omega), hown9 g hg⟩)).slr rsigned_sans (by omega)
  exact ⟨read_set2 hrow hb6 hc6 hb9 (hblk.trans (hb8.block gb hgb)) q3 hgb hB hz hs9 hc hl, (hw6.trans (hb9.mono hwB)).setCell (p := ⟨gb, i * 2 + 1, none⟩) (Nat.le_trans hwB hB) _⟩
set_option maxRecDepth 100000 in
/-- A slice from a place on. -/
theorem slice_from (w : World) (g n c k : Nat) (hk : k + 1 ≤ n) : (Instr.slice 30 (.slice (some ⟨g, 0, none⟩) n c) (some (.int .i64 ((k : Int) + 1))) none none).run Tryz.prog w = .ok (.slice (if c = k + 1 then some ⟨g, 0, none⟩ else some ⟨g, (k + 1) * 5, none⟩) (n - (k + 1)) (c - (k + 1))) w := by
  rw [run_slice_l w 30 _ _ _ Tryz.underlying30 IntKind.i64 _ (by omega) (by omega)]
  have h4 : ((k : Int) + 1).toNat = k + 1 := by omega
  rw [h4]
  by_cases h : c = k + 1
  · simp [sliced, go_sem, Result.andThen, h]
  · simp [sliced, go_sem, Result.andThen, h, Addr.add]
end Go.Proofs.YtnbolgdccdnjeaaGreatDoor
/- PrinterRefuses: the walk, case 0. -/
namespace Go.Proofs.YtnbolgdccdnjeaaGreatDoor
open Go.RowKit
set_option maxRecDepth 100000 in
set_option maxHeartbeats 4000000 in
theorem refuse_walk0 (v : Value) (zs : List Np.Zone) (wh ta how : Int) (hwh0 : 0 ≤ wh) (hwh1 : wh ≤ 255) (hat0 : 0 ≤ ta) (hat1 : ta ≤ 65535) (hh0 : 0 ≤ how) (hh1 : how ≤ 255) (hK : how % 4 = 0) (w : World) (hI : PrintIn w) (hz : SlR RZone 2 w w.heap.size v zs) :
    Calls Tryz.prog 4 #[v, .int .u8 wh, .int .u16 ta, .int .u8 how] w fun e w' => e = .returned (.bool true) ∧ Below w.heap.size w w' := by
  have HI := Lib.hid hI
  have HZ := Lib.hid hz
  obtain ⟨A, c, rfl, hc1, hl1⟩ := slr_form hz
  obtain ⟨i0, hi, hzz⟩ := Option.map_eq_some_iff.1 Tryz.infoZone
  simp only [Prod.mk.injEq] at hzz
  obtain ⟨hz0, hz1, hz2⟩ := hzz
  obtain ⟨i1, hj, hzz⟩ := Option.map_eq_some_iff.1 Tryz.infoSignedR
  simp only [Prod.mk.injEq] at hzz
  obtain ⟨hy0, hy1, hy2⟩ := hzz
  have HK := Lib.hid hK
  clear hI hz hK
  have HW : Hid (∀ (u : World) (o : Obj), Below u.heap.size u (u.alloc o)) := Lib.hid (fun u o => (Below.refl _ u).alloc (Nat.le_refl _) _)
  go_enter Tryz.func4, Tryz.ntmps4
  go_wp2_with fail
  refine (head05_any _ HI.out).mono ?_
  rintro e wa ⟨rfl, hba⟩
  have HBA := Lib.hid hba
  have HA := Lib.hid (HZ.out.later rzone_kept rzone_more hba)
  clear hba
  go_wp2_with fail
  refine (few_any _ zs _ HA.out).mono ?_
  rintro e wa' ⟨b1, rfl, rfl, hb1⟩
  cases b1 with
  | false =>
    go_wp2_with fail
    go_ret
    exact ⟨rfl, HBA.out⟩
  | true =>
    have hf1 := hb1 rfl
    have HF := Lib.hid hf1
    have hn1 := hf1.1
    clear hb1 hf1
    by_cases hzn : zs.length = 0
    · have hz0' : ((zs.length : Int) == 0) = true := by simp [hzn]
      have HZN := Lib.hid hzn
      clear hzn
      go_wp2_with fail
      go_ret
      exact ⟨rfl, HBA.out⟩
    · have hzp : 0 < zs.length := by omega
      have hz0' : ((zs.length : Int) == 0) = false := beq_eq_false_iff_ne.2 (by omega)
      have hzi : (0 : Int) < (zs.length : Int) := by omega
      clear hzn
      obtain ⟨p, n, hp⟩ : ∃ p n, Np.print zs = (p, n) := ⟨_, _, rfl⟩
      have HP := Lib.hid hp
      clear hp
      go_wp2_with fail
      have hr := refPrint_any _ zs _ hn1 (fun z hz => (HF.out.2 z hz).1) HA.out
      rw [HP.out] at hr
      refine hr.mono ?_
      rintro e wb ⟨rfl, hbb⟩
      have HBB := Lib.hid (HBA.out.trans (hbb.mono HBA.out.size))
      have HZB := Lib.hid (HA.out.later rzone_kept rzone_more hbb)
      clear hbb hr
      by_cases hn0 : n = 0
      · subst hn0
        have HAL := Lib.hid (HW.out wb (.cells #[] 32))
        go_upto_region 8 with (at_builtin; refine wpList_append_R _ rfl _ _ 22 rfl wb.heap.size wb.heap.size 32 i0 (.agg #[.string ⟨#[]⟩, .slice none 0 0]) 40 Tryz.underlying22 hi hz0 hz1 hz2 rfl (by decide) _ [] rfl (OwnR.empty (R := RZone) (sz := 2) wb (Nat.le_refl _)) A c wb.heap.size zs rfl (HZB.out.keep rzone_kept HAL.out) (fun _ _ h => rzone_one h) (by simp [maxLen]; omega) (by simp; omega) (by simp) (Nat.le_refl _) (Nat.le_refl _) rzone_kept rzone_more ?_; intro v3 w3 ho3 hb3 hg3; have H3 := Lib.hid (And.intro ho3 (HAL.out.trans hb3)); clear ho3 hb3 hg3)
        obtain ⟨ho3, hb3⟩ := H3.out
        rw [List.nil_append] at ho3
        obtain ⟨gb, c3, rfl, hgb0, hgb1, hc3, hm3, fz3, hrow3⟩ := ho3.isRow (by intro e; rw [e] at hzp; simp at hzp)
        have HB3 := Lib.hid hb3
        have HO3 := Lib.hid ho3
        have HBW3 := Lib.hid (HBB.out.trans (hb3.mono HBB.out.size))
        obtain ⟨i, hiE⟩ : ∃ i : Nat, wh % (zs.length : Int) = (i : Int) := ⟨(wh % (zs.length : Int)).toNat, (Int.toNat_of_nonneg (Int.emod_nonneg _ (by omega))).symm⟩
        have hil : i < zs.length := by have := Int.emod_lt_of_pos wh hzi; omega
        obtain ⟨r, _, ⟨s, sv, hs1, hs2, hsv, rfl⟩, hce⟩ := hrow3 i _ (List.getElem?_eq_getElem hil)
        have e0 : w3.cell? ⟨gb, i * 2, none⟩ = some (.string s) := by have := hce 0 _ rfl; simpa using this
        have e1 : w3.cell? ⟨gb, i * 2 + 1, none⟩ = some sv := hce 1 _ rfl
        have HGZ := Lib.hid (List.getElem?_eq_getElem hil)
        have HROW := Lib.hid hrow3
        have HSV := Lib.hid hsv
        have HS1 := Lib.hid hs1
        have hs300 := (HF.out.2 _ (List.getElem_mem hil)).1
        generalize zs[i] = z at HGZ HSV HS1 hsv hs300
        obtain ⟨As, cs, rfl, hcs, hls⟩ := slr_form hsv
        have hi0 : (0 : Int) ≤ (i : Int) := by omega
        have hi9 : (i : Int) < (zs.length : Int) := by omega
        have hsz3 : wb.heap.size ≤ w3.heap.size := hb3.size
        clear ho3 hb3 H3 hrow3 hsv hce hs1
        have HAS := Lib.hid (HW.out w3 (.cells #[] 41))
        go_upto_region 10 with (at_builtin; refine wpList_append_R _ rfl _ _ 30 rfl w3.heap.size wb.heap.size 41 i1 (.agg #[.string ⟨#[]⟩, .int .i64 0, .int .i64 0, .slice none 0 0, .slice none 0 0]) 80 Tryz.underlying30 hj hy0 hy1 hy2 rfl (by decide) _ [] rfl (OwnR.empty (R := RSigned) (sz := 5) w3 (Nat.le_refl _)) As cs wb.heap.size z.sets rfl (HSV.out.keep rsigned_kept (HAS.out.mono hsz3)) (fun _ _ h => rsigned_one h) (by simp [maxLen]; omega) (by simp; omega) (by simp) (Nat.le_refl _) hsz3 rsigned_kept rsigned_more ?_; intro v4 w4 ho4 hb4 hg4; have H4 := Lib.hid (And.intro ho4 (HAS.out.trans hb4)); have hs4 : w3.heap.size ≤ w4.heap.size := (HAS.out.trans hb4).size; obtain ⟨c4, f4⟩ := bcell (HAS.out.trans hb4); obtain ⟨A4, p4, rfl⟩ := ho4.form; clear ho4 hb4 hg4)
        obtain ⟨ho4, hb4⟩ := H4.out
        rw [List.nil_append] at ho4
        have hcell6 : ∀ o, o ≠ i * 2 + 1 → (w4.setCell ⟨gb, i * 2 + 1, none⟩ (.slice A4 z.sets.length p4)).cell? ⟨gb, o, none⟩ = w3.cell? ⟨gb, o, none⟩ := fun o ho => (World.cell?_setCell_other _ _ _ _ (by intro e; cases e; exact ho rfl)).trans (hb4.cell hgb1)
        have k0 := (hcell6 (i * 2) (by omega)).trans e0
        have k1 : (w4.setCell ⟨gb, i * 2 + 1, none⟩ (.slice A4 z.sets.length p4)).cell? ⟨gb, i * 2 + 1, none⟩ = some (.slice A4 z.sets.length p4) := by
          have := (hb4.cell (p := ⟨gb, i * 2 + 1, none⟩) hgb1).trans e1
          simp [World.cell?_setCell_same, this]
        have kf : ∀ o, (w4.setCell ⟨gb, i * 2 + 1, none⟩ (.slice A4 z.sets.length p4)).frozen? ⟨gb, o, none⟩ = false := fun o => by
          have := (hb4.frozen (p := ⟨gb, o, none⟩) hgb1).trans (fz3 o)
          simp [go_sem, this]
        have HOM := Lib.hid (bad_own HO3.out hgb0 hb4 hgb1 HGZ.out HS1.out hs2 e0 e1 ho4 hs300)
        have hown4 : ∀ g, Value.ownBlock (.slice A4 z.sets.length p4) = some g → w3.heap.size ≤ g ∧ g < w4.heap.size := fun g hg => by
          obtain ⟨_, _, hoo, _⟩ := id ho4
          exact hoo.lt g hg
        have hb46 : Below gb w4 (w4.setCell ⟨gb, i * 2 + 1, none⟩ (.slice A4 z.sets.length p4)) := Below.setCell (Below.refl gb w4) (p := ⟨gb, i * 2 + 1, none⟩) (Nat.le_refl gb) _
        have HO6 := Lib.hid (ho4.keepB rsigned_kept (hb46.mono hgb0) (fun g hg => Below.heap_setCell _ _ _ _ (by have := (hown4 g hg).1; simp; omega)))
        have HB6 := Lib.hid ((hb4.mono hsz3).trans (hb46.mono hgb0))
        have HBW6 := Lib.hid (HBW3.out.trans (HB6.out.mono HBB.out.size))
        have hs6 : w3.heap.size ≤ (w4.setCell ⟨gb, i * 2 + 1, none⟩ (.slice A4 z.sets.length p4)).heap.size := by simp [World.setCell]; exact hs4
        have hown6 : ∀ g, Value.ownBlock (.slice A4 z.sets.length p4) = some g → w3.heap.size ≤ g ∧ g < (w4.setCell ⟨gb, i * 2 + 1, none⟩ (.slice A4 z.sets.length p4)).heap.size := fun g hg => by
          have := hown4 g hg
          simp [World.setCell]; exact this
        have HC6 := Lib.hid hcell6
        have HW6 := Lib.hid hown6
        have HFZ := Lib.hid kf
        clear ho4 hb4 H4 hcell6 hown4 hb46 hown6 e0 e1 c4 f4 fz3
        generalize w4.setCell ⟨gb, i * 2 + 1, none⟩ (.slice A4 z.sets.length p4) = W6 at k0 k1 HOM HO6 HB6 HBW6 hs6 HC6 HW6 HFZ kf ⊢
        have hgb6 : gb < W6.heap.size := by omega
        have hK := HK.out
        by_cases hset : z.sets.length = 0
        · have hse : ((z.sets.length : Int) == 0) = true := by simp [hset]
          have HSE := Lib.hid hset
          clear hset
          go_wp2_with fail
          go_ret
          exact ⟨rfl, HBW6.out⟩
        · have hse : ((z.sets.length : Int) == 0) = false := beq_eq_false_iff_ne.2 (by omega)
          have hsi : (0 : Int) < (z.sets.length : Int) := by omega
          obtain ⟨g4, c4, hv4, hg40, hg41, hc4, hm4, fz4, hrow4⟩ := HO6.out.isRow (by intro e; rw [e] at hset; simp at hset)
          simp only [Value.slice.injEq, true_and] at hv4
          obtain ⟨rfl, rfl⟩ := hv4
          clear hset
          obtain ⟨k, hkE⟩ : ∃ k : Nat, ta % (z.sets.length : Int) = (k : Int) := ⟨(ta % (z.sets.length : Int)).toNat, (Int.toNat_of_nonneg (Int.emod_nonneg _ (by omega))).symm⟩
          have hkl : k < z.sets.length := by have := Int.emod_lt_of_pos ta hsi; omega
          have HGX := Lib.hid (List.getElem?_eq_getElem hkl)
          obtain ⟨r, _, hrs, hce⟩ := hrow4 k _ (List.getElem?_eq_getElem hkl)
          generalize z.sets[k] = x at HGX hrs
          obtain ⟨s5, v5, u5, _, _, _, _, rfl⟩ := hrs
          have y4 : W6.cell? ⟨g4, k * 5 + 4, none⟩ = some u5 := hce 4 _ rfl
          have yf := fz4 (k * 5 + 4)
          have HR4 := Lib.hid hrow4
          have hk0 : (0 : Int) ≤ (k : Int) := by omega
          have hk9 : (k : Int) < (z.sets.length : Int) := by omega
          have hnz : ¬ z.sets.length = 0 := by omega
          have hnz' : ¬ z.sets = [] := fun e => hnz (by rw [e]; rfl)
          have htm : ta.tmod (z.sets.length : Int) = (k : Int) := by rw [Int.tmod_eq_emod_of_nonneg hat0]; exact hkE
          have hwr : IntKind.i64.wrap (k : Int) = (k : Int) := IntWalk.i64_in _ (by omega)
          have hwt : IntKind.i64.wrap ta = ta := IntWalk.i64_in _ (by omega)
          have hne : ¬ g4 = gb := by omega
          have hne1 : ¬ W6.heap.size = gb := by omega
          have hne2 : ¬ W6.heap.size = g4 := by omega
          clear hrow4 hce fz4
          go_upto_region 21 with fail
          go_region_held3 (fun w' => w'.cell? ⟨gb, i * 2, none⟩ = some (.string s) ∧ w'.cell? ⟨gb, i * 2 + 1, none⟩ = some (.slice (some ⟨g4, 0, none⟩) z.sets.length p4)) (go_keep) (fail)
          go_wp2_with fail
          have HRD := Lib.hid (read0 (s := s) HROW.out HB6.out HC6.out k1 HR4.out HGZ.out HGX.out HS1.out hs2 y4 hne (by omega) (by omega) hgb6 (by omega) hc3 hn1 hc4 hs300)
          have HBX := Lib.hid (((Below.setCell (Below.refl w.heap.size W6) (p := ⟨g4, k * 5 + 4, none⟩) (show w.heap.size ≤ g4 by have := HBB.out.size; omega) (.slice (some ⟨W6.heap.size, 0, none⟩) 1 1)).alloc (show w.heap.size ≤ _ by have := HBW6.out.size; simp [World.setCell]; omega) (.cells #[.string s, .int .i64 1, .int .i64 1, .int .i64 0, .int .i64 0, .int .u64 0] 35)).drew)
          have HP7 := Lib.hid (Np.refuse_sig HP.out HGZ.out HGX.out ⟨z.apex, 1, 1, 0, 0, 0⟩)
          have HBY := Lib.hid (HBW6.out.trans HBX.out)
          refine (print_at _ _ _ (HI.out.keep HBY.out) HRD.out HP7.out).mono ?_
          rintro e w8 ⟨rfl, hb8⟩
          have HB8 := Lib.hid hb8
          clear hb8
          go_wp2_with fail
          go_ret
          exact ⟨rfl, HBY.out.trans (HB8.out.mono HBY.out.size)⟩
      · have hn1' : (n == 0) = false := by simpa using hn0
        have hn2' : (n != 0) = true := by simpa using hn0
        have HN0 := Lib.hid hn0
        clear hn0
        go_wp2_with fail
        go_ret
        exact ⟨rfl, HBB.out⟩
end Go.Proofs.YtnbolgdccdnjeaaGreatDoor
/- PrinterRefuses: the walk, case 2. -/
namespace Go.Proofs.YtnbolgdccdnjeaaGreatDoor
open Go.RowKit
set_option maxRecDepth 100000 in
set_option maxHeartbeats 4000000 in
theorem refuse_walk2 (v : Value) (zs : List Np.Zone) (wh ta how : Int) (hwh0 : 0 ≤ wh) (hwh1 : wh ≤ 255) (_ : 0 ≤ ta) (_ : ta ≤ 65535) (hh0 : 0 ≤ how) (hh1 : how ≤ 255) (hK : how % 4 = 2) (w : World) (hI : PrintIn w) (hz : SlR RZone 2 w w.heap.size v zs) :
    Calls Tryz.prog 4 #[v, .int .u8 wh, .int .u16 ta, .int .u8 how] w fun e w' => e = .returned (.bool true) ∧ Below w.heap.size w w' := by
  have HI := Lib.hid hI
  have HZ := Lib.hid hz
  obtain ⟨A, c, rfl, hc1, hl1⟩ := slr_form hz
  obtain ⟨i0, hi, hzz⟩ := Option.map_eq_some_iff.1 Tryz.infoZone
  simp only [Prod.mk.injEq] at hzz
  obtain ⟨hz0, hz1, hz2⟩ := hzz
  obtain ⟨i1, hj, hzz⟩ := Option.map_eq_some_iff.1 Tryz.infoSignedR
  simp only [Prod.mk.injEq] at hzz
  obtain ⟨hy0, hy1, hy2⟩ := hzz
  have HK := Lib.hid hK
  clear hI hz hK
  have HW : Hid (∀ (u : World) (o : Obj), Below u.heap.size u (u.alloc o)) := Lib.hid (fun u o => (Below.refl _ u).alloc (Nat.le_refl _) _)
  go_enter Tryz.func4, Tryz.ntmps4
  go_wp2_with fail
  refine (head05_any _ HI.out).mono ?_
  rintro e wa ⟨rfl, hba⟩
  have HBA := Lib.hid hba
  have HA := Lib.hid (HZ.out.later rzone_kept rzone_more hba)
  clear hba
  go_wp2_with fail
  refine (few_any _ zs _ HA.out).mono ?_
  rintro e wa' ⟨b1, rfl, rfl, hb1⟩
  cases b1 with
  | false =>
    go_wp2_with fail
    go_ret
    exact ⟨rfl, HBA.out⟩
  | true =>
    have hf1 := hb1 rfl
    have HF := Lib.hid hf1
    have hn1 := hf1.1
    clear hb1 hf1
    by_cases hzn : zs.length = 0
    · have hz0' : ((zs.length : Int) == 0) = true := by simp [hzn]
      have HZN := Lib.hid hzn
      clear hzn
      go_wp2_with fail
      go_ret
      exact ⟨rfl, HBA.out⟩
    · have hzp : 0 < zs.length := by omega
      have hz0' : ((zs.length : Int) == 0) = false := beq_eq_false_iff_ne.2 (by omega)
      have hzi : (0 : Int) < (zs.length : Int) := by omega
      clear hzn
      obtain ⟨p, n, hp⟩ : ∃ p n, Np.print zs = (p, n) := ⟨_, _, rfl⟩
      have HP := Lib.hid hp
      clear hp
      go_wp2_with fail
      have hr := refPrint_any _ zs _ hn1 (fun z hz => (HF.out.2 z hz).1) HA.out
      rw [HP.out] at hr
      refine hr.mono ?_
      rintro e wb ⟨rfl, hbb⟩
      have HBB := Lib.hid (HBA.out.trans (hbb.mono HBA.out.size))
      have HZB := Lib.hid (HA.out.later rzone_kept rzone_more hbb)
      clear hbb hr
      by_cases hn0 : n = 0
      · subst hn0
        have HAL := Lib.hid (HW.out wb (.cells #[] 32))
        go_upto_region 8 with (at_builtin; refine wpList_append_R _ rfl _ _ 22 rfl wb.heap.size wb.heap.size 32 i0 (.agg #[.string ⟨#[]⟩, .slice none 0 0]) 40 Tryz.underlying22 hi hz0 hz1 hz2 rfl (by decide) _ [] rfl (OwnR.empty (R := RZone) (sz := 2) wb (Nat.le_refl _)) A c wb.heap.size zs rfl (HZB.out.keep rzone_kept HAL.out) (fun _ _ h => rzone_one h) (by simp [maxLen]; omega) (by simp; omega) (by simp) (Nat.le_refl _) (Nat.le_refl _) rzone_kept rzone_more ?_; intro v3 w3 ho3 hb3 hg3; have H3 := Lib.hid (And.intro ho3 (HAL.out.trans hb3)); clear ho3 hb3 hg3)
        obtain ⟨ho3, hb3⟩ := H3.out
        rw [List.nil_append] at ho3
        obtain ⟨gb, c3, rfl, hgb0, hgb1, hc3, hm3, fz3, hrow3⟩ := ho3.isRow (by intro e; rw [e] at hzp; simp at hzp)
        have HB3 := Lib.hid hb3
        have HO3 := Lib.hid ho3
        have HBW3 := Lib.hid (HBB.out.trans (hb3.mono HBB.out.size))
        obtain ⟨i, hiE⟩ : ∃ i : Nat, wh % (zs.length : Int) = (i : Int) := ⟨(wh % (zs.length : Int)).toNat, (Int.toNat_of_nonneg (Int.emod_nonneg _ (by omega))).symm⟩
        have hil : i < zs.length := by have := Int.emod_lt_of_pos wh hzi; omega
        obtain ⟨r, _, ⟨s, sv, hs1, hs2, hsv, rfl⟩, hce⟩ := hrow3 i _ (List.getElem?_eq_getElem hil)
        have e0 : w3.cell? ⟨gb, i * 2, none⟩ = some (.string s) := by have := hce 0 _ rfl; simpa using this
        have e1 : w3.cell? ⟨gb, i * 2 + 1, none⟩ = some sv := hce 1 _ rfl
        have HGZ := Lib.hid (List.getElem?_eq_getElem hil)
        have HROW := Lib.hid hrow3
        have HSV := Lib.hid hsv
        have HS1 := Lib.hid hs1
        have hs300 := (HF.out.2 _ (List.getElem_mem hil)).1
        generalize zs[i] = z at HGZ HSV HS1 hsv hs300
        obtain ⟨As, cs, rfl, hcs, hls⟩ := slr_form hsv
        have hi0 : (0 : Int) ≤ (i : Int) := by omega
        have hi9 : (i : Int) < (zs.length : Int) := by omega
        have hsz3 : wb.heap.size ≤ w3.heap.size := hb3.size
        clear ho3 hb3 H3 hrow3 hsv hce hs1
        have HAS := Lib.hid (HW.out w3 (.cells #[] 41))
        go_upto_region 10 with (at_builtin; refine wpList_append_R _ rfl _ _ 30 rfl w3.heap.size wb.heap.size 41 i1 (.agg #[.string ⟨#[]⟩, .int .i64 0, .int .i64 0, .slice none 0 0, .slice none 0 0]) 80 Tryz.underlying30 hj hy0 hy1 hy2 rfl (by decide) _ [] rfl (OwnR.empty (R := RSigned) (sz := 5) w3 (Nat.le_refl _)) As cs wb.heap.size z.sets rfl (HSV.out.keep rsigned_kept (HAS.out.mono hsz3)) (fun _ _ h => rsigned_one h) (by simp [maxLen]; omega) (by simp; omega) (by simp) (Nat.le_refl _) hsz3 rsigned_kept rsigned_more ?_; intro v4 w4 ho4 hb4 hg4; have H4 := Lib.hid (And.intro ho4 (HAS.out.trans hb4)); have hs4 : w3.heap.size ≤ w4.heap.size := (HAS.out.trans hb4).size; obtain ⟨c4, f4⟩ := bcell (HAS.out.trans hb4); obtain ⟨A4, p4, rfl⟩ := ho4.form; clear ho4 hb4 hg4)
        obtain ⟨ho4, hb4⟩ := H4.out
        rw [List.nil_append] at ho4
        have hcell6 : ∀ o, o ≠ i * 2 + 1 → (w4.setCell ⟨gb, i * 2 + 1, none⟩ (.slice A4 z.sets.length p4)).cell? ⟨gb, o, none⟩ = w3.cell? ⟨gb, o, none⟩ := fun o ho => (World.cell?_setCell_other _ _ _ _ (by intro e; cases e; exact ho rfl)).trans (hb4.cell hgb1)
        have k0 := (hcell6 (i * 2) (by omega)).trans e0
        have k1 : (w4.setCell ⟨gb, i * 2 + 1, none⟩ (.slice A4 z.sets.length p4)).cell? ⟨gb, i * 2 + 1, none⟩ = some (.slice A4 z.sets.length p4) := by
          have := (hb4.cell (p := ⟨gb, i * 2 + 1, none⟩) hgb1).trans e1
          simp [World.cell?_setCell_same, this]
        have kf : ∀ o, (w4.setCell ⟨gb, i * 2 + 1, none⟩ (.slice A4 z.sets.length p4)).frozen? ⟨gb, o, none⟩ = false := fun o => by
          have := (hb4.frozen (p := ⟨gb, o, none⟩) hgb1).trans (fz3 o)
          simp [go_sem, this]
        have HOM := Lib.hid (bad_own HO3.out hgb0 hb4 hgb1 HGZ.out HS1.out hs2 e0 e1 ho4 hs300)
        have hown4 : ∀ g, Value.ownBlock (.slice A4 z.sets.length p4) = some g → w3.heap.size ≤ g ∧ g < w4.heap.size := fun g hg => by
          obtain ⟨_, _, hoo, _⟩ := id ho4
          exact hoo.lt g hg
        have hb46 : Below gb w4 (w4.setCell ⟨gb, i * 2 + 1, none⟩ (.slice A4 z.sets.length p4)) := Below.setCell (Below.refl gb w4) (p := ⟨gb, i * 2 + 1, none⟩) (Nat.le_refl gb) _
        have HO6 := Lib.hid (ho4.keepB rsigned_kept (hb46.mono hgb0) (fun g hg => Below.heap_setCell _ _ _ _ (by have := (hown4 g hg).1; simp; omega)))
        have HB6 := Lib.hid ((hb4.mono hsz3).trans (hb46.mono hgb0))
        have HBW6 := Lib.hid (HBW3.out.trans (HB6.out.mono HBB.out.size))
        have hs6 : w3.heap.size ≤ (w4.setCell ⟨gb, i * 2 + 1, none⟩ (.slice A4 z.sets.length p4)).heap.size := by simp [World.setCell]; exact hs4
        have hown6 : ∀ g, Value.ownBlock (.slice A4 z.sets.length p4) = some g → w3.heap.size ≤ g ∧ g < (w4.setCell ⟨gb, i * 2 + 1, none⟩ (.slice A4 z.sets.length p4)).heap.size := fun g hg => by
          have := hown4 g hg
          simp [World.setCell]; exact this
        have HC6 := Lib.hid hcell6
        have HW6 := Lib.hid hown6
        have HFZ := Lib.hid kf
        clear ho4 hb4 H4 hcell6 hown4 hb46 hown6 e0 e1 c4 f4 fz3
        generalize w4.setCell ⟨gb, i * 2 + 1, none⟩ (.slice A4 z.sets.length p4) = W6 at k0 k1 HOM HO6 HB6 HBW6 hs6 HC6 HW6 HFZ kf ⊢
        have hgb6 : gb < W6.heap.size := by omega
        have hK := HK.out
        have HWA := Lib.hid (HW.out W6 (.cells #[.string s, .slice A4 z.sets.length p4] 32))
        have HOMA := Lib.hid (HOM.out.leaves rzone_kept rzone_sans rzone_more (Leaves'.of_below HWA.out) (fun g hg => ⟨HWA.out.block g (by cases hg; exact hgb6), by cases hg; rfl⟩))
        have HSS := Lib.hid (own_sans (gb := gb) (HO6.out.keep rsigned_kept HWA.out (by omega)) hgb0 hgb1 (by simp; omega) (by omega))
        have HRW : Hid (RowsM RZone 2 (fun k => k = gb) (W6.alloc (.cells #[.string s, .slice A4 z.sets.length p4] 32)) (some ⟨W6.heap.size, 0, none⟩) [z]) := Lib.hid (rowsM_one (r := [.string s, .slice A4 z.sets.length p4]) rfl ⟨s, _, HS1.out, hs2, HSS.out, rfl⟩ (cellsAt_new W6 #[.string s, .slice A4 z.sets.length p4] 32))
        have hb6a : wb.heap.size ≤ (W6.alloc (.cells #[.string s, .slice A4 z.sets.length p4] 32)).heap.size := by simp; omega
        have HH1 : Hid (zs.length + [z].length ≤ maxLen) := Lib.hid (by simp [maxLen]; omega)
        have HH2 : Hid ((zs.length + [z].length) * 40 ≤ 140737488355328) := Lib.hid (by simp; omega)
        have HBA6 := Lib.hid (HBW6.out.trans (HWA.out.mono HBW6.out.size))
        have HGW : Hid (w.heap.size ≤ gb) := Lib.hid (by have := HBB.out.size; omega)
        have HL8 : Hid ((zs ++ [z]).length ≤ 140737488355328) := Lib.hid (by simp; omega)
        have HP7 := Lib.hid (Np.refuse_zone HP.out HGZ.out)
        go_wp2_with (at_builtin; refine wpList_append_M (M := fun k => k = gb) _ rfl _ _ 22 rfl wb.heap.size 32 i0 (.agg #[.string ⟨#[]⟩, .slice none 0 0]) 40 Tryz.underlying22 hi hz0 hz1 hz2 rfl (by decide) _ zs rfl HOMA.out (some ⟨W6.heap.size, 0, none⟩) 1 [z] rfl HRW.out (fun _ _ _ _ h => rzone_one h) HH1.out HH2.out hb6a rzone_kept rzone_sans rzone_more ?_; intro v7 w7 ho7 hg7 hat7; have H7 := Lib.hid (And.intro ho7 hg7); obtain ⟨A7, n7, c7, rfl, HN7⟩ := ho7.formN; clear ho7 hg7 hat7)
        obtain ⟨ho7, hg7⟩ := H7.out
        replace hg7 : World.grownBy _ w7 (some gb) := hg7
        have HB7 := Lib.hid (HBA6.out.grown hg7 HBA6.out.size (fun k hk => by cases hk; exact HGW.out))
        have HS7 := Lib.hid (ho7.slr rzone_sans HL8.out)
        clear ho7 hg7 H7 HRW HSS HOMA HWA hb6a
        refine (print_at _ _ _ (HI.out.keep HB7.out) HS7.out HP7.out).mono ?_
        rintro e w8 ⟨rfl, hb8⟩
        have HB8 := Lib.hid hb8
        clear hb8
        go_wp2_with fail
        go_ret
        exact ⟨rfl, HB7.out.trans (HB8.out.mono HB7.out.size)⟩
      · have hn1' : (n == 0) = false := by simpa using hn0
        have hn2' : (n != 0) = true := by simpa using hn0
        have HN0 := Lib.hid hn0
        clear hn0
        go_wp2_with fail
        go_ret
        exact ⟨rfl, HBB.out⟩
end Go.Proofs.YtnbolgdccdnjeaaGreatDoor
/- PrinterRefuses: the walk, case 3. -/
namespace Go.Proofs.YtnbolgdccdnjeaaGreatDoor
open Go.RowKit
set_option maxRecDepth 100000 in
set_option maxHeartbeats 4000000 in
theorem refuse_walk3 (v : Value) (zs : List Np.Zone) (wh ta how : Int) (hwh0 : 0 ≤ wh) (hwh1 : wh ≤ 255) (_ : 0 ≤ ta) (_ : ta ≤ 65535) (hh0 : 0 ≤ how) (hh1 : how ≤ 255) (hK : how % 4 = 3) (w : World) (hI : PrintIn w) (hz : SlR RZone 2 w w.heap.size v zs) :
    Calls Tryz.prog 4 #[v, .int .u8 wh, .int .u16 ta, .int .u8 how] w fun e w' => e = .returned (.bool true) ∧ Below w.heap.size w w' := by
  have HI := Lib.hid hI
  have HZ := Lib.hid hz
  obtain ⟨A, c, rfl, hc1, hl1⟩ := slr_form hz
  obtain ⟨i0, hi, hzz⟩ := Option.map_eq_some_iff.1 Tryz.infoZone
  simp only [Prod.mk.injEq] at hzz
  obtain ⟨hz0, hz1, hz2⟩ := hzz
  obtain ⟨i1, hj, hzz⟩ := Option.map_eq_some_iff.1 Tryz.infoSignedR
  simp only [Prod.mk.injEq] at hzz
  obtain ⟨hy0, hy1, hy2⟩ := hzz
  have HK := Lib.hid hK
  clear hI hz hK
  have HW : Hid (∀ (u : World) (o : Obj), Below u.heap.size u (u.alloc o)) := Lib.hid (fun u o => (Below.refl _ u).alloc (Nat.le_refl _) _)
  go_enter Tryz.func4, Tryz.ntmps4
  go_wp2_with fail
  refine (head05_any _ HI.out).mono ?_
  rintro e wa ⟨rfl, hba⟩
  have HBA := Lib.hid hba
  have HA := Lib.hid (HZ.out.later rzone_kept rzone_more hba)
  clear hba
  go_wp2_with fail
  refine (few_any _ zs _ HA.out).mono ?_
  rintro e wa' ⟨b1, rfl, rfl, hb1⟩
  cases b1 with
  | false =>
    go_wp2_with fail
    go_ret
    exact ⟨rfl, HBA.out⟩
  | true =>
    have hf1 := hb1 rfl
    have HF := Lib.hid hf1
    have hn1 := hf1.1
    clear hb1 hf1
    by_cases hzn : zs.length = 0
    · have hz0' : ((zs.length : Int) == 0) = true := by simp [hzn]
      have HZN := Lib.hid hzn
      clear hzn
      go_wp2_with fail
      go_ret
      exact ⟨rfl, HBA.out⟩
    · have hzp : 0 < zs.length := by omega
      have hz0' : ((zs.length : Int) == 0) = false := beq_eq_false_iff_ne.2 (by omega)
      have hzi : (0 : Int) < (zs.length : Int) := by omega
      clear hzn
      obtain ⟨p, n, hp⟩ : ∃ p n, Np.print zs = (p, n) := ⟨_, _, rfl⟩
      have HP := Lib.hid hp
      clear hp
      go_wp2_with fail
      have hr := refPrint_any _ zs _ hn1 (fun z hz => (HF.out.2 z hz).1) HA.out
      rw [HP.out] at hr
      refine hr.mono ?_
      rintro e wb ⟨rfl, hbb⟩
      have HBB := Lib.hid (HBA.out.trans (hbb.mono HBA.out.size))
      have HZB := Lib.hid (HA.out.later rzone_kept rzone_more hbb)
      clear hbb hr
      by_cases hn0 : n = 0
      · subst hn0
        have HAL := Lib.hid (HW.out wb (.cells #[] 32))
        go_upto_region 8 with (at_builtin; refine wpList_append_R _ rfl _ _ 22 rfl wb.heap.size wb.heap.size 32 i0 (.agg #[.string ⟨#[]⟩, .slice none 0 0]) 40 Tryz.underlying22 hi hz0 hz1 hz2 rfl (by decide) _ [] rfl (OwnR.empty (R := RZone) (sz := 2) wb (Nat.le_refl _)) A c wb.heap.size zs rfl (HZB.out.keep rzone_kept HAL.out) (fun _ _ h => rzone_one h) (by simp [maxLen]; omega) (by simp; omega) (by simp) (Nat.le_refl _) (Nat.le_refl _) rzone_kept rzone_more ?_; intro v3 w3 ho3 hb3 hg3; have H3 := Lib.hid (And.intro ho3 (HAL.out.trans hb3)); clear ho3 hb3 hg3)
        obtain ⟨ho3, hb3⟩ := H3.out
        rw [List.nil_append] at ho3
        obtain ⟨gb, c3, rfl, hgb0, hgb1, hc3, hm3, fz3, hrow3⟩ := ho3.isRow (by intro e; rw [e] at hzp; simp at hzp)
        have HB3 := Lib.hid hb3
        have HO3 := Lib.hid ho3
        have HBW3 := Lib.hid (HBB.out.trans (hb3.mono HBB.out.size))
        obtain ⟨i, hiE⟩ : ∃ i : Nat, wh % (zs.length : Int) = (i : Int) := ⟨(wh % (zs.length : Int)).toNat, (Int.toNat_of_nonneg (Int.emod_nonneg _ (by omega))).symm⟩
        have hil : i < zs.length := by have := Int.emod_lt_of_pos wh hzi; omega
        obtain ⟨r, _, ⟨s, sv, hs1, hs2, hsv, rfl⟩, hce⟩ := hrow3 i _ (List.getElem?_eq_getElem hil)
        have e0 : w3.cell? ⟨gb, i * 2, none⟩ = some (.string s) := by have := hce 0 _ rfl; simpa using this
        have e1 : w3.cell? ⟨gb, i * 2 + 1, none⟩ = some sv := hce 1 _ rfl
        have HGZ := Lib.hid (List.getElem?_eq_getElem hil)
        have HROW := Lib.hid hrow3
        have HSV := Lib.hid hsv
        have HS1 := Lib.hid hs1
        have hs300 := (HF.out.2 _ (List.getElem_mem hil)).1
        generalize zs[i] = z at HGZ HSV HS1 hsv hs300
        obtain ⟨As, cs, rfl, hcs, hls⟩ := slr_form hsv
        have hi0 : (0 : Int) ≤ (i : Int) := by omega
        have hi9 : (i : Int) < (zs.length : Int) := by omega
        have hsz3 : wb.heap.size ≤ w3.heap.size := hb3.size
        clear ho3 hb3 H3 hrow3 hsv hce hs1
        have HAS := Lib.hid (HW.out w3 (.cells #[] 41))
        go_upto_region 10 with (at_builtin; refine wpList_append_R _ rfl _ _ 30 rfl w3.heap.size wb.heap.size 41 i1 (.agg #[.string ⟨#[]⟩, .int .i64 0, .int .i64 0, .slice none 0 0, .slice none 0 0]) 80 Tryz.underlying30 hj hy0 hy1 hy2 rfl (by decide) _ [] rfl (OwnR.empty (R := RSigned) (sz := 5) w3 (Nat.le_refl _)) As cs wb.heap.size z.sets rfl (HSV.out.keep rsigned_kept (HAS.out.mono hsz3)) (fun _ _ h => rsigned_one h) (by simp [maxLen]; omega) (by simp; omega) (by simp) (Nat.le_refl _) hsz3 rsigned_kept rsigned_more ?_; intro v4 w4 ho4 hb4 hg4; have H4 := Lib.hid (And.intro ho4 (HAS.out.trans hb4)); have hs4 : w3.heap.size ≤ w4.heap.size := (HAS.out.trans hb4).size; obtain ⟨c4, f4⟩ := bcell (HAS.out.trans hb4); obtain ⟨A4, p4, rfl⟩ := ho4.form; clear ho4 hb4 hg4)
        obtain ⟨ho4, hb4⟩ := H4.out
        rw [List.nil_append] at ho4
        have hcell6 : ∀ o, o ≠ i * 2 + 1 → (w4.setCell ⟨gb, i * 2 + 1, none⟩ (.slice A4 z.sets.length p4)).cell? ⟨gb, o, none⟩ = w3.cell? ⟨gb, o, none⟩ := fun o ho => (World.cell?_setCell_other _ _ _ _ (by intro e; cases e; exact ho rfl)).trans (hb4.cell hgb1)
        have k0 := (hcell6 (i * 2) (by omega)).trans e0
        have k1 : (w4.setCell ⟨gb, i * 2 + 1, none⟩ (.slice A4 z.sets.length p4)).cell? ⟨gb, i * 2 + 1, none⟩ = some (.slice A4 z.sets.length p4) := by
          have := (hb4.cell (p := ⟨gb, i * 2 + 1, none⟩) hgb1).trans e1
          simp [World.cell?_setCell_same, this]
        have kf : ∀ o, (w4.setCell ⟨gb, i * 2 + 1, none⟩ (.slice A4 z.sets.length p4)).frozen? ⟨gb, o, none⟩ = false := fun o => by
          have := (hb4.frozen (p := ⟨gb, o, none⟩) hgb1).trans (fz3 o)
          simp [go_sem, this]
        have HOM := Lib.hid (bad_own HO3.out hgb0 hb4 hgb1 HGZ.out HS1.out hs2 e0 e1 ho4 hs300)
        have hown4 : ∀ g, Value.ownBlock (.slice A4 z.sets.length p4) = some g → w3.heap.size ≤ g ∧ g < w4.heap.size := fun g hg => by
          obtain ⟨_, _, hoo, _⟩ := id ho4
          exact hoo.lt g hg
        have hb46 : Below gb w4 (w4.setCell ⟨gb, i * 2 + 1, none⟩ (.slice A4 z.sets.length p4)) := Below.setCell (Below.refl gb w4) (p := ⟨gb, i * 2 + 1, none⟩) (Nat.le_refl gb) _
        have HO6 := Lib.hid (ho4.keepB rsigned_kept (hb46.mono hgb0) (fun g hg => Below.heap_setCell _ _ _ _ (by have := (hown4 g hg).1; simp; omega)))
        have HB6 := Lib.hid ((hb4.mono hsz3).trans (hb46.mono hgb0))
        have HBW6 := Lib.hid (HBW3.out.trans (HB6.out.mono HBB.out.size))
        have hs6 : w3.heap.size ≤ (w4.setCell ⟨gb, i * 2 + 1, none⟩ (.slice A4 z.sets.length p4)).heap.size := by simp [World.setCell]; exact hs4
        have hown6 : ∀ g, Value.ownBlock (.slice A4 z.sets.length p4) = some g → w3.heap.size ≤ g ∧ g < (w4.setCell ⟨gb, i * 2 + 1, none⟩ (.slice A4 z.sets.length p4)).heap.size := fun g hg => by
          have := hown4 g hg
          simp [World.setCell]; exact this
        have HC6 := Lib.hid hcell6
        have HW6 := Lib.hid hown6
        have HFZ := Lib.hid kf
        clear ho4 hb4 H4 hcell6 hown4 hb46 hown6 e0 e1 c4 f4 fz3
        generalize w4.setCell ⟨gb, i * 2 + 1, none⟩ (.slice A4 z.sets.length p4) = W6 at k0 k1 HOM HO6 HB6 HBW6 hs6 HC6 HW6 HFZ kf ⊢
        have hgb6 : gb < W6.heap.size := by omega
        have hK := HK.out
        by_cases hap : s.toList = [46]
        · have hap1 : (s.toList == [46]) = true := by simp [hap]
          have HAP := Lib.hid hap
          clear hap
          go_wp2_with fail
          go_ret
          exact ⟨rfl, HBW6.out⟩
        · have hap1 : (s.toList == [46]) = false := by simp [hap]
          have HAP := Lib.hid hap
          clear hap
          go_upto_region 16 with fail
          have hb7 : Below W6.heap.size W6 ((W6.alloc (.cells #[.string ⟨#[97]⟩, .int .i64 0, .int .i64 0] 43)).alloc (.cells #[.string ⟨#[46]⟩, .int .i64 5, .int .i64 0, .slice (some ⟨W6.heap.size, 0, none⟩) 1 1] 39)) := (HW.out W6 _).trans ((HW.out _ _).mono (by simp))
          have m0 : ((W6.alloc (.cells #[.string ⟨#[97]⟩, .int .i64 0, .int .i64 0] 43)).alloc (.cells #[.string ⟨#[46]⟩, .int .i64 5, .int .i64 0, .slice (some ⟨W6.heap.size, 0, none⟩) 1 1] 39)).cell? ⟨W6.heap.size + 1, 0, none⟩ = some (.string ⟨#[46]⟩) := by simp [go_sem]
          have m1 : ((W6.alloc (.cells #[.string ⟨#[97]⟩, .int .i64 0, .int .i64 0] 43)).alloc (.cells #[.string ⟨#[46]⟩, .int .i64 5, .int .i64 0, .slice (some ⟨W6.heap.size, 0, none⟩) 1 1] 39)).cell? ⟨W6.heap.size + 1, 1, none⟩ = some (.int .i64 5) := by simp [go_sem]
          have m2 : ((W6.alloc (.cells #[.string ⟨#[97]⟩, .int .i64 0, .int .i64 0] 43)).alloc (.cells #[.string ⟨#[46]⟩, .int .i64 5, .int .i64 0, .slice (some ⟨W6.heap.size, 0, none⟩) 1 1] 39)).cell? ⟨W6.heap.size + 1, 2, none⟩ = some (.int .i64 0) := by simp [go_sem]
          have m3 : ((W6.alloc (.cells #[.string ⟨#[97]⟩, .int .i64 0, .int .i64 0] 43)).alloc (.cells #[.string ⟨#[46]⟩, .int .i64 5, .int .i64 0, .slice (some ⟨W6.heap.size, 0, none⟩) 1 1] 39)).cell? ⟨W6.heap.size + 1, 3, none⟩ = some (.slice (some ⟨W6.heap.size, 0, none⟩) 1 1) := by simp [go_sem]
          have hcd : CellsAt ((W6.alloc (.cells #[.string ⟨#[97]⟩, .int .i64 0, .int .i64 0] 43)).alloc (.cells #[.string ⟨#[46]⟩, .int .i64 5, .int .i64 0, .slice (some ⟨W6.heap.size, 0, none⟩) 1 1] 39)) W6.heap.size 0 [.string ⟨#[97]⟩, .int .i64 0, .int .i64 0] := (cellsAt_new W6 #[.string ⟨#[97]⟩, .int .i64 0, .int .i64 0] 43).keep (HW.out _ _) (by simp)
          have hs7 : ((W6.alloc (.cells #[.string ⟨#[97]⟩, .int .i64 0, .int .i64 0] 43)).alloc (.cells #[.string ⟨#[46]⟩, .int .i64 5, .int .i64 0, .slice (some ⟨W6.heap.size, 0, none⟩) 1 1] 39)).heap.size = W6.heap.size + 2 := by simp
          generalize (W6.alloc (.cells #[.string ⟨#[97]⟩, .int .i64 0, .int .i64 0] 43)).alloc (.cells #[.string ⟨#[46]⟩, .int .i64 5, .int .i64 0, .slice (some ⟨W6.heap.size, 0, none⟩) 1 1] 39) = W7 at hb7 m0 m1 m2 m3 hcd hs7 ⊢
          have HB7 := Lib.hid hb7
          have HCD := Lib.hid hcd
          have n1 := (hb7.cell (p := ⟨gb, i * 2 + 1, none⟩) hgb6).trans k1
          have nf : W7.frozen? ⟨gb, i * 2 + 1, none⟩ = false := (hb7.frozen (p := ⟨gb, i * 2 + 1, none⟩) hgb6).trans (kf _)
          have HO7 := Lib.hid (HO6.out.keep rsigned_kept hb7 (by omega))
          have hgb7 : gb < W7.heap.size := by omega
          have hne7 : ¬ W7.heap.size = gb := by omega
          have hne8 : ¬ gb = W7.heap.size := by omega
          have hset7 : W6.heap.size + 1 < W7.heap.size := by omega
          have HS7 := Lib.hid hs7
          clear hb7 hcd hs7
          have hbc : Below W7.heap.size W7 (W7.alloc (.cells [.string ⟨#[46]⟩, .int .i64 5, .int .i64 0, .slice (some ⟨W6.heap.size, 0, none⟩) 1 1, .slice none 0 0].toArray 41)).drew := ((Below.refl _ _).alloc (Nat.le_refl _) _).drew
          have HBC := Lib.hid hbc
          have hcs : W7.heap.size + 1 = (W7.alloc (.cells [.string ⟨#[46]⟩, .int .i64 5, .int .i64 0, .slice (some ⟨W6.heap.size, 0, none⟩) 1 1, .slice none 0 0].toArray 41)).drew.heap.size := by simp
          have HMk : Hid (∀ k, (fun k => k = gb ∨ k = W7.heap.size) k → wb.heap.size ≤ k) := Lib.hid (fun k e => by rcases e with rfl | rfl <;> omega)
          have HMo : Hid (∀ g, Value.ownBlock (.slice A4 z.sets.length p4) = some g → ¬ (fun k => k = gb ∨ k = W7.heap.size) g) := Lib.hid (fun g hg e => by
            have := HW6.out g hg
            rcases e with rfl | rfl <;> omega)
          have HMd : Hid (¬ (fun k => k = gb ∨ k = W7.heap.size) W6.heap.size) := Lib.hid (fun e => by rcases e with e | e <;> omega)
          have HRD : Hid (RSigned (sansP (W7.alloc (.cells [.string ⟨#[46]⟩, .int .i64 5, .int .i64 0, .slice (some ⟨W6.heap.size, 0, none⟩) 1 1, .slice none 0 0].toArray 41)).drew (fun k => k = gb ∨ k = W7.heap.size)) (W7.alloc (.cells [.string ⟨#[46]⟩, .int .i64 5, .int .i64 0, .slice (some ⟨W6.heap.size, 0, none⟩) 1 1, .slice none 0 0].toArray 41)).drew.heap.size [.string ⟨#[46]⟩, .int .i64 5, .int .i64 0, .slice (some ⟨W6.heap.size, 0, none⟩) 1 1, .slice none 0 0] (⟨⟨[46], 5, 0, [⟨[97], 0, 0⟩]⟩, []⟩ : Np.Signed)) :=
            Lib.hid ⟨⟨#[46]⟩, _, _, rfl, by decide, slr_sans (xs := [(⟨[97], 0, 0⟩ : Np.Datum)]) (HCD.out.keep HBC.out (by omega)) HMd.out (by omega) (by simp) (by simp) (fun j y hy => by
              match j, hy with
              | 0, hy => simp at hy; subst hy; exact ⟨[.string ⟨#[97]⟩, .int .i64 0, .int .i64 0], rfl, fun _ _ h => by simpa using h, ⟨#[97]⟩, rfl, by decide, rfl⟩
              | j + 1, hy => simp at hy), slr_none _ _, rfl⟩
          have HC1 : Hid (OwnM RSigned 5 41 W7.heap.size (fun k => k = gb ∨ k = W7.heap.size) (W7.alloc (.cells [.string ⟨#[46]⟩, .int .i64 5, .int .i64 0, .slice (some ⟨W6.heap.size, 0, none⟩) 1 1, .slice none 0 0].toArray 41)).drew (.slice (some ⟨W7.heap.size, 0, none⟩) 1 1) [(⟨⟨[46], 5, 0, [⟨[97], 0, 0⟩]⟩, []⟩ : Np.Signed)]) := Lib.hid (OwnM.one_new (Nat.le_refl _) (.inr rfl) rfl HRD.out)
          have HC2 : Hid (RowsM RSigned 5 (fun k => k = gb ∨ k = W7.heap.size) (W7.alloc (.cells [.string ⟨#[46]⟩, .int .i64 5, .int .i64 0, .slice (some ⟨W6.heap.size, 0, none⟩) 1 1, .slice none 0 0].toArray 41)).drew A4 z.sets) := Lib.hid (rowsM_slr (own_sansM (HO7.out.keep rsigned_kept HBC.out (by omega)) HMk.out HMo.out (by omega) (by omega)) (by decide))
          have HH1 : Hid ([(⟨⟨[46], 5, 0, [⟨[97], 0, 0⟩]⟩, []⟩ : Np.Signed)].length + z.sets.length ≤ maxLen) := Lib.hid (by simp [maxLen]; omega)
          have HH2 : Hid (([(⟨⟨[46], 5, 0, [⟨[97], 0, 0⟩]⟩, []⟩ : Np.Signed)].length + z.sets.length) * 80 ≤ 140737488355328) := Lib.hid (by simp; omega)
          have HH3 : Hid (W7.heap.size ≤ (W7.alloc (.cells [.string ⟨#[46]⟩, .int .i64 5, .int .i64 0, .slice (some ⟨W6.heap.size, 0, none⟩) 1 1, .slice none 0 0].toArray 41)).drew.heap.size) := Lib.hid (by omega)
          have HCS := Lib.hid hcs
          clear hbc hcs
          go_region_law ((refine step_append_M (M := (fun k => k = gb ∨ k = W7.heap.size)) _ (by rfl) _ _ 30 (by rfl) W7.heap.size 41 i1 (.agg #[.string ⟨#[]⟩, .int .i64 0, .int .i64 0, .slice none 0 0, .slice none 0 0]) 80 Tryz.underlying30 hj hy0 hy1 hy2 (by rfl) (by decide) _ [(⟨⟨[46], 5, 0, [⟨[97], 0, 0⟩]⟩, []⟩ : Np.Signed)] (by rfl) HC1.out A4 p4 z.sets (by rfl) HC2.out (fun _ _ _ _ h => rsigned_one h) HH1.out HH2.out HH3.out rsigned_kept rsigned_sans rsigned_more ?_; intro v9 w9 ho9 hg9 hat9; replace hg9 : World.grownBy _ w9 (some W7.heap.size) := hg9; have hbw := HBC.out.trans ((Below.refl _ _).grown hg9 HH3.out (fun k hk => by cases hk; exact Nat.le_refl _)); have q1 := (hbw.cell (p := ⟨gb, i * 2 + 1, none⟩) hgb7).trans n1; have q2 := (hbw.frozen (p := ⟨gb, i * 2 + 1, none⟩) hgb7).trans nf; have H9 := Lib.hid (And.intro ho9 hbw); obtain ⟨A9, n9, c9, rfl, HN9⟩ := ho9.formN; clear ho9 hg9 hat9 hbw))
          all_goals
            go_wp2_with fail
            obtain ⟨ho9, hbw⟩ := H9.out
            have HB69 := Lib.hid (HB7.out.trans (hbw.mono HB7.out.size))
            have hgn : ∀ g, Value.ownBlock (.slice A9 n9 c9) = some g → W7.heap.size ≤ g := fun g hg => by
              obtain ⟨_, _, hoo, _⟩ := id ho9
              exact (hoo.lt g hg).1
            have HS9 := Lib.hid ((ho9.leaves rsigned_kept rsigned_sans rsigned_more (Leaves'.setCell _ w9 (p := ⟨gb, i * 2 + 1, none⟩) (.inl (.inl rfl)) (.slice A9 n9 c9)) (fun g hg => ⟨Below.heap_setCell _ _ _ _ (by have := hgn g hg; simp; omega), .inr hg⟩)).slr rsigned_sans (by simp; omega))
            have HRD9 := Lib.hid (read_set HROW.out HB6.out HC6.out HB69.out q1 hgb6 hgb0 HGZ.out HS9.out hc3 hn1)
            have HBF := Lib.hid ((HBW6.out.trans (HB69.out.mono HBW6.out.size)).setCell (p := ⟨gb, i * 2 + 1, none⟩) (show w.heap.size ≤ gb by have := HBB.out.size; omega) (.slice A9 n9 c9))
            have HP7 := Lib.hid (Np.refuse_under HP.out HGZ.out (fun e => HAP.out (by rw [ByteArray.toList_eq, HS1.out]; exact e)) ⟨⟨[46], 5, 0, [⟨[97], 0, 0⟩]⟩, []⟩ rfl z.sets)
            clear ho9 hbw hgn H9
            first
              | refine (print_at _ _ _ (HI.out.keep HBF.out) HRD9.out HP7.out).mono ?_
              | refine (print_at _ _ _ (HI.out.keep HBF.out.drew) (HRD9.out.later rzone_kept rzone_more (Below.refl _ _).drew) HP7.out).mono ?_
            rintro e w8 ⟨rfl, hb8⟩
            have HB8 := Lib.hid hb8
            clear hb8
            go_wp2_with fail
            go_ret
            first
              | exact ⟨rfl, HBF.out.trans (HB8.out.mono HBF.out.size)⟩
              | exact ⟨rfl, HBF.out.drew.trans (HB8.out.mono HBF.out.size)⟩
      · have hn1' : (n == 0) = false := by simpa using hn0
        have hn2' : (n != 0) = true := by simpa using hn0
        have HN0 := Lib.hid hn0
        clear hn0
        go_wp2_with fail
        go_ret
        exact ⟨rfl, HBB.out⟩
end Go.Proofs.YtnbolgdccdnjeaaGreatDoor
