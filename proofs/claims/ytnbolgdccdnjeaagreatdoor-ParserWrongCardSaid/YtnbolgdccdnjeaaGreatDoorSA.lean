/- Joined by program from: AppSl, Sans. No condition. -/
import Derived.Test.YtnbolgdccdnjeaaGreatDoorKA
import Derived.Laws.AppendOwnNone
import Derived.Test.YtnbolgdccdnjeaaGreatDoorNB
/- A slice that is appended to a row of the call's own, element by element. No condition. -/
namespace Go.Proofs.YtnbolgdccdnjeaaGreatDoor
open Go.RowKit
/-- The row v of the call's own reads as xs; what its elements lead to lies below B. -/
def OwnR {α : Type} (R : World → Nat → List Value → α → Prop) (sz : Nat) (e : TypeId) (base B : Nat) (w : World) (v : Value) (xs : List α) : Prop :=
  ∃ rows : List (List Value), rows.length = xs.length ∧ w.ownsRow base e sz v xs.length rows.flatten ∧ ∀ (i : Nat) (r : List Value) (x : α), rows[i]? = some r → xs[i]? = some x → r.length = sz ∧ R w B r x
theorem flatten_at {sz : Nat} : ∀ (rows : List (List Value)) (i j : Nat) (r : List Value) (u : Value), (∀ q ∈ rows, q.length = sz) → rows[i]? = some r → r[j]? = some u → rows.flatten[i * sz + j]? = some u := by
  intro rows
  induction rows with
  | nil => intro i j r u _ h; simp at h
  | cons q rows ih =>
    intro i j r u hq h hj
    have hl : q.length = sz := hq q (by simp)
    rw [List.flatten_cons]
    cases i with
    | zero =>
      simp at h; subst h
      rw [List.getElem?_append_left (by have := (List.getElem?_eq_some_iff.1 hj).1; omega)]
      simpa using hj
    | succ i =>
      rw [List.getElem?_append_right (by rw [hl, Nat.succ_mul]; omega), hl, show (i + 1) * sz + j - sz = i * sz + j by rw [Nat.succ_mul]; omega]
      exact ih i j r u (fun q hq' => hq q (by simp [hq'])) (by simpa using h) hj
theorem flatten_len {sz : Nat} : ∀ (rows : List (List Value)), (∀ q ∈ rows, q.length = sz) → rows.flatten.length = rows.length * sz := by
  intro rows
  induction rows with
  | nil => intro _; simp
  | cons q rs ih =>
    intro h
    rw [List.flatten_cons, List.length_append, ih (fun x hx => h x (by simp [hx])), h q (by simp), List.length_cons, Nat.succ_mul]; omega
theorem OwnR.rows_len {α : Type} {R : World → Nat → List Value → α → Prop} {sz B : Nat} {w : World} {xs : List α} {rows : List (List Value)} (hl : rows.length = xs.length) (h : ∀ (i : Nat) (r : List Value) (x : α), rows[i]? = some r → xs[i]? = some x → r.length = sz ∧ R w B r x) : ∀ q ∈ rows, q.length = sz := fun q hq => by
  obtain ⟨i, hi, rfl⟩ := List.mem_iff_getElem.1 hq
  exact (h i _ _ (List.getElem?_eq_getElem hi) (List.getElem?_eq_getElem (by omega))).1
theorem OwnR.slr {α : Type} {R : World → Nat → List Value → α → Prop} {sz : Nat} {e : TypeId} {base B : Nat} {w : World} {v : Value} {xs : List α} (h : OwnR R sz e base B w v xs) (hm : MoreR R) (hB : B ≤ w.heap.size) (hl : xs.length ≤ 140737488355328) : SlR R sz w w.heap.size v xs := by
  obtain ⟨rows, h1, h2, h3⟩ := h
  rcases h2.2 with ⟨rfl, h0⟩ | ⟨g, cap, cur, rfl, hb, hg, hnc, _⟩
  · have : xs = [] := List.eq_nil_of_length_eq_zero h0
    subst this
    exact ⟨none, 0, rfl, by simp, by simp, fun i x hx => by simp at hx⟩
  · refine ⟨_, cap, rfl, hnc, hl, fun i x hx => ?_⟩
    have hi := (List.getElem?_eq_some_iff.1 hx).1
    have hr := List.getElem?_eq_getElem (show i < rows.length by omega)
    obtain ⟨h4, h5⟩ := h3 i _ x hr hx
    refine ⟨g, 0, rows[i], rfl, (Array.getElem?_eq_some_iff.1 hg).1, h4, fun j u hj => ?_, hm _ _ _ _ _ h5 hB⟩
    have h6 := h2.cells (g := g) rfl _ _ (flatten_at rows i j _ u (OwnR.rows_len h1 h3) hr hj)
    have hadd : (⟨g, 0, none⟩ : Addr).add (i * sz + j) = ⟨g, 0 + i * sz + j, none⟩ := by unfold Addr.add; split <;> simp_all
    rw [hadd] at h6
    exact h6
theorem OwnR.keep {α : Type} {R : World → Nat → List Value → α → Prop} {sz : Nat} {e : TypeId} {base B : Nat} {w w' : World} {v : Value} {xs : List α} (h : OwnR R sz e base B w v xs) (hk : KeptR R) (hb : Below w.heap.size w w') (hB : B ≤ w.heap.size) : OwnR R sz e base B w' v xs := by
  obtain ⟨rows, h1, h2, h3⟩ := h
  refine ⟨rows, h1, ownsRow_keep h2 (fun g hg => hb.block g (h2.lt g hg).2), fun i r x hr hx => ?_⟩
  obtain ⟨h4, h5⟩ := h3 i r x hr hx
  exact ⟨h4, hk _ _ _ _ _ h5 (hb.mono hB)⟩
theorem OwnR.nil {α : Type} {R : World → Nat → List Value → α → Prop} {sz : Nat} {e : TypeId} {base B : Nat} (w : World) : OwnR (α := α) R sz e base B w (.slice none 0 0) [] := ⟨[], rfl, ⟨by simp, .inl ⟨rfl, rfl⟩⟩, fun i r x hr => by simp at hr⟩
section
variable {P : Program}
theorem run_append_none_any {w : World} (base : Nat) (t ty e : TypeId) (i : TypeInfo) (size : Nat) (ht : P.underlying t = some (.slice e)) (hi : P.info? e = some i) (v : Value) (n c : Nat) (xs : List Value) (hown : w.ownsRow base e size v n xs) :
    (Builtin.append_ #[t, t] ty #[v, .slice none 0 c]).run P w = .ok v w := by
  rcases hown.2 with ⟨rfl, rfl⟩ | ⟨g, cap, cur, rfl, _, _, hnc, _⟩
  · simp [Builtin.append_, run_underlying ht, sizeOf, typeInfo, hi, Builtin.lenOf, Builtin.firstCells]
  · simp [Builtin.append_, run_underlying ht, sizeOf, typeInfo, hi, Builtin.lenOf, Builtin.firstCells, hnc, storeCells]
end
end Go.Proofs.YtnbolgdccdnjeaaGreatDoor
/- Reading around memory that may be written: the mutable blocks are taken for empty. No condition. -/
namespace Go.Proofs.YtnbolgdccdnjeaaGreatDoor
open Go.RowKit
open Classical in
/-- The world with the blocks M taken for empty. -/
noncomputable def sansP (w : World) (M : Nat → Prop) : World := { w with heap := w.heap.mapIdx fun k o => if M k then .cells #[] 0 else o }
theorem sansP_size (w : World) (M : Nat → Prop) : (sansP w M).heap.size = w.heap.size := by simp [sansP]
theorem sansP_out {w : World} {M : Nat → Prop} {k : Nat} (h : ¬ M k) : (sansP w M).heap[k]? = w.heap[k]? := by
  unfold sansP
  simp only [Array.getElem?_mapIdx, h, if_false]
  cases w.heap[k]? <;> rfl
theorem sansP_in {w : World} {M : Nat → Prop} {k : Nat} (h : M k) : (sansP w M).heap[k]? = (w.heap[k]?).map fun _ => Obj.cells #[] 0 := by
  unfold sansP
  simp only [Array.getElem?_mapIdx, h, if_true]
theorem sansP_cell {w : World} {M : Nat → Prop} {p : Addr} {v : Value} (h : (sansP w M).cell? p = some v) : ¬ M p.block ∧ w.cell? p = some v := by
  by_cases hm : M p.block
  · exfalso
    unfold World.cell? at h
    rw [sansP_in hm] at h
    cases hh : w.heap[p.block]? with
    | none => simp [hh] at h
    | some o => simp [hh] at h
  · refine ⟨hm, ?_⟩
    rw [← h]
    exact (World.cell?_of_block (w := w) (sansP_out hm)).symm
theorem sansP_cell_of {w : World} {M : Nat → Prop} {p : Addr} (h : ¬ M p.block) : (sansP w M).cell? p = w.cell? p := World.cell?_of_block (w := w) (sansP_out h)
/-- R may be read with fewer blocks left out. -/
def SansR {α : Type} (R : World → Nat → List Value → α → Prop) : Prop := ∀ w (M M' : Nat → Prop) B e x, (∀ k, M' k → M k) → R (sansP w M) B e x → R (sansP w M') B e x
theorem CellsAt.sans {w : World} {M M' : Nat → Prop} {b o : Nat} {e : List Value} (hM : ∀ k, M' k → M k) (h : CellsAt (sansP w M) b o e) : CellsAt (sansP w M') b o e := fun j v hj => by
  obtain ⟨h1, h2⟩ := sansP_cell (h j v hj)
  rw [sansP_cell_of (fun e => h1 (hM _ e))]
  exact h2
theorem SlR.sans {α : Type} {R : World → Nat → List Value → α → Prop} {sz : Nat} {w : World} {M M' : Nat → Prop} {B : Nat} {v : Value} {xs : List α} (hR : SansR R) (hM : ∀ k, M' k → M k) (h : SlR R sz (sansP w M) B v xs) : SlR R sz (sansP w M') B v xs := by
  obtain ⟨A, c, hv, hc, hl, he⟩ := h
  refine ⟨A, c, hv, hc, hl, fun i x hx => ?_⟩
  obtain ⟨b, o, e, hA, hB, hel, hce, hr⟩ := he i x hx
  exact ⟨b, o, e, hA, hB, hel, hce.sans hM, hR _ _ _ _ _ _ hM hr⟩
theorem sansP_none (w : World) : sansP w (fun _ => False) = w := by
  unfold sansP
  cases w
  simp only [World.mk.injEq, and_true]
  apply Array.ext_getElem?
  intro i
  simp only [Array.getElem?_mapIdx, if_false]
  rename_i heap _ _ _ _
  cases heap[i]? <;> rfl
theorem SlR.all {α : Type} {R : World → Nat → List Value → α → Prop} {sz : Nat} {w : World} {M : Nat → Prop} {B : Nat} {v : Value} {xs : List α} (hR : SansR R) (h : SlR R sz (sansP w M) B v xs) : SlR R sz w B v xs := by
  have := h.sans (M' := fun _ => False) hR (fun _ e => e.elim)
  rw [sansP_none] at this
  exact this
theorem rdatum_sans : SansR RDatum := fun _ _ _ _ _ _ _ h => h
theorem rsig_sans : SansR RSig := fun _ _ _ _ _ _ _ h => h
theorem rsigned_sans : SansR RSigned := fun _ _ _ _ _ _ hM ⟨s, v, u, h1, h2, h3, h4, h5⟩ => ⟨s, v, u, h1, h2, h3.sans rdatum_sans hM, h4.sans rsig_sans hM, h5⟩
theorem rzone_sans : SansR RZone := fun _ _ _ _ _ _ hM ⟨s, v, h1, h2, h3, h5⟩ => ⟨s, v, h1, h2, h3.sans rsigned_sans hM, h5⟩
theorem SansR.all {α : Type} {R : World → Nat → List Value → α → Prop} (hR : SansR R) {w : World} {M : Nat → Prop} {B : Nat} {e : List Value} {x : α} (h : R (sansP w M) B e x) : R w B e x := by
  have := hR w M (fun _ => False) B e x (fun _ e => e.elim) h
  rw [sansP_none] at this
  exact this
/-- What a step leaves: blocks that are not mutable stay; the new mutable ones are old mutable ones, or new. -/
structure Leaves' (M : Nat → Prop) (w w' : World) (M' : Nat → Prop) : Prop where
  os : w'.os = w.os
  tape : w'.tape = w.tape
  output : w'.output = w.output
  size : w.heap.size ≤ w'.heap.size
  keep : ∀ k, k < w.heap.size → ¬ M k → ¬ M' k ∧ w'.heap[k]? = w.heap[k]?
theorem Leaves'.refl (M : Nat → Prop) (w : World) : Leaves' M w w M := ⟨rfl, rfl, rfl, Nat.le_refl _, fun _ _ h => ⟨h, rfl⟩⟩
theorem Leaves'.trans {M M' M'' : Nat → Prop} {a b c : World} (h : Leaves' M a b M') (k : Leaves' M' b c M'') : Leaves' M a c M'' :=
  ⟨k.os.trans h.os, k.tape.trans h.tape, k.output.trans h.output, Nat.le_trans h.size k.size, fun i hi hm => by
    obtain ⟨h1, h2⟩ := h.keep i hi hm
    obtain ⟨h3, h4⟩ := k.keep i (Nat.lt_of_lt_of_le hi h.size) h1
    exact ⟨h3, h4.trans h2⟩⟩
theorem Leaves'.of_below {M : Nat → Prop} {w w' : World} (h : Below w.heap.size w w') : Leaves' M w w' M := ⟨h.os, h.tape, h.output, h.size, fun k hk hm => ⟨hm, h.block k hk⟩⟩
theorem Leaves'.setCell (M : Nat → Prop) (w : World) {p : Addr} (hp : M p.block) (v : Value) : Leaves' M w (w.setCell p v) M :=
  ⟨rfl, rfl, rfl, by simp [World.setCell], fun k _ hm => ⟨hm, Below.heap_setCell _ _ _ _ (fun e => hm (e ▸ hp))⟩⟩
theorem Leaves'.grown {M : Nat → Prop} {w w' : World} {row : Option Nat} (hg : w.grownBy w' row) (hr : ∀ k, row = some k → M k) : Leaves' M w w' M :=
  ⟨hg.os, hg.tape, hg.output, hg.size, fun k hk hm => ⟨hm, hg.block k hk (fun e => hm (hr k e.symm))⟩⟩
/-- A new block, or any at all, becomes mutable. -/
theorem Leaves'.more {M M' N : Nat → Prop} {w w' : World} (h : Leaves' M w w' M') (hN : ∀ k, N k → M' k ∨ w.heap.size ≤ k) : Leaves' M w w' N :=
  ⟨h.os, h.tape, h.output, h.size, fun k hk hm => ⟨fun e => (hN k e).elim (h.keep k hk hm).1 (by omega), (h.keep k hk hm).2⟩⟩
theorem Leaves'.read {α : Type} {R : World → Nat → List Value → α → Prop} (hk : KeptR R) (hs : SansR R) (hm : MoreR R) {M M' : Nat → Prop} {w w' : World} (h : Leaves' M w w' M') {e : List Value} {x : α} (hr : R (sansP w M) w.heap.size e x) : R (sansP w' M') w'.heap.size e x := by
  have hb : Below w.heap.size (sansP w M) (sansP w' fun k => M k ∨ M' k) := by
    refine ⟨h.os, h.tape, h.output, by rw [sansP_size, sansP_size]; exact h.size, fun k hk => ?_⟩
    by_cases hM : M k
    · rw [sansP_in hM, sansP_in (M := fun k => M k ∨ M' k) (Or.inl hM)]
      have h1 : k < w'.heap.size := Nat.lt_of_lt_of_le hk h.size
      rw [Array.getElem?_eq_getElem hk, Array.getElem?_eq_getElem h1]
      rfl
    · obtain ⟨h1, h2⟩ := h.keep k hk hM
      rw [sansP_out hM, sansP_out (M := fun k => M k ∨ M' k) (fun e => e.elim hM h1), h2]
  exact hm _ _ _ _ _ (hs _ _ _ _ _ _ (fun k e => Or.inr e) (hk _ _ _ _ _ hr hb)) h.size
/-- A row of the call's own among the mutable blocks, whose elements are read around them. -/
def OwnM {α : Type} (R : World → Nat → List Value → α → Prop) (sz : Nat) (e : TypeId) (base : Nat) (M : Nat → Prop) (w : World) (v : Value) (xs : List α) : Prop :=
  ∃ rows : List (List Value), rows.length = xs.length ∧ w.ownsRow base e sz v xs.length rows.flatten ∧ (∀ g, v.ownBlock = some g → M g) ∧
    ∀ (i : Nat) (r : List Value) (x : α), rows[i]? = some r → xs[i]? = some x → r.length = sz ∧ R (sansP w M) w.heap.size r x
theorem OwnM.nil {α : Type} {R : World → Nat → List Value → α → Prop} {sz : Nat} {e : TypeId} {base : Nat} {M : Nat → Prop} (w : World) : OwnM (α := α) R sz e base M w (.slice none 0 0) [] :=
  ⟨[], rfl, ⟨by simp, .inl ⟨rfl, rfl⟩⟩, (fun g h => by cases h), fun i r x h => by simp at h⟩
theorem OwnM.form {α : Type} {R : World → Nat → List Value → α → Prop} {sz : Nat} {e : TypeId} {base : Nat} {M : Nat → Prop} {w : World} {v : Value} {xs : List α} (h : OwnM R sz e base M w v xs) : ∃ A c, v = .slice A xs.length c := by
  obtain ⟨rows, h1, h2, h3⟩ := h
  rcases h2.2 with ⟨rfl, h0⟩ | ⟨g, cap, cur, rfl, _⟩
  · exact ⟨none, 0, by rw [h0]⟩
  · exact ⟨_, cap, rfl⟩
theorem OwnM.leaves {α : Type} {R : World → Nat → List Value → α → Prop} (hk : KeptR R) (hs : SansR R) (hm : MoreR R) {sz : Nat} {e : TypeId} {base : Nat} {M M' : Nat → Prop} {w w' : World} {v : Value} {xs : List α} (h : OwnM R sz e base M w v xs) (hl : Leaves' M w w' M')
    (ho : ∀ g, v.ownBlock = some g → w'.heap[g]? = w.heap[g]? ∧ M' g) : OwnM R sz e base M' w' v xs := by
  obtain ⟨rows, h1, h2, h3, h4⟩ := h
  exact ⟨rows, h1, ownsRow_keep h2 (fun g hg => (ho g hg).1), fun g hg => (ho g hg).2, fun i r x hr hx => ⟨(h4 i r x hr hx).1, hl.read hk hs hm (h4 i r x hr hx).2⟩⟩
theorem OwnM.slr {α : Type} {R : World → Nat → List Value → α → Prop} (hs : SansR R) {sz : Nat} {e : TypeId} {base : Nat} {M : Nat → Prop} {w : World} {v : Value} {xs : List α} (h : OwnM R sz e base M w v xs) (hl : xs.length ≤ 140737488355328) : SlR R sz w w.heap.size v xs := by
  obtain ⟨rows, h1, h2, h3, h4⟩ := h
  have hl' := OwnR.rows_len (w := sansP w M) (B := w.heap.size) h1 h4
  rcases h2.2 with ⟨rfl, h0⟩ | ⟨g, cap, cur, rfl, hb, hg, hnc, _⟩
  · have : xs = [] := List.eq_nil_of_length_eq_zero h0
    subst this
    exact ⟨none, 0, rfl, by simp, by simp, fun i x hx => by simp at hx⟩
  · refine ⟨_, cap, rfl, hnc, hl, fun i x hx => ?_⟩
    have hi := (List.getElem?_eq_some_iff.1 hx).1
    have hr := List.getElem?_eq_getElem (l := rows) (i := i) (by omega)
    obtain ⟨h5, h6⟩ := h4 i _ x hr hx
    refine ⟨g, 0, rows[i], rfl, (Array.getElem?_eq_some_iff.1 hg).1, h5, fun j u hj => ?_, hs.all h6⟩
    have h7 := h2.cells (g := g) rfl _ _ (flatten_at rows i j _ u hl' hr hj)
    have hadd : (⟨g, 0, none⟩ : Addr).add (i * sz + j) = ⟨g, 0 + i * sz + j, none⟩ := by unfold Addr.add; split <;> simp_all
    rw [hadd] at h7
    exact h7
/-- The cells of a slice read as ys now, around the mutable blocks (the slice itself may lie anywhere). -/
def RowsM {α : Type} (R : World → Nat → List Value → α → Prop) (sz : Nat) (M : Nat → Prop) (w : World) (A : Option Addr) (ys : List α) : Prop :=
  ∃ rows : List (List Value), rows.length = ys.length ∧ (∀ (i : Nat) (r : List Value) (x : α), rows[i]? = some r → ys[i]? = some x → r.length = sz ∧ R (sansP w M) w.heap.size r x) ∧ (ys ≠ [] → ∃ b o, A = some ⟨b, o, none⟩ ∧ ∀ j u, rows.flatten[j]? = some u → w.cell? ((⟨b, o, none⟩ : Addr).add j) = some u)
theorem rowsM_one {α : Type} {R : World → Nat → List Value → α → Prop} {sz : Nat} {M : Nat → Prop} {w : World} {b o : Nat} {r : List Value} {x : α} (hl : r.length = sz) (hr : R (sansP w M) w.heap.size r x) (hc : CellsAt w b o r) : RowsM R sz M w (some ⟨b, o, none⟩) [x] := by
  refine ⟨[r], rfl, fun i r' x' h1 h2 => ?_, fun _ => ⟨b, o, rfl, fun j u hj => ?_⟩⟩
  · cases i with
    | zero => simp at h1 h2; subst h1; subst h2; exact ⟨hl, hr⟩
    | succ i => simp at h1
  · have hadd : (⟨b, o, none⟩ : Addr).add j = ⟨b, o + j, none⟩ := by unfold Addr.add; split <;> simp_all
    rw [hadd]
    exact hc j u (by simpa using hj)
section
variable {P : Program}
theorem run_append_M {α : Type} {R : World → Nat → List Value → α → Prop} {sz : Nat} {M : Nat → Prop} (w : World) (t ty : TypeId)
    (base : Nat) (e : TypeId) (i : TypeInfo) (z : Value) (bytes : Nat) (ht : P.underlying t = some (.slice e)) (hi : P.info? e = some i) (hz : i.zero = some z) (hsize : i.size = sz) (hby : i.bytes = bytes) (hzs : z.cells.size = sz) (hsz : 0 < sz)
    (v : Value) (xs : List α) (hown : OwnM R sz e base M w v xs) (A : Option Addr) (c : Nat) (ys : List α) (hsl : RowsM R sz M w A ys)
    (hone : ∀ w B r y, R w B r y → ∀ u ∈ r, u.oneCell' = true) (h63 : xs.length + ys.length ≤ maxLen) (hbytes : (xs.length + ys.length) * bytes ≤ 140737488355328) (hbase : base ≤ w.heap.size) (hk : KeptR R) (hs : SansR R) (hm : MoreR R) :
    ∃ v' w', (Builtin.append_ #[t, t] ty #[v, .slice A ys.length c]).run P w = .ok v' w' ∧ OwnM R sz e base (fun k => M k ∨ v'.ownBlock = some k) w' v' (xs ++ ys) ∧ w.grownBy w' v.ownBlock ∧ (v'.ownBlock = v.ownBlock ∨ v'.ownBlock = some w.heap.size) := by
  have hkeep : ∀ (w' : World) (v' : Value) (rows rows' : List (List Value)), w.grownBy w' v.ownBlock → (v'.ownBlock = v.ownBlock ∨ v'.ownBlock = some w.heap.size) → (∀ g, v.ownBlock = some g → M g) → rows.length = xs.length → (∀ (i : Nat) (r : List Value) (x : α), rows[i]? = some r → xs[i]? = some x → r.length = sz ∧ R (sansP w M) w.heap.size r x) → rows'.length = ys.length →
      (∀ (i : Nat) (r : List Value) (x : α), rows'[i]? = some r → ys[i]? = some x → r.length = sz ∧ R (sansP w M) w.heap.size r x) → w'.ownsRow base e sz v' (xs.length + ys.length) (rows.flatten ++ rows'.flatten) → OwnM R sz e base (fun k => M k ∨ v'.ownBlock = some k) w' v' (xs ++ ys) := by
    intro w' v' rows rows' hg hat hMv h1 h2 h3 h4 h5
    have hlv : Leaves' M w w' (fun k => M k ∨ v'.ownBlock = some k) := (Leaves'.grown hg hMv).more (fun k e => by
      rcases e with e | e
      · exact .inl e
      · rcases hat with h | h
        · exact .inl (hMv k (h ▸ e))
        · rw [h] at e; cases e; exact .inr (Nat.le_refl _))
    refine ⟨rows ++ rows', by simp [h1, h3], ?_, fun g hg' => .inr hg', fun j r y hr hy => ?_⟩
    · rw [List.length_append, List.flatten_append]; exact h5
    · rcases Nat.lt_or_ge j rows.length with hlt | hge
      · rw [List.getElem?_append_left hlt] at hr
        rw [List.getElem?_append_left (by omega)] at hy
        obtain ⟨h6, h7⟩ := h2 j r y hr hy
        exact ⟨h6, hlv.read hk hs hm h7⟩
      · rw [List.getElem?_append_right hge] at hr
        rw [List.getElem?_append_right (by omega), ← h1] at hy
        obtain ⟨h6, h7⟩ := h4 _ r y hr hy
        exact ⟨h6, hlv.read hk hs hm h7⟩
  obtain ⟨rows, h1, h2, hMv, h3⟩ := hown
  obtain ⟨rows', h4, h5, h6⟩ := hsl
  by_cases hy : ys = []
  · subst hy
    have hr0 : rows' = [] := List.eq_nil_of_length_eq_zero (by simpa using h4)
    subst hr0
    cases A with
    | none =>
      have hrun := run_append_none_any (P := P) base t ty e i sz ht hi v xs.length c rows.flatten h2
      have hg : w.grownBy w v.ownBlock := ⟨rfl, rfl, rfl, Nat.le_refl _, fun _ _ _ => rfl⟩
      exact ⟨v, w, hrun, hkeep w v rows [] hg (.inl rfl) hMv h1 h3 rfl (fun j r y hr => by simp at hr) (by simpa using h2), hg, .inl rfl⟩
    | some ad =>
      obtain ⟨v', w', hr, ho', hg, _, hat⟩ := run_append_own_at (P := P) w base t ty e i z sz bytes ht hi hz hsize hby hzs hsz v xs.length rows.flatten h2 ad 0 c [] (by simp) (fun j u hj => by simp at hj) (fun u hu => by cases hu) (by simpa using h63) (by simpa using hbytes) hbase
      exact ⟨v', w', hr, hkeep w' v' rows [] hg hat hMv h1 h3 rfl (fun j r y hr => by simp at hr) (by simpa using ho'), hg, hat⟩
  · obtain ⟨b, o', rfl, hcell⟩ := h6 hy
    have hl := OwnR.rows_len (w := sansP w M) (B := w.heap.size) h4 h5
    obtain ⟨v', w', hr, ho', hg, _, hat⟩ := run_append_own_at (P := P) w base t ty e i z sz bytes ht hi hz hsize hby hzs hsz v xs.length rows.flatten h2 ⟨b, o', none⟩ ys.length c rows'.flatten (by rw [flatten_len rows' hl, h4]) hcell (fun u hu => by
      obtain ⟨r, hr, hur⟩ := List.mem_flatten.1 hu
      obtain ⟨j, hj, rfl⟩ := List.mem_iff_getElem.1 hr
      exact hone _ _ _ _ (h5 j _ _ (List.getElem?_eq_getElem hj) (List.getElem?_eq_getElem (by omega))).2 u hur) h63 hbytes hbase
    exact ⟨v', w', hr, hkeep w' v' rows rows' hg hat hMv h1 h3 h4 h5 ho', hg, hat⟩
theorem wp_append_M {α : Type} {R : World → Nat → List Value → α → Prop} {sz : Nat} {M : Nat → Prop} (w : World) {o : Oper} {a : Act} {K : Act → World → Prop} {Q : Exit → Act → World → Prop} (s x : Operand) (t : TypeId)
    (ho : o.op = .call { callee := .builtin .append, args := #[s, x], argTypes := #[t, t] })
    (base : Nat) (e : TypeId) (i : TypeInfo) (z : Value) (bytes : Nat) (ht : P.underlying t = some (.slice e)) (hi : P.info? e = some i) (hz : i.zero = some z) (hsize : i.size = sz) (hby : i.bytes = bytes) (hzs : z.cells.size = sz) (hsz : 0 < sz)
    (v : Value) (xs : List α) (hv : a.eval s = v) (hown : OwnM R sz e base M w v xs) (A : Option Addr) (c : Nat) (ys : List α) (hx : a.eval x = .slice A ys.length c) (hsl : RowsM R sz M w A ys)
    (hone : ∀ w B r y, R w B r y → ∀ u ∈ r, u.oneCell' = true) (h63 : xs.length + ys.length ≤ maxLen) (hbytes : (xs.length + ys.length) * bytes ≤ 140737488355328) (hbase : base ≤ w.heap.size) (hk : KeptR R) (hs : SansR R) (hm : MoreR R)
    (h : ∀ v' w', OwnM R sz e base (fun k => M k ∨ v'.ownBlock = some k) w' v' (xs ++ ys) → w.grownBy w' v.ownBlock → (v'.ownBlock = v.ownBlock ∨ v'.ownBlock = some w.heap.size) → K (a.put o.dst v') w') : o.wp P a w K Q := by
  obtain ⟨v', w', hr, h2, h4, h5⟩ := run_append_M (P := P) w t o.type base e i z bytes ht hi hz hsize hby hzs hsz v xs hown A c ys hsl hone h63 hbytes hbase hk hs hm
  unfold Oper.wp execOp
  simp only [ho, resolve, invoke, builtin, Sem.run_bind, Sem.run_pure, Result.andThen_ok, List.map_toArray, List.map_cons, List.map_nil, hv, hx, hr]
  exact h v' w' h2 h4 h5
end
end Go.Proofs.YtnbolgdccdnjeaaGreatDoor
