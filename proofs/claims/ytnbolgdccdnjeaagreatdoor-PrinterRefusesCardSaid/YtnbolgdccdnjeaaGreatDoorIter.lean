/- A range over a function, at the wide fence: a law for the caller and the form of an iterator's contract, with footprints. No condition. -/
import Derived.RangeFuncRecord
import Derived.RangeFuncSeq
import Derived.RangeFuncBox
import Derived.WalkKit
namespace Go.Proofs.YtnbolgdccdnjeaaGreatDoor
open Go.RowKit

/-- WHAT AN ITERATOR's OWN STEP KEEPS: whatever lay below B, and whatever is the body's (S). -/
structure ItStep (B : Nat) (S : Nat → Prop) (W W' : World) : Prop where
  os : W'.os = W.os
  tape : W'.tape = W.tape
  output : W'.output = W.output
  size : W.heap.size ≤ W'.heap.size
  keep : ∀ k, k < W.heap.size → (k < B ∨ S k) → W'.heap[k]? = W.heap[k]?

/-- WHAT A ROUND KEEPS: whatever is not the body's (S). -/
structure RdStep (S : Nat → Prop) (W W' : World) : Prop where
  os : W'.os = W.os
  tape : W'.tape = W.tape
  output : W'.output = W.output
  size : W.heap.size ≤ W'.heap.size
  keep : ∀ k, k < W.heap.size → ¬ S k → W'.heap[k]? = W.heap[k]?

theorem ItStep.refl (B : Nat) (S : Nat → Prop) (W : World) : ItStep B S W W := ⟨rfl, rfl, rfl, Nat.le_refl _, fun _ _ _ => rfl⟩
theorem RdStep.refl (S : Nat → Prop) (W : World) : RdStep S W W := ⟨rfl, rfl, rfl, Nat.le_refl _, fun _ _ _ => rfl⟩
theorem ItStep.trans {B : Nat} {S : Nat → Prop} {A W C : World} (h : ItStep B S A W) (k : ItStep B S W C) : ItStep B S A C :=
  ⟨k.os.trans h.os, k.tape.trans h.tape, k.output.trans h.output, Nat.le_trans h.size k.size, fun i hi hs => (k.keep i (Nat.lt_of_lt_of_le hi h.size) hs).trans (h.keep i hi hs)⟩
theorem RdStep.trans {S S' : Nat → Prop} {A W C : World} (h : RdStep S A W) (k : RdStep S' W C) (hS : ∀ i, S' i → S i ∨ A.heap.size ≤ i) : RdStep S A C :=
  ⟨k.os.trans h.os, k.tape.trans h.tape, k.output.trans h.output, Nat.le_trans h.size k.size, fun i hi hs =>
    (k.keep i (Nat.lt_of_lt_of_le hi h.size) (fun e => by rcases hS i e with e | e; exact hs e; omega)).trans (h.keep i hi hs)⟩
theorem RdStep.mono {S S' : Nat → Prop} {A W : World} (h : RdStep S A W) (hS : ∀ i, S i → S' i) : RdStep S' A W :=
  ⟨h.os, h.tape, h.output, h.size, fun i hi hs => h.keep i hi (fun e => hs (hS i e))⟩
theorem ItStep.of_below {B : Nat} {S : Nat → Prop} {A W : World} (h : Below A.heap.size A W) : ItStep B S A W :=
  ⟨h.os, h.tape, h.output, h.size, fun k hk _ => h.block k hk⟩
theorem RdStep.of_below {S : Nat → Prop} {A W : World} (h : Below A.heap.size A W) : RdStep S A W :=
  ⟨h.os, h.tape, h.output, h.size, fun k hk _ => h.block k hk⟩
theorem RdStep.below {S : Nat → Prop} {A W : World} {n : Nat} (h : RdStep S A W) (hn : n ≤ A.heap.size) (hS : ∀ k, S k → n ≤ k) : Below n A W :=
  ⟨h.os, h.tape, h.output, h.size, fun k hk => h.keep k (by omega) (fun e => by have := hS k e; omega)⟩
theorem RdStep.setCell {S : Nat → Prop} {A W : World} (h : RdStep S A W) {p : Addr} (hp : S p.block ∨ A.heap.size ≤ p.block) (u : Value) : RdStep S A (W.setCell p u) :=
  ⟨h.os, h.tape, h.output, by simpa [World.setCell] using h.size, fun k hk hs => (Below.heap_setCell _ _ _ _ (by rintro rfl; rcases hp with hp | hp; exact hs hp; omega)).trans (h.keep k hk hs)⟩
theorem RdStep.alloc {S : Nat → Prop} {A W : World} (h : RdStep S A W) (o : Obj) : RdStep S A (W.alloc o) :=
  ⟨h.os, h.tape, h.output, Nat.le_trans h.size (by simp), fun k hk hs => (Below.heap_alloc _ _ _ (Nat.lt_of_lt_of_le hk h.size)).trans (h.keep k hk hs)⟩
theorem RdStep.drew {S : Nat → Prop} {A W : World} (h : RdStep S A W) : RdStep S A W.drew := ⟨h.os, h.tape, h.output, h.size, h.keep⟩
theorem RdStep.grown {S : Nat → Prop} {A W C : World} {row : Option Nat} (h : RdStep S A W) (hg : W.grownBy C row) (hr : ∀ k, row = some k → S k ∨ A.heap.size ≤ k) : RdStep S A C :=
  ⟨hg.os.trans h.os, hg.tape.trans h.tape, hg.output.trans h.output, Nat.le_trans h.size hg.size, fun k hk hs =>
    (hg.block k (Nat.lt_of_lt_of_le hk h.size) (fun e => by rcases hr k e.symm with e' | e'; exact hs e'; omega)).trans (h.keep k hk hs)⟩
theorem RdStep.then_below {S : Nat → Prop} {A W C : World} (h : RdStep S A W) (k : Below W.heap.size W C) : RdStep S A C :=
  ⟨k.os.trans h.os, k.tape.trans h.tape, k.output.trans h.output, Nat.le_trans h.size k.size, fun i hi hs => (k.block i (Nat.lt_of_lt_of_le hi h.size)).trans (h.keep i hi hs)⟩

/-- What the caller says between two rounds does not mind an iterator's step. -/
def StableAt {β : Type} (B : Nat) (J : β → (Nat → Prop) → World → Prop) : Prop := ∀ s S W W', J s S W → ItStep B S W W' → J s S W'

/-- ONE CALL OF yield, as its caller sees it. -/
def RoundTo {α : Type} (J Jx : List α → (Nat → Prop) → World → Prop) (pre : List α) (x : α) (S : Nat → Prop) (W : World) (e : Ending) (W' : World) : Prop :=
  ∃ S' : Nat → Prop, RdStep S W W' ∧ (∀ k, S' k → S k ∨ W.heap.size ≤ k) ∧ (∀ k, S' k → k < W'.heap.size) ∧
    ((e = .returned (.bool true) ∧ J (pre ++ [x]) S' W') ∨ (e = .returned (.bool false) ∧ Jx (pre ++ [x]) S' W'))

/-- AN ITERATOR's CONTRACT: called with yield (mk: its arguments), in whatever later world, it hands out xs in their order; n₀: what it reads lies below n₀. -/
def Iter {α : Type} (P : Program) (gf : FuncId) (mk : Value → Array Value) (encs : α → Array Value) (xs : List α) (n₀ : Nat) (w : World) : Prop :=
  ∀ (l : Nat) (J Jx : List α → (Nat → Prop) → World → Prop) (S : Nat → Prop) (W : World), Below n₀ w W →
    StableAt W.heap.size J → StableAt W.heap.size Jx →
    (∀ pre x S1 W1, pre ++ [x] <+: xs → J pre S1 W1 → (∀ k, S1 k → k < W1.heap.size) → W.heap.size ≤ W1.heap.size →
      YieldAt Fence.wide 0 P l (encs x) W1 (RoundTo J Jx pre x S1 W1)) →
    (∀ k, S k → n₀ ≤ k) → (∀ k, S k → k < W.heap.size) → J [] S W →
    CallsIn Fence.wide 0 P gf (mk (.func (.yield l) #[] #[])) W fun e W' => (∃ v, e = .returned v) ∧
      ((∃ S', J xs S' W' ∧ (∀ k, S' k → S k ∨ W.heap.size ≤ k)) ∨ (∃ pre S', pre <+: xs ∧ Jx pre S' W' ∧ (∀ k, S' k → S k ∨ W.heap.size ≤ k)))

/-- HOW THE BODY OF A ROUND MAY BE LEFT. -/
def bodyTo {α : Type} (I : List α → (Nat → Prop) → World → Prop) (Ix : Code → List α → (Nat → Prop) → World → Prop) (xs : List α) (S : Nat → Prop) (W : World) : Exit → Act → World → Prop
  | .normal, _, W' => ∃ S', RdStep S W W' ∧ (∀ k, S' k → S k ∨ W.heap.size ≤ k) ∧ (∀ k, S' k → k < W'.heap.size) ∧ I xs S' W'
  | .ret, _, W' => ∃ S', RdStep S W W' ∧ (∀ k, S' k → S k ∨ W.heap.size ≤ k) ∧ (∀ k, S' k → k < W'.heap.size) ∧ Ix .ret xs S' W'
  | .exit id, _, W' => ∃ S', RdStep S W W' ∧ (∀ k, S' k → S k ∨ W.heap.size ≤ k) ∧ (∀ k, S' k → k < W'.heap.size) ∧ Ix (.exit id) xs S' W'
  | _, _, _ => False

theorem rd_putObj {S : Nat → Prop} {A W : World} (h : RdStep S A W) {l : Nat} (o : Obj) : ∀ k, k < A.heap.size → ¬ S k → k ≠ l → (W.putObj l o).heap[k]? = A.heap[k]? :=
  fun k hk hs hne => (World.putObj_heap_other hne).trans (h.keep k hk hs)
theorem it_putObj {B : Nat} {S : Nat → Prop} {W : World} {l : Nat} (o : Obj) (hl : B ≤ l) (hS : ¬ S l) : ItStep B S W (W.putObj l o) :=
  ⟨rfl, rfl, rfl, by simp, fun k _ hk => World.putObj_heap_other (by rintro rfl; rcases hk with hk | hk; omega; exact hS hk)⟩
theorem it_alloc {B : Nat} {S : Nat → Prop} {W : World} (o : Obj) : ItStep B S W (W.alloc o) :=
  ⟨rfl, rfl, rfl, by simp, fun k hk _ => Below.heap_alloc _ _ _ hk⟩

theorem ItStep.weaken {B B' : Nat} {S S' : Nat → Prop} {W W' : World} (h : ItStep B S W W') (hB : B' ≤ B) (hS : ∀ k, S' k → S k) : ItStep B' S' W W' :=
  ⟨h.os, h.tape, h.output, h.size, fun k hk hs => h.keep k hk (hs.imp (fun e => by omega) (hS k))⟩

/-- THE STATEMENT 'for .. := range g { .. }', outside every round. -/
theorem wpIn_range {α : Type} {P : Program} {g : Operand} {ps : Array Tmp} {assign body : Code} {Q : Exit → Act → World → Prop} {a : Act} {w : World}
    {gf : FuncId} {first captured : Array Value} (hg : a.eval g = .func (.func gf) first captured) (eg : ∀ args w, (callFunc gf args).run P w = .ok (.enter gf args) w)
    {mk : Value → Array Value} {encs : α → Array Value} {xs : List α} {n₀ : Nat} {w0 : World} (hmk : ∀ y, mk y = first ++ #[y] ++ captured)
    (hit : Iter P gf mk encs xs n₀ w0) (hb0 : Below n₀ w0 w) (hn0 : n₀ ≤ w.heap.size) (hps : ∀ x, (encs x).size = ps.size)
    (I : List α → (Nat → Prop) → World → Prop) (Ix : Code → List α → (Nat → Prop) → World → Prop) (A : List α → α → (Nat → Prop) → Act → World → Prop)
    (hI : StableAt w.heap.size I) (hIx : ∀ c, StableAt w.heap.size (Ix c)) (hA : ∀ pre x S a' W W', A pre x S a' W → ItStep w.heap.size S W W' → A pre x S a' W')
    (S0 : Nat → Prop) (hS0 : ∀ k, S0 k → n₀ ≤ k) (hS0' : ∀ k, S0 k → k < w.heap.size) (h0 : I [] S0 w)
    (hassign : ∀ (l : Nat) (pre : List α) (x : α) (S : Nat → Prop) (W : World), pre ++ [x] <+: xs → I pre S W → (∀ k, S k → k < W.heap.size) →
      assign.wpIn (Fence.wide.inRound l) 0 P (Exit.then (fun a₁ W₁ => ∃ S', RdStep S W W₁ ∧ (∀ k, S' k → S k ∨ W.heap.size ≤ k) ∧ (∀ k, S' k → k < W₁.heap.size) ∧ A pre x S' a₁ W₁) (fun _ _ _ => False))
        { tmps := (ps.zip (encs x)).foldl (fun t (p, v) => t.setIfInBounds p v) a.tmps, defers := [] } W)
    (hbody : ∀ (l : Nat) (pre : List α) (x : α) (S : Nat → Prop) (a₁ : Act) (W : World), pre ++ [x] <+: xs → A pre x S a₁ W → (∀ k, S k → k < W.heap.size) →
      body.wpIn (Fence.wide.inRound l) 0 P (bodyTo I Ix (pre ++ [x]) S W) a₁ W)
    (hdone : ∀ (D : Nat) (S : Nat → Prop) (W : World), w.heap.size ≤ D → ¬ S D → (∀ k, S k → S0 k ∨ w.heap.size ≤ k) → I xs S W → W.heap[D]? = some (.deferred (some [])) →
      Q .normal { a with defers := { target := .collected D, args := #[] } :: a.defers } W)
    (hstop : ∀ (D : Nat) (c : Code) (pre : List α) (S : Nat → Prop) (W : World), w.heap.size ≤ D → ¬ S D → (∀ k, S k → S0 k ∨ w.heap.size ≤ k) → pre <+: xs → Ix c pre S W → W.heap[D]? = some (.deferred (some [])) →
      c.wpIn Fence.wide 0 P Q { a with defers := { target := .collected D, args := #[] } :: a.defers } W) :
    (Code.rangeFunc g ps assign body).wpIn Fence.wide 0 P Q a w := by
  refine wpIn_rangeFunc ?_
  intro fn hfn
  show ∃ (l : Nat) (mark : List Deferred) (w₁ : World) (d : Deferred) (w₁' : World) (f : FuncId) (args : Array Value) (w₂ : World), (Instr.enterLoop fn a.tmps ps assign body none).run P w = .ok (l, mark) w₁ ∧ _
  obtain ⟨rec, hrec⟩ : ∃ rec : LoopState → Option Code → Loop, rec = fun st pe => { state := st, pending := pe, fn, tmps := a.tmps, params := ps, assign, body, defers := w.heap.size } := ⟨_, rfl⟩
  obtain ⟨W1, hW1⟩ : ∃ W1, (w.alloc (.deferred (some []))).alloc (.loop (rec .ready none)) = W1 := ⟨_, rfl⟩
  have hsz : W1.heap.size = w.heap.size + 2 := by rw [← hW1]; simp
  have hL1 : W1.heap[w.heap.size + 1]? = some (.loop (rec .ready none)) := by
    rw [← hW1]; have := World.alloc_heap_new (w.alloc (.deferred (some []))) (.loop (rec .ready none)); rwa [World.size_alloc] at this
  have hK1 : W1.heap[w.heap.size]? = some (.deferred (some [])) := by
    rw [← hW1]; exact (Below.heap_alloc _ _ _ (by simp)).trans (World.alloc_heap_new w _)
  have hI1 : I [] S0 W1 := by rw [← hW1]; exact hI _ _ _ _ (hI _ _ _ _ h0 (it_alloc _)) (it_alloc _)
  have hb1 : Below n₀ w0 W1 := by
    rw [← hW1]; exact hb0.trans ((((Below.refl _ w).alloc (Nat.le_refl _) _).alloc (by simp) _).mono hn0)
  refine ⟨w.heap.size + 1, [{ target := .collected w.heap.size, args := #[] }], W1, { target := .fn (.func gf) captured, args := first ++ #[.func (.yield (w.heap.size + 1)) #[] #[]] }, W1, gf,
    first ++ #[.func (.yield (w.heap.size + 1)) #[] #[]] ++ captured, W1, ?_, ?_, ?_, ?_, fun h => by simp [Fence.wide] at h, ?_⟩
  · rw [← hW1, hrec]; exact run_enterLoop_outer _ _ _ _ _
  · simp only [resolve, hg]
    simp [go_sem]
  · intro f' _; trivial
  · simp [invoke, go_sem, eg]
  · rw [← hmk]
    have key := hit (w.heap.size + 1)
      (fun pre Si W => ∃ S : Nat → Prop, (∀ k, Si k ↔ S k ∨ k = w.heap.size + 1) ∧ (¬ S w.heap.size) ∧ (¬ S (w.heap.size + 1)) ∧ (∀ k, S k → S0 k ∨ w.heap.size ≤ k) ∧ I pre S W ∧ W.heap[w.heap.size + 1]? = some (.loop (rec .ready none)) ∧ W.heap[w.heap.size]? = some (.deferred (some [])))
      (fun pre Si W => ∃ (S : Nat → Prop) (c : Code), (∀ k, Si k ↔ S k ∨ k = w.heap.size + 1) ∧ (¬ S w.heap.size) ∧ (¬ S (w.heap.size + 1)) ∧ (∀ k, S k → S0 k ∨ w.heap.size ≤ k) ∧ Ix c pre S W ∧ W.heap[w.heap.size + 1]? = some (.loop (rec .done (some c))) ∧ W.heap[w.heap.size]? = some (.deferred (some [])))
      (fun k => S0 k ∨ k = w.heap.size + 1) W1 hb1 ?_ ?_ ?_ ?_ ?_ ?_
    · refine key.mono ?_
      rintro e W2 ⟨⟨v, rfl⟩, (⟨S', ⟨S, hSi, hD, hL, hsub, hi, hl, hk⟩, _⟩ | ⟨pre, S', hpre, ⟨S, c, hSi, hD, hL, hsub, hi, hl, hk⟩, _⟩)⟩
      · refine ⟨none, _, by have := run_endLoop (P := P) hl (by rw [hrec]; simp); rw [hrec] at this; exact this, ?_⟩
        exact hdone _ S _ (Nat.le_refl _) hD hsub (hI _ _ _ _ hi (it_putObj _ (by omega) hL)) ((World.putObj_heap_other (by omega)).trans hk)
      · refine ⟨some c, _, by have := run_endLoop (P := P) hl (by rw [hrec]; simp); rw [hrec] at this; exact this, ?_⟩
        exact hstop _ c pre S _ (Nat.le_refl _) hD hsub hpre ((hIx c) _ _ _ _ hi (it_putObj _ (by omega) hL)) ((World.putObj_heap_other (by omega)).trans hk)
    · rintro pre Si A1 B1 ⟨S, hSi, hD, hL, hsub, hi, hl, hk⟩ hst
      have hlt : w.heap.size + 1 < A1.heap.size := (Array.getElem?_eq_some_iff.1 hl).1
      exact ⟨S, hSi, hD, hL, hsub, hI _ _ _ _ hi (hst.weaken (by omega) (fun k e => (hSi k).2 (.inl e))), (hst.keep _ hlt (.inl (by omega))).trans hl, (hst.keep _ (by omega) (.inl (by omega))).trans hk⟩
    · rintro pre Si A1 B1 ⟨S, c, hSi, hD, hL, hsub, hi, hl, hk⟩ hst
      have hlt : w.heap.size + 1 < A1.heap.size := (Array.getElem?_eq_some_iff.1 hl).1
      exact ⟨S, c, hSi, hD, hL, hsub, hIx c _ _ _ _ hi (hst.weaken (by omega) (fun k e => (hSi k).2 (.inl e))), (hst.keep _ hlt (.inl (by omega))).trans hl, (hst.keep _ (by omega) (.inl (by omega))).trans hk⟩
    · -- ONE ROUND
      rintro pre x Si W hpx ⟨S, hSi, hD, hL, hsub, hi, hl, hk⟩ hSlt hWW
      have hlt : w.heap.size + 1 < W.heap.size := (Array.getElem?_eq_some_iff.1 hl).1
      have hSlt' : ∀ k, S k → k < W.heap.size := fun k e => hSlt k ((hSi k).2 (.inl e))
      have hy := run_yield (P := P) (args := encs x) hl (by rw [hrec]; exact hps x)
      rw [hrec] at hy
      refine ⟨fn, _, assign, body, hy, roundIn_of_wpIn hfn (wpIn_mono (hassign _ pre x S W hpx hi hSlt') ?_)⟩
      intro e a1 Wa hq
      cases e with
      | normal =>
        obtain ⟨S1, hr1, hs1, hs1', hAx⟩ := hq
        have hnD1 : ¬ S1 w.heap.size := fun e => by rcases hs1 _ e with e | e; exact hD e; omega
        have hnL1 : ¬ S1 (w.heap.size + 1) := fun e => by rcases hs1 _ e with e | e; exact hL e; omega
        have hla : Wa.heap[w.heap.size + 1]? = some (.loop (rec .ready none)) := (hr1.keep _ hlt hL).trans hl
        have hka : Wa.heap[w.heap.size]? = some (.deferred (some [])) := (hr1.keep _ (by omega) hD).trans hk
        have hlta : w.heap.size + 1 < Wa.heap.size := (Array.getElem?_eq_some_iff.1 hla).1
        refine ⟨_, run_beginRound hla (by rw [hrec]), ?_⟩
        have hb := hbody (w.heap.size + 1) pre x S1 a1 (Wa.putObj (w.heap.size + 1) (.loop { rec .ready none with state := .busy })) hpx (hA _ _ _ _ _ _ hAx (it_putObj _ (by omega) hnL1)) (fun k e => by simpa using hs1' k e)
        refine wpIn_mono hb ?_
        have fin : ∀ (jump : Option Code) (W3 : World) (S3 : Nat → Prop), RdStep S1 (Wa.putObj (w.heap.size + 1) (.loop { rec .ready none with state := .busy })) W3 → (∀ k, S3 k → S1 k ∨ (Wa.putObj (w.heap.size + 1) (.loop { rec .ready none with state := .busy })).heap.size ≤ k) → (∀ k, S3 k → k < W3.heap.size) →
            (Instr.endRound (w.heap.size + 1) jump).run P W3 = .ok (.bool jump.isNone) (W3.putObj (w.heap.size + 1) (.loop (rec (if jump.isNone then .ready else .done) jump))) ∧
            (W3.putObj (w.heap.size + 1) (.loop (rec (if jump.isNone then .ready else .done) jump))).heap[w.heap.size + 1]? = some (.loop (rec (if jump.isNone then .ready else .done) jump)) ∧
            (W3.putObj (w.heap.size + 1) (.loop (rec (if jump.isNone then .ready else .done) jump))).heap[w.heap.size]? = some (.deferred (some [])) ∧
            ¬ S3 w.heap.size ∧ ¬ S3 (w.heap.size + 1) ∧ (∀ k, S3 k → S k ∨ W.heap.size ≤ k) ∧
            RdStep Si W (W3.putObj (w.heap.size + 1) (.loop (rec (if jump.isNone then .ready else .done) jump))) := fun jump W3 S3 hr3 hs3 hs3' => by
          have hl2 : (Wa.putObj (w.heap.size + 1) (.loop { rec .ready none with state := .busy })).heap[w.heap.size + 1]? = some (.loop { rec .ready none with state := .busy }) := World.putObj_heap_same hlta
          have hk2 : (Wa.putObj (w.heap.size + 1) (.loop { rec .ready none with state := .busy })).heap[w.heap.size]? = some (.deferred (some [])) := (World.putObj_heap_other (by omega)).trans hka
          have hl3 := (hr3.keep _ (by simpa using hlta) hnL1).trans hl2
          have hk3 := (hr3.keep _ (by simp; omega) hnD1).trans hk2
          have hlt3 := (Array.getElem?_eq_some_iff.1 hl3).1
          have := run_endRound (P := P) jump hl3
          rw [hrec] at this ⊢
          have hsz3 := hr3.size
          have hsz1 := hr1.size
          simp only [World.putObj_size] at hsz3 hs3
          refine ⟨this, World.putObj_heap_same hlt3, (World.putObj_heap_other (by omega)).trans hk3, fun e => ?_, fun e => ?_, fun k e => ?_, ?_⟩
          · rcases hs3 _ e with e | e; exact hnD1 e; omega
          · rcases hs3 _ e with e | e; exact hnL1 e; omega
          · rcases hs3 _ e with e | e
            · exact hs1 _ e
            · right; omega
          · refine ⟨hr3.os.trans hr1.os, hr3.tape.trans hr1.tape, hr3.output.trans hr1.output, by simp; omega, fun k hk' hnS => ?_⟩
            have hkl : k ≠ w.heap.size + 1 := fun e => hnS ((hSi k).2 (.inr e))
            have hnS' : ¬ S k := fun e => hnS ((hSi k).2 (.inl e))
            have hnS1 : ¬ S1 k := fun e => by rcases hs1 _ e with e | e; exact hnS' e; omega
            exact (World.putObj_heap_other hkl).trans ((hr3.keep k (by simp; omega) hnS1).trans ((World.putObj_heap_other hkl).trans (hr1.keep k hk' hnS')))
        have fin2 : ∀ (S3 : Nat → Prop) (W3 : World) (o : Obj), (∀ k, S3 k → k < W3.heap.size) → W.heap.size ≤ W3.heap.size → (∀ k, S3 k → S k ∨ W.heap.size ≤ k) →
            (∀ k, (S3 k ∨ k = w.heap.size + 1) → Si k ∨ W.heap.size ≤ k) ∧ (∀ k, (S3 k ∨ k = w.heap.size + 1) → k < (W3.putObj (w.heap.size + 1) o).heap.size) := fun S3 W3 o h1 h2 h3 =>
          ⟨fun k e => by rcases e with e | e; exact (h3 k e).imp (fun e' => (hSi k).2 (.inl e')) id; exact .inl ((hSi k).2 (.inr e)), fun k e => by
            simp only [World.putObj_size]
            rcases e with e | e
            · exact h1 k e
            · omega⟩
        have sub3 : ∀ (S3 : Nat → Prop), (∀ k, S3 k → S k ∨ W.heap.size ≤ k) → ∀ k, S3 k → S0 k ∨ w.heap.size ≤ k := fun S3 h k e => by
          rcases h k e with e | e
          · exact hsub k e
          · right; omega
        rintro e a3 W3 hp
        cases e with
        | normal =>
          obtain ⟨S3, hr3, hs3, hs3', hi3⟩ := hp
          obtain ⟨hr, hl4, hk4, hnD, hnL, hsS, hrd⟩ := fin none W3 S3 hr3 hs3 hs3'
          have hsz : W.heap.size ≤ W3.heap.size := by simpa using hrd.size
          refine ⟨_, _, hr, fun k => S3 k ∨ k = w.heap.size + 1, hrd, (fin2 S3 W3 (.deferred none) hs3' hsz hsS).1, (fin2 S3 W3 _ hs3' hsz hsS).2, .inl ⟨rfl, S3, fun _ => Iff.rfl, hnD, hnL, sub3 S3 hsS, hI _ _ _ _ hi3 (it_putObj _ (by omega) hnL), hl4, hk4⟩⟩
        | ret =>
          obtain ⟨S3, hr3, hs3, hs3', hi3⟩ := hp
          obtain ⟨hr, hl4, hk4, hnD, hnL, hsS, hrd⟩ := fin (some .ret) W3 S3 hr3 hs3 hs3'
          have hsz : W.heap.size ≤ W3.heap.size := by simpa using hrd.size
          refine ⟨_, _, hr, fun k => S3 k ∨ k = w.heap.size + 1, hrd, (fin2 S3 W3 (.deferred none) hs3' hsz hsS).1, (fin2 S3 W3 _ hs3' hsz hsS).2, .inr ⟨rfl, S3, .ret, fun _ => Iff.rfl, hnD, hnL, sub3 S3 hsS, hIx _ _ _ _ _ hi3 (it_putObj _ (by omega) hnL), hl4, hk4⟩⟩
        | exit id =>
          obtain ⟨S3, hr3, hs3, hs3', hi3⟩ := hp
          obtain ⟨hr, hl4, hk4, hnD, hnL, hsS, hrd⟩ := fin (some (.exit id)) W3 S3 hr3 hs3 hs3'
          have hsz : W.heap.size ≤ W3.heap.size := by simpa using hrd.size
          refine ⟨_, _, hr, fun k => S3 k ∨ k = w.heap.size + 1, hrd, (fin2 S3 W3 (.deferred none) hs3' hsz hsS).1, (fin2 S3 W3 _ hs3' hsz hsS).2, .inr ⟨rfl, S3, .exit id, fun _ => Iff.rfl, hnD, hnL, sub3 S3 hsS, hIx _ _ _ _ _ hi3 (it_putObj _ (by omega) hnL), hl4, hk4⟩⟩
        | goto t => exact hp.elim
        | panic ch => exact hp.elim
        | outgrown => exact hp.elim
      | ret => exact hq.elim
      | exit id => exact hq.elim
      | goto t => exact hq.elim
      | panic ch => exact hq.elim
      | outgrown => exact hq.elim
    · rintro k (e | rfl)
      · exact hS0 k e
      · omega
    · rintro k (e | rfl)
      · have := hS0' k e; omega
      · omega
    · exact ⟨S0, fun _ => Iff.rfl, fun e => by have := hS0' _ e; omega, fun e => by have := hS0' _ e; omega, fun _ e => .inl e, hI1, hL1, hK1⟩

theorem boxed_it {B : Nat} {S : Nat → Prop} {W W' : World} {b : Nat} {t : TypeId} {v : Value} (h : Boxed W b t v) (hs : ItStep B S W W') (hb : S b) : Boxed W' b t v := (hs.keep b h.lt (.inr hb)).trans h
theorem boxed_old {B : Nat} {S : Nat → Prop} {W W' : World} {b : Nat} {t : TypeId} {v : Value} (h : Boxed W b t v) (hs : ItStep B S W W') (hb : b < B) : Boxed W' b t v := (hs.keep b h.lt (.inl hb)).trans h
theorem below_it {n B : Nat} {S : Nat → Prop} {w W W' : World} (h : Below n w W) (hs : ItStep B S W W') (hB : n ≤ B) (hn : n ≤ w.heap.size) : Below n w W' :=
  ⟨hs.os.trans h.os, hs.tape.trans h.tape, hs.output.trans h.output, Nat.le_trans h.size hs.size, fun k hk => (hs.keep k (by have := h.size; omega) (.inl (by omega))).trans (h.block k hk)⟩
theorem boxed_rd {S : Nat → Prop} {W W' : World} {b : Nat} {t : TypeId} {v : Value} (h : Boxed W b t v) (hs : RdStep S W W') (hb : ¬ S b) : Boxed W' b t v := (hs.keep b h.lt hb).trans h
theorem boxed_below {n : Nat} {W W' : World} {b : Nat} {t : TypeId} {v : Value} (h : Boxed W b t v) (hs : Below n W W') (hb : b < n) : Boxed W' b t v := (hs.block b hb).trans h
theorem boxed_far {W : World} {b : Nat} {t : TypeId} {v : Value} (h : Boxed W b t v) {p : Addr} (hp : b ≠ p.block) (u : Value) : Boxed (W.setCell p u) b t v := (Below.heap_setCell W p u b hp).trans h

/-- A function that holds a range over a function returns: ahead of the loop, and behind it. -/
theorem endM0 {P : Program} {fn : Func} {R : Ending → World → Prop} {tmps : Array Value} {w : World} {v : Value} (hres : (results fn tmps).run P w = .ok v w) (hR : R (.returned v) w) :
    bodyPostM Fence.wide 0 P fn R .ret { tmps := tmps, defers := [] } w := ⟨_, hres, hR⟩
theorem endM1 {P : Program} {fn : Func} {R : Ending → World → Prop} {tmps : Array Value} {W : World} {D : Nat} {v : Value} (hK : W.heap[D]? = some (.deferred (some [])))
    (hres : (results fn tmps).run P (W.putObj D (.deferred none)) = .ok v (W.putObj D (.deferred none))) (hR : R (.returned v) (W.putObj D (.deferred none))) :
    bodyPostM Fence.wide 0 P fn R .ret { tmps := tmps, defers := [{ target := .collected D, args := #[] }] } W :=
  ⟨by simp, .inl ⟨_, _, rfl, run_takeDeferred hK, _, hres, hR⟩⟩
theorem below_putObj {n D : Nat} {w W : World} (h : Below n w W) (hD : n ≤ D) (o : Obj) : Below n w (W.putObj D o) :=
  ⟨h.os, h.tape, h.output, by simpa using h.size, fun k hk => (World.putObj_heap_other (by omega)).trans (h.block k hk)⟩
theorem boxed_putObj {W : World} {b D : Nat} {t : TypeId} {v : Value} (h : Boxed W b t v) (hD : b ≠ D) (o : Obj) : Boxed (W.putObj D o) b t v := (World.putObj_heap_other hD).trans h

/-- The same, with the assignment and the body in one premise: no frame need be named. -/
theorem wpIn_range' {α : Type} {P : Program} {g : Operand} {ps : Array Tmp} {assign body : Code} {Q : Exit → Act → World → Prop} {a : Act} {w : World}
    {gf : FuncId} {first captured : Array Value} (hg : a.eval g = .func (.func gf) first captured) (eg : ∀ args w, (callFunc gf args).run P w = .ok (.enter gf args) w)
    {mk : Value → Array Value} {encs : α → Array Value} {xs : List α} {n₀ : Nat} {w0 : World} (hmk : ∀ y, mk y = first ++ #[y] ++ captured)
    (hit : Iter P gf mk encs xs n₀ w0) (hb0 : Below n₀ w0 w) (hn0 : n₀ ≤ w.heap.size) (hps : ∀ x, (encs x).size = ps.size)
    (I : List α → (Nat → Prop) → World → Prop) (Ix : Code → List α → (Nat → Prop) → World → Prop)
    (hI : StableAt w.heap.size I) (hIx : ∀ c, StableAt w.heap.size (Ix c))
    (S0 : Nat → Prop) (hS0 : ∀ k, S0 k → n₀ ≤ k) (hS0' : ∀ k, S0 k → k < w.heap.size) (h0 : I [] S0 w)
    (hround : ∀ (l0 : Nat) (pre : List α) (x : α) (S : Nat → Prop) (W : World), pre ++ [x] <+: xs → I pre S W → (∀ k, S k → k < W.heap.size) →
      assign.wpIn (Fence.wide.inRound l0) 0 P (Exit.then (fun a₁ W₁ => ∃ S', RdStep S W W₁ ∧ (∀ k, S' k → S k ∨ W.heap.size ≤ k) ∧ (∀ k, S' k → k < W₁.heap.size) ∧
          ∀ l W₂, ItStep w.heap.size S' W₁ W₂ → body.wpIn (Fence.wide.inRound l) 0 P (bodyTo I Ix (pre ++ [x]) S' W₂) a₁ W₂) (fun _ _ _ => False))
        { tmps := (ps.zip (encs x)).foldl (fun t (p, v) => t.setIfInBounds p v) a.tmps, defers := [] } W)
    (hdone : ∀ (D : Nat) (S : Nat → Prop) (W : World), w.heap.size ≤ D → ¬ S D → (∀ k, S k → S0 k ∨ w.heap.size ≤ k) → I xs S W → W.heap[D]? = some (.deferred (some [])) →
      Q .normal { a with defers := { target := .collected D, args := #[] } :: a.defers } W)
    (hstop : ∀ (D : Nat) (c : Code) (pre : List α) (S : Nat → Prop) (W : World), w.heap.size ≤ D → ¬ S D → (∀ k, S k → S0 k ∨ w.heap.size ≤ k) → pre <+: xs → Ix c pre S W → W.heap[D]? = some (.deferred (some [])) →
      c.wpIn Fence.wide 0 P Q { a with defers := { target := .collected D, args := #[] } :: a.defers } W) :
    (Code.rangeFunc g ps assign body).wpIn Fence.wide 0 P Q a w :=
  wpIn_range hg eg hmk hit hb0 hn0 hps I Ix (fun pre x S a₁ W => ∀ l W₂, ItStep w.heap.size S W W₂ → body.wpIn (Fence.wide.inRound l) 0 P (bodyTo I Ix (pre ++ [x]) S W₂) a₁ W₂)
    hI hIx (fun _ _ _ _ _ _ h hs l W₂ h2 => h l W₂ (hs.trans h2)) S0 hS0 hS0' h0 hround (fun l _ _ _ _ W _ h _ => h l W (ItStep.refl _ _ _)) hdone hstop

end Go.Proofs.YtnbolgdccdnjeaaGreatDoor
