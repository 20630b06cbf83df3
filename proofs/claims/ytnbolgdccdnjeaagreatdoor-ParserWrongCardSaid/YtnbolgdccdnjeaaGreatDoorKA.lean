/- Joined by program from: Iter, Base, Own, GrowTail, AnyPanic, AnyAct, AnyAct2. No condition. -/
import Derived.RangeFuncRecord
import Derived.RangeFuncSeq
import Derived.RangeFuncBox
import Derived.WalkKit
import Derived.WalkSpells
import Derived.WalkLawsBesides
import Derived.Deep.QuietTactic
import Derived.BigQuiet
import Derived.Deep.Draws
import Derived.Lib.Hide
import Derived.BigGuardPart
import Derived.StillTailTactics
import Derived.Deep.Light
import Derived.OwnWalkIn
import Derived.Maps.AppendAt
/- A range over a function, at the wide fence: a law for the caller and the form of an iterator's contract, with footprints. No condition. -/
namespace Go.Proofs.YtnbolgdccdnjeaaGreatDoor
open Go.RowKit

/-- WHAT AN ITERATOR's OWN STEP KEEPS: whatever lay below B, and whatever is the body's (S). -/
structure ItStep (B : Nat) (S : Nat → Prop) (W W' : World) : Prop where
  os : W'.os = W.os
  tape : W'.tape = W.tape
  output : W'.output = W.output
  size : W.heap.size ≤ W'.heap.size
  keep : ∀ k, k < W.heap.size → (k < B ∨ S k) → W'.heap[k]? = W.heap[k]?

/-- WHAT A ROUND KEEPS: whatever is not the body's (S). -/
structure RdStep (S : Nat → Prop) (W W' : World) : Prop where
  os : W'.os = W.os
  tape : W'.tape = W.tape
  output : W'.output = W.output
  size : W.heap.size ≤ W'.heap.size
  keep : ∀ k, k < W.heap.size → ¬ S k → W'.heap[k]? = W.heap[k]?

theorem ItStep.refl (B : Nat) (S : Nat → Prop) (W : World) : ItStep B S W W := ⟨rfl, rfl, rfl, Nat.le_refl _, fun _ _ _ => rfl⟩
theorem RdStep.refl (S : Nat → Prop) (W : World) : RdStep S W W := ⟨rfl, rfl, rfl, Nat.le_refl _, fun _ _ _ => rfl⟩
theorem ItStep.trans {B : Nat} {S : Nat → Prop} {A W C : World} (h : ItStep B S A W) (k : ItStep B S W C) : ItStep B S A C :=
  ⟨k.os.trans h.os, k.tape.trans h.tape, k.output.trans h.output, Nat.le_trans h.size k.size, fun i hi hs => (k.keep i (Nat.lt_of_lt_of_le hi h.size) hs).trans (h.keep i hi hs)⟩
theorem RdStep.trans {S S' : Nat → Prop} {A W C : World} (h : RdStep S A W) (k : RdStep S' W C) (hS : ∀ i, S' i → S i ∨ A.heap.size ≤ i) : RdStep S A C :=
  ⟨k.os.trans h.os, k.tape.trans h.tape, k.output.trans h.output, Nat.le_trans h.size k.size, fun i hi hs =>
    (k.keep i (Nat.lt_of_lt_of_le hi h.size) (fun e => by rcases hS i e with e | e; exact hs e; omega)).trans (h.keep i hi hs)⟩
theorem RdStep.mono {S S' : Nat → Prop} {A W : World} (h : RdStep S A W) (hS : ∀ i, S i → S' i) : RdStep S' A W :=
  ⟨h.os, h.tape, h.output, h.size, fun i hi hs => h.keep i hi (fun e => hs (hS i e))⟩
theorem ItStep.of_below {B : Nat} {S : Nat → Prop} {A W : World} (h : Below A.heap.size A W) : ItStep B S A W :=
  ⟨h.os, h.tape, h.output, h.size, fun k hk _ => h.block k hk⟩
theorem RdStep.of_below {S : Nat → Prop} {A W : World} (h : Below A.heap.size A W) : RdStep S A W :=
  ⟨h.os, h.tape, h.output, h.size, fun k hk _ => h.block k hk⟩
theorem RdStep.below {S : Nat → Prop} {A W : World} {n : Nat} (h : RdStep S A W) (hn : n ≤ A.heap.size) (hS : ∀ k, S k → n ≤ k) : Below n A W :=
  ⟨h.os, h.tape, h.output, h.size, fun k hk => h.keep k (by omega) (fun e => by have := hS k e; omega)⟩
theorem RdStep.setCell {S : Nat → Prop} {A W : World} (h : RdStep S A W) {p : Addr} (hp : S p.block ∨ A.heap.size ≤ p.block) (u : Value) : RdStep S A (W.setCell p u) :=
  ⟨h.os, h.tape, h.output, by simpa [World.setCell] using h.size, fun k hk hs => (Below.heap_setCell _ _ _ _ (by rintro rfl; rcases hp with hp | hp; exact hs hp; omega)).trans (h.keep k hk hs)⟩
theorem RdStep.alloc {S : Nat → Prop} {A W : World} (h : RdStep S A W) (o : Obj) : RdStep S A (W.alloc o) :=
  ⟨h.os, h.tape, h.output, Nat.le_trans h.size (by simp), fun k hk hs => (Below.heap_alloc _ _ _ (Nat.lt_of_lt_of_le hk h.size)).trans (h.keep k hk hs)⟩
theorem RdStep.drew {S : Nat → Prop} {A W : World} (h : RdStep S A W) : RdStep S A W.drew := ⟨h.os, h.tape, h.output, h.size, h.keep⟩
theorem RdStep.grown {S : Nat → Prop} {A W C : World} {row : Option Nat} (h : RdStep S A W) (hg : W.grownBy C row) (hr : ∀ k, row = some k → S k ∨ A.heap.size ≤ k) : RdStep S A C :=
  ⟨hg.os.trans h.os, hg.tape.trans h.tape, hg.output.trans h.output, Nat.le_trans h.size hg.size, fun k hk hs =>
    (hg.block k (Nat.lt_of_lt_of_le hk h.size) (fun e => by rcases hr k e.symm with e' | e'; exact hs e'; omega)).trans (h.keep k hk hs)⟩
/-- What the caller says between two rounds does not mind an iterator's step. -/
def StableAt {β : Type} (B : Nat) (J : β → (Nat → Prop) → World → Prop) : Prop := ∀ s S W W', J s S W → ItStep B S W W' → J s S W'

/-- ONE CALL OF yield, as its caller sees it. -/
def RoundTo {α : Type} (J Jx : List α → (Nat → Prop) → World → Prop) (pre : List α) (x : α) (S : Nat → Prop) (W : World) (e : Ending) (W' : World) : Prop :=
  ∃ S' : Nat → Prop, RdStep S W W' ∧ (∀ k, S' k → S k ∨ W.heap.size ≤ k) ∧ (∀ k, S' k → k < W'.heap.size) ∧
    ((e = .returned (.bool true) ∧ J (pre ++ [x]) S' W') ∨ (e = .returned (.bool false) ∧ Jx (pre ++ [x]) S' W'))

/-- AN ITERATOR's CONTRACT: called with yield (mk: its arguments), in whatever later world, it hands out xs in their order; n₀: what it reads lies below n₀. -/
def Iter {α : Type} (P : Program) (gf : FuncId) (mk : Value → Array Value) (encs : α → Array Value) (xs : List α) (n₀ : Nat) (w : World) : Prop :=
  ∀ (l : Nat) (J Jx : List α → (Nat → Prop) → World → Prop) (S : Nat → Prop) (W : World), Below n₀ w W →
    StableAt W.heap.size J → StableAt W.heap.size Jx →
    (∀ pre x S1 W1, pre ++ [x] <+: xs → J pre S1 W1 → (∀ k, S1 k → k < W1.heap.size) → W.heap.size ≤ W1.heap.size →
      YieldAt Fence.wide 0 P l (encs x) W1 (RoundTo J Jx pre x S1 W1)) →
    (∀ k, S k → n₀ ≤ k) → (∀ k, S k → k < W.heap.size) → J [] S W →
    CallsIn Fence.wide 0 P gf (mk (.func (.yield l) #[] #[])) W fun e W' => (∃ v, e = .returned v) ∧
      ((∃ S', J xs S' W' ∧ (∀ k, S' k → S k ∨ W.heap.size ≤ k)) ∨ (∃ pre S', pre <+: xs ∧ Jx pre S' W' ∧ (∀ k, S' k → S k ∨ W.heap.size ≤ k)))

/-- HOW THE BODY OF A ROUND MAY BE LEFT. -/
def bodyTo {α : Type} (I : List α → (Nat → Prop) → World → Prop) (Ix : Code → List α → (Nat → Prop) → World → Prop) (xs : List α) (S : Nat → Prop) (W : World) : Exit → Act → World → Prop
  | .normal, _, W' => ∃ S', RdStep S W W' ∧ (∀ k, S' k → S k ∨ W.heap.size ≤ k) ∧ (∀ k, S' k → k < W'.heap.size) ∧ I xs S' W'
  | .ret, _, W' => ∃ S', RdStep S W W' ∧ (∀ k, S' k → S k ∨ W.heap.size ≤ k) ∧ (∀ k, S' k → k < W'.heap.size) ∧ Ix .ret xs S' W'
  | .exit id, _, W' => ∃ S', RdStep S W W' ∧ (∀ k, S' k → S k ∨ W.heap.size ≤ k) ∧ (∀ k, S' k → k < W'.heap.size) ∧ Ix (.exit id) xs S' W'
  | _, _, _ => False

theorem it_putObj {B : Nat} {S : Nat → Prop} {W : World} {l : Nat} (o : Obj) (hl : B ≤ l) (hS : ¬ S l) : ItStep B S W (W.putObj l o) :=
  ⟨rfl, rfl, rfl, by simp, fun k _ hk => World.putObj_heap_other (by rintro rfl; rcases hk with hk | hk; omega; exact hS hk)⟩
theorem it_alloc {B : Nat} {S : Nat → Prop} {W : World} (o : Obj) : ItStep B S W (W.alloc o) :=
  ⟨rfl, rfl, rfl, by simp, fun k hk _ => Below.heap_alloc _ _ _ hk⟩

theorem ItStep.weaken {B B' : Nat} {S S' : Nat → Prop} {W W' : World} (h : ItStep B S W W') (hB : B' ≤ B) (hS : ∀ k, S' k → S k) : ItStep B' S' W W' :=
  ⟨h.os, h.tape, h.output, h.size, fun k hk hs => h.keep k hk (hs.imp (fun e => by omega) (hS k))⟩

/-- THE STATEMENT 'for .. := range g { .. }', outside every round. -/
theorem wpIn_range {α : Type} {P : Program} {g : Operand} {ps : Array Tmp} {assign body : Code} {Q : Exit → Act → World → Prop} {a : Act} {w : World}
    {gf : FuncId} {first captured : Array Value} (hg : a.eval g = .func (.func gf) first captured) (eg : ∀ args w, (callFunc gf args).run P w = .ok (.enter gf args) w)
    {mk : Value → Array Value} {encs : α → Array Value} {xs : List α} {n₀ : Nat} {w0 : World} (hmk : ∀ y, mk y = first ++ #[y] ++ captured)
    (hit : Iter P gf mk encs xs n₀ w0) (hb0 : Below n₀ w0 w) (hn0 : n₀ ≤ w.heap.size) (hps : ∀ x, (encs x).size = ps.size)
    (I : List α → (Nat → Prop) → World → Prop) (Ix : Code → List α → (Nat → Prop) → World → Prop) (A : List α → α → (Nat → Prop) → Act → World → Prop)
    (hI : StableAt w.heap.size I) (hIx : ∀ c, StableAt w.heap.size (Ix c)) (hA : ∀ pre x S a' W W', A pre x S a' W → ItStep w.heap.size S W W' → A pre x S a' W')
    (S0 : Nat → Prop) (hS0 : ∀ k, S0 k → n₀ ≤ k) (hS0' : ∀ k, S0 k → k < w.heap.size) (h0 : I [] S0 w)
    (hassign : ∀ (l : Nat) (pre : List α) (x : α) (S : Nat → Prop) (W : World), pre ++ [x] <+: xs → I pre S W → (∀ k, S k → k < W.heap.size) →
      assign.wpIn (Fence.wide.inRound l) 0 P (Exit.then (fun a₁ W₁ => ∃ S', RdStep S W W₁ ∧ (∀ k, S' k → S k ∨ W.heap.size ≤ k) ∧ (∀ k, S' k → k < W₁.heap.size) ∧ A pre x S' a₁ W₁) (fun _ _ _ => False))
        { tmps := (ps.zip (encs x)).foldl (fun t (p, v) => t.setIfInBounds p v) a.tmps, defers := [] } W)
    (hbody : ∀ (l : Nat) (pre : List α) (x : α) (S : Nat → Prop) (a₁ : Act) (W : World), pre ++ [x] <+: xs → A pre x S a₁ W → (∀ k, S k → k < W.heap.size) →
      body.wpIn (Fence.wide.inRound l) 0 P (bodyTo I Ix (pre ++ [x]) S W) a₁ W)
    (hdone : ∀ (D : Nat) (S : Nat → Prop) (W : World), w.heap.size ≤ D → ¬ S D → (∀ k, S k → S0 k ∨ w.heap.size ≤ k) → I xs S W → W.heap[D]? = some (.deferred (some [])) →
      Q .normal { a with defers := { target := .collected D, args := #[] } :: a.defers } W)
    (hstop : ∀ (D : Nat) (c : Code) (pre : List α) (S : Nat → Prop) (W : World), w.heap.size ≤ D → ¬ S D → (∀ k, S k → S0 k ∨ w.heap.size ≤ k) → pre <+: xs → Ix c pre S W → W.heap[D]? = some (.deferred (some [])) →
      c.wpIn Fence.wide 0 P Q { a with defers := { target := .collected D, args := #[] } :: a.defers } W) :
    (Code.rangeFunc g ps assign body).wpIn Fence.wide 0 P Q a w := by
  refine wpIn_rangeFunc ?_
  intro fn hfn
  show ∃ (l : Nat) (mark : List Deferred) (w₁ : World) (d : Deferred) (w₁' : World) (f : FuncId) (args : Array Value) (w₂ : World), (Instr.enterLoop fn a.tmps ps assign body none).run P w = .ok (l, mark) w₁ ∧ _
  obtain ⟨rec, hrec⟩ : ∃ rec : LoopState → Option Code → Loop, rec = fun st pe => { state := st, pending := pe, fn, tmps := a.tmps, params := ps, assign, body, defers := w.heap.size } := ⟨_, rfl⟩
  obtain ⟨W1, hW1⟩ : ∃ W1, (w.alloc (.deferred (some []))).alloc (.loop (rec .ready none)) = W1 := ⟨_, rfl⟩
  have hsz : W1.heap.size = w.heap.size + 2 := by rw [← hW1]; simp
  have hL1 : W1.heap[w.heap.size + 1]? = some (.loop (rec .ready none)) := by
    rw [← hW1]; have := World.alloc_heap_new (w.alloc (.deferred (some []))) (.loop (rec .ready none)); rwa [World.size_alloc] at this
  have hK1 : W1.heap[w.heap.size]? = some (.deferred (some [])) := by
    rw [← hW1]; exact (Below.heap_alloc _ _ _ (by simp)).trans (World.alloc_heap_new w _)
  have hI1 : I [] S0 W1 := by rw [← hW1]; exact hI _ _ _ _ (hI _ _ _ _ h0 (it_alloc _)) (it_alloc _)
  have hb1 : Below n₀ w0 W1 := by
    rw [← hW1]; exact hb0.trans ((((Below.refl _ w).alloc (Nat.le_refl _) _).alloc (by simp) _).mono hn0)
  refine ⟨w.heap.size + 1, [{ target := .collected w.heap.size, args := #[] }], W1, { target := .fn (.func gf) captured, args := first ++ #[.func (.yield (w.heap.size + 1)) #[] #[]] }, W1, gf,
    first ++ #[.func (.yield (w.heap.size + 1)) #[] #[]] ++ captured, W1, ?_, ?_, ?_, ?_, fun h => by simp [Fence.wide] at h, ?_⟩
  · rw [← hW1, hrec]; exact run_enterLoop_outer _ _ _ _ _
  · simp only [resolve, hg]
    simp [go_sem]
  · intro f' _; trivial
  · simp [invoke, go_sem, eg]
  · rw [← hmk]
    have key := hit (w.heap.size + 1)
      (fun pre Si W => ∃ S : Nat → Prop, (∀ k, Si k ↔ S k ∨ k = w.heap.size + 1) ∧ (¬ S w.heap.size) ∧ (¬ S (w.heap.size + 1)) ∧ (∀ k, S k → S0 k ∨ w.heap.size ≤ k) ∧ I pre S W ∧ W.heap[w.heap.size + 1]? = some (.loop (rec .ready none)) ∧ W.heap[w.heap.size]? = some (.deferred (some [])))
      (fun pre Si W => ∃ (S : Nat → Prop) (c : Code), (∀ k, Si k ↔ S k ∨ k = w.heap.size + 1) ∧ (¬ S w.heap.size) ∧ (¬ S (w.heap.size + 1)) ∧ (∀ k, S k → S0 k ∨ w.heap.size ≤ k) ∧ Ix c pre S W ∧ W.heap[w.heap.size + 1]? = some (.loop (rec .done (some c))) ∧ W.heap[w.heap.size]? = some (.deferred (some [])))
      (fun k => S0 k ∨ k = w.heap.size + 1) W1 hb1 ?_ ?_ ?_ ?_ ?_ ?_
    · refine key.mono ?_
      rintro e W2 ⟨⟨v, rfl⟩, (⟨S', ⟨S, hSi, hD, hL, hsub, hi, hl, hk⟩, _⟩ | ⟨pre, S', hpre, ⟨S, c, hSi, hD, hL, hsub, hi, hl, hk⟩, _⟩)⟩
      · refine ⟨none, _, by have := run_endLoop (P := P) hl (by rw [hrec]; simp); rw [hrec] at this; exact this, ?_⟩
        exact hdone _ S _ (Nat.le_refl _) hD hsub (hI _ _ _ _ hi (it_putObj _ (by omega) hL)) ((World.putObj_heap_other (by omega)).trans hk)
      · refine ⟨some c, _, by have := run_endLoop (P := P) hl (by rw [hrec]; simp); rw [hrec] at this; exact this, ?_⟩
        exact hstop _ c pre S _ (Nat.le_refl _) hD hsub hpre ((hIx c) _ _ _ _ hi (it_putObj _ (by omega) hL)) ((World.putObj_heap_other (by omega)).trans hk)
    · rintro pre Si A1 B1 ⟨S, hSi, hD, hL, hsub, hi, hl, hk⟩ hst
      have hlt : w.heap.size + 1 < A1.heap.size := (Array.getElem?_eq_some_iff.1 hl).1
      exact ⟨S, hSi, hD, hL, hsub, hI _ _ _ _ hi (hst.weaken (by omega) (fun k e => (hSi k).2 (.inl e))), (hst.keep _ hlt (.inl (by omega))).trans hl, (hst.keep _ (by omega) (.inl (by omega))).trans hk⟩
    · rintro pre Si A1 B1 ⟨S, c, hSi, hD, hL, hsub, hi, hl, hk⟩ hst
      have hlt : w.heap.size + 1 < A1.heap.size := (Array.getElem?_eq_some_iff.1 hl).1
      exact ⟨S, c, hSi, hD, hL, hsub, hIx c _ _ _ _ hi (hst.weaken (by omega) (fun k e => (hSi k).2 (.inl e))), (hst.keep _ hlt (.inl (by omega))).trans hl, (hst.keep _ (by omega) (.inl (by omega))).trans hk⟩
    · -- ONE ROUND
      rintro pre x Si W hpx ⟨S, hSi, hD, hL, hsub, hi, hl, hk⟩ hSlt hWW
      have hlt : w.heap.size + 1 < W.heap.size := (Array.getElem?_eq_some_iff.1 hl).1
      have hSlt' : ∀ k, S k → k < W.heap.size := fun k e => hSlt k ((hSi k).2 (.inl e))
      have hy := run_yield (P := P) (args := encs x) hl (by rw [hrec]; exact hps x)
      rw [hrec] at hy
      refine ⟨fn, _, assign, body, hy, roundIn_of_wpIn hfn (wpIn_mono (hassign _ pre x S W hpx hi hSlt') ?_)⟩
      intro e a1 Wa hq
      cases e with
      | normal =>
        obtain ⟨S1, hr1, hs1, hs1', hAx⟩ := hq
        have hnD1 : ¬ S1 w.heap.size := fun e => by rcases hs1 _ e with e | e; exact hD e; omega
        have hnL1 : ¬ S1 (w.heap.size + 1) := fun e => by rcases hs1 _ e with e | e; exact hL e; omega
        have hla : Wa.heap[w.heap.size + 1]? = some (.loop (rec .ready none)) := (hr1.keep _ hlt hL).trans hl
        have hka : Wa.heap[w.heap.size]? = some (.deferred (some [])) := (hr1.keep _ (by omega) hD).trans hk
        have hlta : w.heap.size + 1 < Wa.heap.size := (Array.getElem?_eq_some_iff.1 hla).1
        refine ⟨_, run_beginRound hla (by rw [hrec]), ?_⟩
        have hb := hbody (w.heap.size + 1) pre x S1 a1 (Wa.putObj (w.heap.size + 1) (.loop { rec .ready none with state := .busy })) hpx (hA _ _ _ _ _ _ hAx (it_putObj _ (by omega) hnL1)) (fun k e => by simpa using hs1' k e)
        refine wpIn_mono hb ?_
        have fin : ∀ (jump : Option Code) (W3 : World) (S3 : Nat → Prop), RdStep S1 (Wa.putObj (w.heap.size + 1) (.loop { rec .ready none with state := .busy })) W3 → (∀ k, S3 k → S1 k ∨ (Wa.putObj (w.heap.size + 1) (.loop { rec .ready none with state := .busy })).heap.size ≤ k) → (∀ k, S3 k → k < W3.heap.size) →
            (Instr.endRound (w.heap.size + 1) jump).run P W3 = .ok (.bool jump.isNone) (W3.putObj (w.heap.size + 1) (.loop (rec (if jump.isNone then .ready else .done) jump))) ∧
            (W3.putObj (w.heap.size + 1) (.loop (rec (if jump.isNone then .ready else .done) jump))).heap[w.heap.size + 1]? = some (.loop (rec (if jump.isNone then .ready else .done) jump)) ∧
            (W3.putObj (w.heap.size + 1) (.loop (rec (if jump.isNone then .ready else .done) jump))).heap[w.heap.size]? = some (.deferred (some [])) ∧
            ¬ S3 w.heap.size ∧ ¬ S3 (w.heap.size + 1) ∧ (∀ k, S3 k → S k ∨ W.heap.size ≤ k) ∧
            RdStep Si W (W3.putObj (w.heap.size + 1) (.loop (rec (if jump.isNone then .ready else .done) jump))) := fun jump W3 S3 hr3 hs3 hs3' => by
          have hl2 : (Wa.putObj (w.heap.size + 1) (.loop { rec .ready none with state := .busy })).heap[w.heap.size + 1]? = some (.loop { rec .ready none with state := .busy }) := World.putObj_heap_same hlta
          have hk2 : (Wa.putObj (w.heap.size + 1) (.loop { rec .ready none with state := .busy })).heap[w.heap.size]? = some (.deferred (some [])) := (World.putObj_heap_other (by omega)).trans hka
          have hl3 := (hr3.keep _ (by simpa using hlta) hnL1).trans hl2
          have hk3 := (hr3.keep _ (by simp; omega) hnD1).trans hk2
          have hlt3 := (Array.getElem?_eq_some_iff.1 hl3).1
          have := run_endRound (P := P) jump hl3
          rw [hrec] at this ⊢
          have hsz3 := hr3.size
          have hsz1 := hr1.size
          simp only [World.putObj_size] at hsz3 hs3
          refine ⟨this, World.putObj_heap_same hlt3, (World.putObj_heap_other (by omega)).trans hk3, fun e => ?_, fun e => ?_, fun k e => ?_, ?_⟩
          · rcases hs3 _ e with e | e; exact hnD1 e; omega
          · rcases hs3 _ e with e | e; exact hnL1 e; omega
          · rcases hs3 _ e with e | e
            · exact hs1 _ e
            · right; omega
          · refine ⟨hr3.os.trans hr1.os, hr3.tape.trans hr1.tape, hr3.output.trans hr1.output, by simp; omega, fun k hk' hnS => ?_⟩
            have hkl : k ≠ w.heap.size + 1 := fun e => hnS ((hSi k).2 (.inr e))
            have hnS' : ¬ S k := fun e => hnS ((hSi k).2 (.inl e))
            have hnS1 : ¬ S1 k := fun e => by rcases hs1 _ e with e | e; exact hnS' e; omega
            exact (World.putObj_heap_other hkl).trans ((hr3.keep k (by simp; omega) hnS1).trans ((World.putObj_heap_other hkl).trans (hr1.keep k hk' hnS')))
        have fin2 : ∀ (S3 : Nat → Prop) (W3 : World) (o : Obj), (∀ k, S3 k → k < W3.heap.size) → W.heap.size ≤ W3.heap.size → (∀ k, S3 k → S k ∨ W.heap.size ≤ k) →
            (∀ k, (S3 k ∨ k = w.heap.size + 1) → Si k ∨ W.heap.size ≤ k) ∧ (∀ k, (S3 k ∨ k = w.heap.size + 1) → k < (W3.putObj (w.heap.size + 1) o).heap.size) := fun S3 W3 o h1 h2 h3 =>
          ⟨fun k e => by rcases e with e | e; exact (h3 k e).imp (fun e' => (hSi k).2 (.inl e')) id; exact .inl ((hSi k).2 (.inr e)), fun k e => by
            simp only [World.putObj_size]
            rcases e with e | e
            · exact h1 k e
            · omega⟩
        have sub3 : ∀ (S3 : Nat → Prop), (∀ k, S3 k → S k ∨ W.heap.size ≤ k) → ∀ k, S3 k → S0 k ∨ w.heap.size ≤ k := fun S3 h k e => by
          rcases h k e with e | e
          · exact hsub k e
          · right; omega
        rintro e a3 W3 hp
        cases e with
        | normal =>
          obtain ⟨S3, hr3, hs3, hs3', hi3⟩ := hp
          obtain ⟨hr, hl4, hk4, hnD, hnL, hsS, hrd⟩ := fin none W3 S3 hr3 hs3 hs3'
          have hsz : W.heap.size ≤ W3.heap.size := by simpa using hrd.size
          refine ⟨_, _, hr, fun k => S3 k ∨ k = w.heap.size + 1, hrd, (fin2 S3 W3 (.deferred none) hs3' hsz hsS).1, (fin2 S3 W3 _ hs3' hsz hsS).2, .inl ⟨rfl, S3, fun _ => Iff.rfl, hnD, hnL, sub3 S3 hsS, hI _ _ _ _ hi3 (it_putObj _ (by omega) hnL), hl4, hk4⟩⟩
        | ret =>
          obtain ⟨S3, hr3, hs3, hs3', hi3⟩ := hp
          obtain ⟨hr, hl4, hk4, hnD, hnL, hsS, hrd⟩ := fin (some .ret) W3 S3 hr3 hs3 hs3'
          have hsz : W.heap.size ≤ W3.heap.size := by simpa using hrd.size
          refine ⟨_, _, hr, fun k => S3 k ∨ k = w.heap.size + 1, hrd, (fin2 S3 W3 (.deferred none) hs3' hsz hsS).1, (fin2 S3 W3 _ hs3' hsz hsS).2, .inr ⟨rfl, S3, .ret, fun _ => Iff.rfl, hnD, hnL, sub3 S3 hsS, hIx _ _ _ _ _ hi3 (it_putObj _ (by omega) hnL), hl4, hk4⟩⟩
        | exit id =>
          obtain ⟨S3, hr3, hs3, hs3', hi3⟩ := hp
          obtain ⟨hr, hl4, hk4, hnD, hnL, hsS, hrd⟩ := fin (some (.exit id)) W3 S3 hr3 hs3 hs3'
          have hsz : W.heap.size ≤ W3.heap.size := by simpa using hrd.size
          refine ⟨_, _, hr, fun k => S3 k ∨ k = w.heap.size + 1, hrd, (fin2 S3 W3 (.deferred none) hs3' hsz hsS).1, (fin2 S3 W3 _ hs3' hsz hsS).2, .inr ⟨rfl, S3, .exit id, fun _ => Iff.rfl, hnD, hnL, sub3 S3 hsS, hIx _ _ _ _ _ hi3 (it_putObj _ (by omega) hnL), hl4, hk4⟩⟩
        | goto t => exact hp.elim
        | panic ch => exact hp.elim
        | outgrown => exact hp.elim
      | ret => exact hq.elim
      | exit id => exact hq.elim
      | goto t => exact hq.elim
      | panic ch => exact hq.elim
      | outgrown => exact hq.elim
    · rintro k (e | rfl)
      · exact hS0 k e
      · omega
    · rintro k (e | rfl)
      · have := hS0' k e; omega
      · omega
    · exact ⟨S0, fun _ => Iff.rfl, fun e => by have := hS0' _ e; omega, fun e => by have := hS0' _ e; omega, fun _ e => .inl e, hI1, hL1, hK1⟩

theorem boxed_it {B : Nat} {S : Nat → Prop} {W W' : World} {b : Nat} {t : TypeId} {v : Value} (h : Boxed W b t v) (hs : ItStep B S W W') (hb : S b) : Boxed W' b t v := (hs.keep b h.lt (.inr hb)).trans h
theorem below_it {n B : Nat} {S : Nat → Prop} {w W W' : World} (h : Below n w W) (hs : ItStep B S W W') (hB : n ≤ B) (hn : n ≤ w.heap.size) : Below n w W' :=
  ⟨hs.os.trans h.os, hs.tape.trans h.tape, hs.output.trans h.output, Nat.le_trans h.size hs.size, fun k hk => (hs.keep k (by have := h.size; omega) (.inl (by omega))).trans (h.block k hk)⟩
theorem boxed_below {n : Nat} {W W' : World} {b : Nat} {t : TypeId} {v : Value} (h : Boxed W b t v) (hs : Below n W W') (hb : b < n) : Boxed W' b t v := (hs.block b hb).trans h
theorem boxed_far {W : World} {b : Nat} {t : TypeId} {v : Value} (h : Boxed W b t v) {p : Addr} (hp : b ≠ p.block) (u : Value) : Boxed (W.setCell p u) b t v := (Below.heap_setCell W p u b hp).trans h

/-- A function that holds a range over a function returns: ahead of the loop, and behind it. -/
theorem endM0 {P : Program} {fn : Func} {R : Ending → World → Prop} {tmps : Array Value} {w : World} {v : Value} (hres : (results fn tmps).run P w = .ok v w) (hR : R (.returned v) w) :
    bodyPostM Fence.wide 0 P fn R .ret { tmps := tmps, defers := [] } w := ⟨_, hres, hR⟩
theorem endM1 {P : Program} {fn : Func} {R : Ending → World → Prop} {tmps : Array Value} {W : World} {D : Nat} {v : Value} (hK : W.heap[D]? = some (.deferred (some [])))
    (hres : (results fn tmps).run P (W.putObj D (.deferred none)) = .ok v (W.putObj D (.deferred none))) (hR : R (.returned v) (W.putObj D (.deferred none))) :
    bodyPostM Fence.wide 0 P fn R .ret { tmps := tmps, defers := [{ target := .collected D, args := #[] }] } W :=
  ⟨by simp, .inl ⟨_, _, rfl, run_takeDeferred hK, _, hres, hR⟩⟩
theorem below_putObj {n D : Nat} {w W : World} (h : Below n w W) (hD : n ≤ D) (o : Obj) : Below n w (W.putObj D o) :=
  ⟨h.os, h.tape, h.output, by simpa using h.size, fun k hk => (World.putObj_heap_other (by omega)).trans (h.block k hk)⟩
theorem boxed_putObj {W : World} {b D : Nat} {t : TypeId} {v : Value} (h : Boxed W b t v) (hD : b ≠ D) (o : Obj) : Boxed (W.putObj D o) b t v := (World.putObj_heap_other hD).trans h

/-- The same, with the assignment and the body in one premise: no frame need be named. -/
theorem wpIn_range' {α : Type} {P : Program} {g : Operand} {ps : Array Tmp} {assign body : Code} {Q : Exit → Act → World → Prop} {a : Act} {w : World}
    {gf : FuncId} {first captured : Array Value} (hg : a.eval g = .func (.func gf) first captured) (eg : ∀ args w, (callFunc gf args).run P w = .ok (.enter gf args) w)
    {mk : Value → Array Value} {encs : α → Array Value} {xs : List α} {n₀ : Nat} {w0 : World} (hmk : ∀ y, mk y = first ++ #[y] ++ captured)
    (hit : Iter P gf mk encs xs n₀ w0) (hb0 : Below n₀ w0 w) (hn0 : n₀ ≤ w.heap.size) (hps : ∀ x, (encs x).size = ps.size)
    (I : List α → (Nat → Prop) → World → Prop) (Ix : Code → List α → (Nat → Prop) → World → Prop)
    (hI : StableAt w.heap.size I) (hIx : ∀ c, StableAt w.heap.size (Ix c))
    (S0 : Nat → Prop) (hS0 : ∀ k, S0 k → n₀ ≤ k) (hS0' : ∀ k, S0 k → k < w.heap.size) (h0 : I [] S0 w)
    (hround : ∀ (l0 : Nat) (pre : List α) (x : α) (S : Nat → Prop) (W : World), pre ++ [x] <+: xs → I pre S W → (∀ k, S k → k < W.heap.size) →
      assign.wpIn (Fence.wide.inRound l0) 0 P (Exit.then (fun a₁ W₁ => ∃ S', RdStep S W W₁ ∧ (∀ k, S' k → S k ∨ W.heap.size ≤ k) ∧ (∀ k, S' k → k < W₁.heap.size) ∧
          ∀ l W₂, ItStep w.heap.size S' W₁ W₂ → body.wpIn (Fence.wide.inRound l) 0 P (bodyTo I Ix (pre ++ [x]) S' W₂) a₁ W₂) (fun _ _ _ => False))
        { tmps := (ps.zip (encs x)).foldl (fun t (p, v) => t.setIfInBounds p v) a.tmps, defers := [] } W)
    (hdone : ∀ (D : Nat) (S : Nat → Prop) (W : World), w.heap.size ≤ D → ¬ S D → (∀ k, S k → S0 k ∨ w.heap.size ≤ k) → I xs S W → W.heap[D]? = some (.deferred (some [])) →
      Q .normal { a with defers := { target := .collected D, args := #[] } :: a.defers } W)
    (hstop : ∀ (D : Nat) (c : Code) (pre : List α) (S : Nat → Prop) (W : World), w.heap.size ≤ D → ¬ S D → (∀ k, S k → S0 k ∨ w.heap.size ≤ k) → pre <+: xs → Ix c pre S W → W.heap[D]? = some (.deferred (some [])) →
      c.wpIn Fence.wide 0 P Q { a with defers := { target := .collected D, args := #[] } :: a.defers } W) :
    (Code.rangeFunc g ps assign body).wpIn Fence.wide 0 P Q a w :=
  wpIn_range hg eg hmk hit hb0 hn0 hps I Ix (fun pre x S a₁ W => ∀ l W₂, ItStep w.heap.size S W W₂ → body.wpIn (Fence.wide.inRound l) 0 P (bodyTo I Ix (pre ++ [x]) S W₂) a₁ W₂)
    hI hIx (fun _ _ _ _ _ _ h hs l W₂ h2 => h l W₂ (hs.trans h2)) S0 hS0 hS0' h0 hround (fun l _ _ _ _ W _ h _ => h l W (ItStep.refl _ _ _)) hdone hstop

end Go.Proofs.YtnbolgdccdnjeaaGreatDoor
/- Words for memory that only grows, and a region that draws its order while its calls make memory. No condition. -/
namespace Go.Proofs.YtnbolgdccdnjeaaGreatDoor
open Go.RowKit

/-- A world that has grown out of w: nothing that lay in w has turned. -/
def Grow (w : World) : Type := { x : World // Below w.heap.size w x }
def Grow.w {w : World} (g : Grow w) : World := g.1
theorem Grow.below {w : World} (g : Grow w) : Below w.heap.size w g.w := g.2
instance (w : World) : Nonempty (Grow w) := ⟨⟨w, Below.refl _ _⟩⟩
theorem Grow.cell {w : World} (g : Grow w) (p : Addr) (h : p.block < w.heap.size) : g.w.cell? p = w.cell? p := g.2.cell h
theorem Grow.frozen {w : World} (g : Grow w) (p : Addr) (h : p.block < w.heap.size) : g.w.frozen? p = w.frozen? p := g.2.frozen h
theorem Grow.size {w : World} (g : Grow w) : w.heap.size ≤ g.w.heap.size := g.2.size

def Grows (w : World) (w' : World) : Prop := ∃ g : Grow w, w' = g.w
theorem Grows.of {w w' : World} (h : Below w.heap.size w w') : Grows w w' := ⟨⟨w', h⟩, rfl⟩

/-- A callee's contract, met in a world that has grown. -/
theorem Calls.grow_of {P : Program} {f : FuncId} {args : Array Value} {w : World} {g : Grow w} {v : Value}
    (h : Calls P f args g.w fun e w' => e = .returned v ∧ Below g.w.heap.size g.w w') : Calls P f args g.w fun e w'' => e = .returned v ∧ ∃ g' : Grow w, w'' = g'.w :=
  h.mono fun _ w' ⟨he, hm⟩ => ⟨he, ⟨w', g.2.trans (hm.mono g.2.size)⟩, rfl⟩
theorem Calls.grow_same {P : Program} {f : FuncId} {args : Array Value} {w : World} {g : Grow w} {v : Value}
    (h : Calls P f args g.w fun e w' => e = .returned v ∧ g.w = w') : Calls P f args g.w fun e w'' => e = .returned v ∧ ∃ g' : Grow w, w'' = g'.w :=
  h.mono fun _ _ ⟨he, hm⟩ => ⟨he, g, hm.symm⟩

section
variable {P : Program}
theorem wp_region_grow {id : Nat} {Q : Exit → Act → World → Prop} {a : Act} {w : World} {l : List Oper} (hm : P.follows .mixedOrders = true) (hB : Region.lexB .any l.toArray = true)
    (h : wpQuiet P l.toArray (fun w' => ∃ g : Grow w, w' = g.w) (fun a' => ∀ w', (∃ g : Grow w, w' = g.w) → Q .normal a' w') l a) : (Code.region id l.toArray true).wp P Q a w :=
  wp_region_quiet (C := fun w' => ∃ g : Grow w, w' = g.w) hm hB ⟨⟨_, (Below.refl w.heap.size w).drew⟩, rfl⟩ (by simpa using h)
end

/-- All that lay below reads as it did: the two rules that the walk wants behind a call. -/
theorem bcell {W w1 : World} (hb : Below W.heap.size W w1) : (∀ b o, b < W.heap.size → w1.cell? ⟨b, o, none⟩ = W.cell? ⟨b, o, none⟩) ∧ (∀ b o, b < W.heap.size → w1.frozen? ⟨b, o, none⟩ = W.frozen? ⟨b, o, none⟩) :=
  ⟨fun b o h => hb.cell (p := ⟨b, o, none⟩) h, fun b o h => hb.frozen (p := ⟨b, o, none⟩) h⟩

theorem ret_bool {a b : Bool} (h : a = b) : Ending.returned (.bool a) = .returned (.bool b) := by rw [h]
theorem ret_int {k : IntKind} {a b : Int} (h : a = b) : Ending.returned (.int k a) = .returned (.int k b) := by rw [h]

/-! Bytes of a string. -/
theorem size_list (s : ByteArray) : s.data.toList.length = s.size := rfl
theorem get_list (s : ByteArray) (k : Nat) (h : k < s.size) : s.data.toList[k]? = some s[k] := by
  rw [List.getElem?_eq_getElem (by rw [size_list]; exact h)]; rfl
theorem head_list (s : ByteArray) (h : 0 < s.size) : s.data.toList.head? = some s[0] := by
  rw [List.head?_eq_getElem?]; exact get_list s 0 h
theorem last_list (s : ByteArray) (h : s.size - 1 < s.size) : s.data.toList.getLast? = some s[s.size - 1] := by
  rw [List.getLast?_eq_getElem?, size_list]; exact get_list s _ h
theorem take_snoc (s : ByteArray) (k : Nat) (h : k < s.size) : s.data.toList.take (k + 1) = s.data.toList.take k ++ [s[k]] := by
  rw [List.take_succ_eq_append_getElem (by simpa using h)]; rfl
theorem take_all (s : ByteArray) (k : Nat) (h : s.size ≤ k) : s.data.toList.take k = s.data.toList := List.take_of_length_le (by rw [size_list]; exact h)
theorem u8_eq (c : UInt8) (n : Nat) (hn : n < 256) : (c == UInt8.ofNat n) = decide ((c.toNat : Int) = n) := by
  rw [Bool.eq_iff_iff]
  simp only [beq_iff_eq, decide_eq_true_eq]
  constructor
  · rintro rfl; simp; omega
  · intro h; apply UInt8.toNat_inj.1; simp; omega
theorem u8_bd (c : UInt8) : 0 ≤ (c.toNat : Int) ∧ (c.toNat : Int) ≤ 255 := by have := UInt8.toNat_lt c; omega
theorem str_ext {s t : ByteArray} (h : s.data.toList = t.data.toList) : s = t := by
  cases s; cases t; simp only at h ⊢; congr 1; exact Array.toList_inj.1 h

theorem ext_list (s : ByteArray) (i j : Nat) : (s.extract i j).data.toList = (s.data.toList.take j).drop i := by
  rw [ByteArray.data_extract]; simp [Array.toList_extract, List.extract_eq_take_drop, List.drop_take]
theorem ext_from (s : ByteArray) (i : Nat) : (s.extract i s.size).data.toList = s.data.toList.drop i := by
  rw [ext_list, List.take_of_length_le (by rw [size_list]; exact Nat.le_refl _)]
theorem ext_to (s : ByteArray) (j : Nat) : (s.extract 0 j).data.toList = s.data.toList.take j := by rw [ext_list]; rfl

/-- A region that draws: its first n operations read and call quietly; the rest follow in one order. -/
theorem wp_region_tail {P : Program} {id : Nat} {Q : Exit → Act → World → Prop} {a : Act} {w : World} {l : List Oper} (n : Nat) (hm : P.follows .mixedOrders = true) (hB : Region.lexTailB .any l.toArray n = true)
    (h : wpStill P l.toArray w.drew (fun a' => wpList P l.toArray Q (l.drop n) a' w.drew) (l.take n) a) : (Code.region id l.toArray true).wp P Q a w := wp_region_still_tail n hm hB h
theorem Calls.still_same {P : Program} {f : FuncId} {args : Array Value} {w : World} {v : Value} (h : Calls P f args w fun e w' => e = .returned v ∧ w = w') : Calls P f args w fun e w'' => e = .returned v ∧ w'' = w :=
  h.mono fun _ _ ⟨he, hw⟩ => ⟨he, hw.symm⟩

/-! ### Slices that lie below block B: element i is a row of sz cells. -/
/-- The cells of a list of values, from an address on. -/
def CellsAt (w : World) (b o : Nat) (e : List Value) : Prop := ∀ j v, e[j]? = some v → w.cell? ⟨b, o + j, none⟩ = some v
theorem CellsAt.keep {w w' : World} {b o : Nat} {e : List Value} {B : Nat} (h : CellsAt w b o e) (hb : Below B w w') (hB : b < B) : CellsAt w' b o e :=
  fun j v hj => (hb.cell (p := ⟨b, o + j, none⟩) hB).trans (h j v hj)

/-- The slice value v reads as the list xs, each element by R. -/
def SlR {α : Type} (R : World → Nat → List Value → α → Prop) (sz : Nat) (w : World) (B : Nat) (v : Value) (xs : List α) : Prop :=
  ∃ (A : Option Addr) (c : Nat), v = .slice A xs.length c ∧ xs.length ≤ c ∧ xs.length ≤ 140737488355328 ∧ ∀ i x, xs[i]? = some x → ∃ b o e, A = some ⟨b, o, none⟩ ∧ b < B ∧ e.length = sz ∧ CellsAt w b (o + i * sz) e ∧ R w B e x
/-- R speaks of what lies below B alone. -/
def KeptR {α : Type} (R : World → Nat → List Value → α → Prop) : Prop := ∀ w w' B e x, R w B e x → Below B w w' → R w' B e x
theorem SlR.keep {α : Type} {R : World → Nat → List Value → α → Prop} {sz : Nat} {w w' : World} {B : Nat} {v : Value} {xs : List α} (hR : KeptR R) (h : SlR R sz w B v xs) (hb : Below B w w') : SlR R sz w' B v xs := by
  obtain ⟨A, c, hv, hc, hl, he⟩ := h
  refine ⟨A, c, hv, hc, hl, fun i x hx => ?_⟩
  obtain ⟨b, o, e, hA, hB, hel, hce, hr⟩ := he i x hx
  exact ⟨b, o, e, hA, hB, hel, hce.keep hb hB, hR _ _ _ _ _ hr hb⟩
/-- R may be read at a greater bound. -/
def MoreR {α : Type} (R : World → Nat → List Value → α → Prop) : Prop := ∀ w B B' e x, R w B e x → B ≤ B' → R w B' e x
theorem SlR.more {α : Type} {R : World → Nat → List Value → α → Prop} {sz : Nat} {w : World} {B B' : Nat} {v : Value} {xs : List α} (hR : MoreR R) (h : SlR R sz w B v xs) (hB : B ≤ B') : SlR R sz w B' v xs := by
  obtain ⟨A, c, hv, hc, hl, he⟩ := h
  refine ⟨A, c, hv, hc, hl, fun i x hx => ?_⟩
  obtain ⟨b, o, e, hA, hb, hel, hce, hr⟩ := he i x hx
  exact ⟨b, o, e, hA, by omega, hel, hce, hR _ _ _ _ _ hr hB⟩

end Go.Proofs.YtnbolgdccdnjeaaGreatDoor
/- Rows of the call's own: append with the place of what comes back; an owned row read as a list. No condition. -/
namespace Go.Proofs.YtnbolgdccdnjeaaGreatDoor
open Go.RowKit

theorem ownsRow_keep {W W' : World} {base : Nat} {e : TypeId} {size : Nat} {v : Value} {k : Nat} {xs : List Value} (h : W.ownsRow base e size v k xs) (hs : ∀ g, v.ownBlock = some g → W'.heap[g]? = W.heap[g]?) : W'.ownsRow base e size v k xs := by
  refine ⟨h.1, ?_⟩
  rcases h.2 with hn | ⟨g, cap, cur, rfl, hb, hg, rest⟩
  · exact .inl hn
  · exact .inr ⟨g, cap, cur, rfl, hb, (hs g rfl).trans hg, rest⟩

/-- An owned row, read as a list: each element is a run of sz cells. -/
theorem slr_of_own {α : Type} {R : World → Nat → List Value → α → Prop} {sz : Nat} {W : World} {base : Nat} {e : TypeId} {v : Value} {xs : List α} (enc : α → List Value) (hlen : ∀ x ∈ xs, (enc x).length = sz)
    (h : W.ownsRow base e sz v xs.length (xs.flatMap enc)) (hl : xs.length ≤ 140737488355328) (hR : ∀ x ∈ xs, R W W.heap.size (enc x) x) : SlR R sz W W.heap.size v xs := by
  have hpart : ∀ (l : List α) (i : Nat) (x : α) (j : Nat) (u : Value), (∀ y ∈ l, (enc y).length = sz) → l[i]? = some x → (enc x)[j]? = some u → (l.flatMap enc)[i * sz + j]? = some u := by
    intro l
    induction l with
    | nil => intro i x j u _ hi; simp at hi
    | cons y l ih =>
      intro i x j u hle hi hj
      rw [List.flatMap_cons]
      have hy : (enc y).length = sz := hle y (by simp)
      cases i with
      | zero =>
        simp at hi; subst hi
        rw [List.getElem?_append_left (by have := (List.getElem?_eq_some_iff.1 hj).1; omega)]
        simpa using hj
      | succ i =>
        rw [List.getElem?_append_right (by rw [hy, Nat.succ_mul]; omega), hy]
        have := ih i x j u (fun y hy => hle y (by simp [hy])) (by simpa using hi) hj
        rw [show (i + 1) * sz + j - sz = i * sz + j by rw [Nat.succ_mul]; omega]
        exact this
  rcases h.2 with ⟨rfl, h0⟩ | ⟨g, cap, cur, rfl, hb, hg, hnc, _, _, htake⟩
  · have : xs = [] := List.eq_nil_of_length_eq_zero h0
    subst this
    exact ⟨none, 0, rfl, by simp, by simp, fun i x hx => by simp at hx⟩
  · refine ⟨_, cap, rfl, hnc, hl, fun i x hx => ⟨g, 0, enc x, rfl, (Array.getElem?_eq_some_iff.1 hg).1, hlen x (List.mem_of_getElem? hx), fun j u hj => ?_, hR x (List.mem_of_getElem? hx)⟩⟩
    have h1 := hpart xs i x j u hlen hx hj
    have h2 := h.cells (g := g) rfl _ _ h1
    have hadd : (⟨g, 0, none⟩ : Addr).add (i * sz + j) = ⟨g, 0 + i * sz + j, none⟩ := by unfold Addr.add; split <;> simp_all
    rw [hadd] at h2
    exact h2

theorem map_flat {α : Type} (f : α → Value) (l : List α) : l.map f = l.flatMap fun x => [f x] := by induction l <;> simp_all

theorem ownsRow_form {W : World} {base : Nat} {e : TypeId} {size : Nat} {v : Value} {k : Nat} {xs : List Value} (h : W.ownsRow base e size v k xs) : ∃ A cap, v = .slice A k cap := by
  rcases h.2 with ⟨rfl, rfl⟩ | ⟨g, cap, _, rfl, _⟩
  · exact ⟨none, 0, rfl⟩
  · exact ⟨_, cap, rfl⟩
theorem ownsRow_base {W : World} {base : Nat} {e : TypeId} {size : Nat} {v : Value} {k : Nat} {xs : List Value} (h : W.ownsRow base e size v k xs) : ∀ g, v.ownBlock = some g → base ≤ g ∧ g < W.heap.size := h.lt

end Go.Proofs.YtnbolgdccdnjeaaGreatDoor
/- A region that draws its order: its first n operations make memory at most; what follows them comes in one order, and may panic. No condition. -/
namespace Go.Proofs.YtnbolgdccdnjeaaGreatDoor
open Go.RowKit
section
variable {P : Program} {ops : Array Oper} {md : Region.Mode} {C : World → Prop}
/-- Any order of the first n operations, each quiet; L speaks where all have come. -/
def HeadsQ (P : Program) (md : Region.Mode) (ops : Array Oper) (C : World → Prop) (n : Nat) (L : Array Bool → Act → Prop) : Nat → Array Bool → Act → Prop
  | 0, listed, a => L listed a
  | f + 1, listed, a => Region.ready md ops listed ≠ [] ∧ ∀ i ∈ Region.ready md ops listed, i < n ∧ qOp P ops C i (HeadsQ P md ops C n L f (listed.setIfInBounds i true)) a
theorem headsQ_any {n g : Nat} {L : Array Bool → Act → Prop} {Q : Exit → Act → World → Prop} (hL : ∀ listed a w, C w → L listed a → wpAny P md ops Q g listed a w) :
    ∀ (f : Nat) (listed : Array Bool) (a : Act) (w : World), C w → HeadsQ P md ops C n L f listed a → wpAny P md ops Q (f + g) listed a w := by
  intro f
  induction f with
  | zero => intro listed a w hw h; rw [Nat.zero_add]; exact hL _ _ _ hw h
  | succ f ih =>
    intro listed a w hw h
    have e : f + 1 + g = (f + g) + 1 := by omega
    rw [e]
    exact ⟨fun h0 => absurd h0 h.1, fun i hi => wpOp_of_qOp hw (fun a' w' hw' h' => ih _ a' w' hw' h') (h.2 i hi).2⟩
theorem headsQ_first {n i : Nat} {oi : Oper} {v : Value} {L : Array Bool → Act → Prop} (hi : ops[i]? = some oi) (hsel : ∀ (j : Nat) (o : Oper) cs b, ops[j]? = some o → o.op ≠ .select cs b)
    (hs : Region.sinkB md ops n = true) (hc : Region.chainB md ops n = true) (hn : n < ops.size) (hin : i < n) (hdone : ∀ listed a, L listed a → ∀ j ∈ Region.ready md ops listed, n ≤ j) :
    ∀ (f : Nat) (listed : Array Bool) (a : Act), HeadInv md ops n listed →
      (∀ j oj, ops[j]? = some oj → j ≠ i → listed.getD j true = false → (∀ e ∈ oj.after, Region.binds md e = true → e.on ≠ i) → oi.apart ops oj = true) →
      i ∈ Region.ready md ops listed → YieldsIn P ops C oi v a → HeadsQ P md ops C n L f (listed.setIfInBounds i true) (a.put oi.dst v) → HeadsQ P md ops C n L (f + 1) listed a := by
  intro f
  induction f with
  | zero =>
    intro listed a inv _ hr hy H
    have hun := (mem_ready.1 hr).1
    refine ⟨fun h => (by rw [h] at hr; cases hr), fun j hj => ?_⟩
    have hjn : j < n := Decidable.byContradiction fun h => tail_waits hs hc hn inv _ i rfl hin hun j (by omega) hj
    refine ⟨hjn, ?_⟩
    by_cases hji : j = i
    · subst hji; exact hy.qOp hi H
    · have := hdone _ _ H j (ready_mono hj hji); omega
  | succ f ih =>
    intro listed a inv hfree hr hy H
    have hun := (mem_ready.1 hr).1
    refine ⟨fun h => (by rw [h] at hr; cases hr), fun j hj => ?_⟩
    have hjn : j < n := Decidable.byContradiction fun h => tail_waits hs hc hn inv _ i rfl hin hun j (by omega) hj
    refine ⟨hjn, ?_⟩
    by_cases hji : j = i
    · subst hji; exact hy.qOp hi H
    · have h1 := (H.2 j (ready_mono hj hji)).2
      obtain ⟨hjun, oj, hoj, hall⟩ := mem_ready.1 hj
      have hnot : ∀ e ∈ oj.after, Region.binds md e = true → e.on ≠ i := fun e he hb heq => by
        have h2 := hall e he hb
        rw [heq, getD_both hun] at h2; cases h2
      have h2 := qOp_put hoj (hfree j oj hoj hji hjun hnot) (fun cs b => hsel i oi cs b hi) (fun cs b => hsel j oj cs b hoj) hy h1
      refine qOp_mono (fun a' h3 => ih (listed.setIfInBounds j true) a' (inv.set hj hjn) (fun k ok hk hki hkun hno => ?_) (ready_mono hr (Ne.symm hji)) h3.1 ?_) h2
      · refine hfree k ok hk hki ?_ hno
        by_cases hjk : j = k
        · subst hjk; exact hjun
        · rwa [getD_set_ne true hjk] at hkun
      · rw [Array.setIfInBounds_comm _ _ hji]; exact h3.2
theorem headsQ_lex {n g : Nat} {Lq : Act → Prop} (hsel : Region.noSelect ops = true) (hs : Region.sinkB md ops n = true) (hc : Region.chainB md ops n = true) (hn : n < ops.size) :
    ∀ (l : List Oper) (k : Nat) (listed : Array Bool) (a : Act), (∀ j, j < l.length → l[j]? = ops[k + j]?) → k + l.length = n → HeadInv md ops n listed → Region.lexHead md ops g l.length k listed = true → wpQuiet P ops C Lq l a →
    HeadsQ P md ops C n (fun listed' a' => Region.seqB md ops g n listed' = true ∧ Lq a') l.length listed a
  | [], k, listed, a, _, hk, _, hB, h => by
    have hk : k = n := hk
    subst hk
    exact ⟨by simpa [Region.lexHead] using hB, h⟩
  | o :: l, k, listed, a, hl, hk, inv, hB, h => by
    have h0 : ops[k]? = some o := by simpa using (hl 0 (by simp)).symm
    simp only [List.length_cons, Region.lexHead, Bool.and_eq_true] at hB
    simp only [List.length_cons] at hk
    have hr : k ∈ Region.ready md ops listed := by simpa using hB.1.1
    obtain ⟨v, hy, hK⟩ := yieldsIn_of_qOp (K := wpQuiet P ops C Lq l) h0 (by unfold qOp; simp only [h0]; exact h)
    exact headsQ_first h0 (Region.noSelect_spec hsel) hs hc hn (by omega) (fun _ _ hL => seqB_ready hL.1) l.length listed a inv (Region.free_spec h0 hB.1.2) hr hy
      (headsQ_lex hsel hs hc hn l (k + 1) _ _ (fun j hj => by have := hl (j + 1) (by simp; omega); simpa [Nat.add_assoc, Nat.add_comm 1 j] using this) (by omega) (inv.set hr (by omega)) hB.2 hK)
theorem wp_region_class_tail {id : Nat} {Q : Exit → Act → World → Prop} {a : Act} {w : World} {l : List Oper} (n : Nat) (hm : P.follows .mixedOrders = true) (hB : Region.lexTailB .any l.toArray n = true) (hC : C w.drew)
    (h : wpQuiet P l.toArray C (fun a' => ∀ w', C w' → wpList P l.toArray Q (l.drop n) a' w') (l.take n) a) : (Code.region id l.toArray true).wp P Q a w := by
  simp only [Region.lexTailB, Bool.and_eq_true, decide_eq_true_eq] at hB
  obtain ⟨⟨⟨⟨hsel, hn⟩, hs⟩, hc⟩, hlex⟩ := hB
  have hn' : n < l.length := by simpa using hn
  have htl : (l.take n).length = n := by simp; omega
  have hdl : (l.drop n).length = l.toArray.size - n := by simp
  have inv0 : HeadInv .any l.toArray n (Array.replicate l.toArray.size false) :=
    ⟨by simp, fun j oj _ hl => (by rw [getD_replicate_false] at hl; cases hl), fun t _ ht => getD_in (by simpa using ht) (getD_replicate_false _ _)⟩
  have H := headsQ_lex (md := .any) (g := l.toArray.size - n) hsel hs hc hn (l.take n) 0 _ a (fun j hj => by
    have hj' : j < n := by rw [htl] at hj; exact hj
    simp [hj']) (by simpa using htl) inv0 (by rw [htl]; exact hlex) h
  refine wp_region_any hm ?_
  have H2 := headsQ_any (Q := Q) (g := l.toArray.size - n) (fun listed a' w' hw' hL => by
    have := wpAny_of_seq (md := .any) (Q' := Q) (l.drop n) n listed a' w' (fun j => by simp [List.getElem?_drop]) (by rw [hdl]; exact hL.1) (hL.2 w' hw')
    rwa [hdl] at this) _ _ _ w.drew hC H
  rw [htl, show n + (l.toArray.size - n) = l.toArray.size by omega] at H2
  exact H2
theorem wp_region_grow_tail {id : Nat} {Q : Exit → Act → World → Prop} {a : Act} {w : World} {l : List Oper} (n : Nat) (hm : P.follows .mixedOrders = true) (hB : Region.lexTailB .any l.toArray n = true)
    (h : wpQuiet P l.toArray (fun w' => ∃ g : Grow w, w' = g.w) (fun a' => ∀ w', (∃ g : Grow w, w' = g.w) → wpList P l.toArray Q (l.drop n) a' w') (l.take n) a) : (Code.region id l.toArray true).wp P Q a w :=
  wp_region_class_tail n hm hB ⟨⟨_, (Below.refl w.heap.size w).drew⟩, rfl⟩ h
end
end Go.Proofs.YtnbolgdccdnjeaaGreatDoor
/- A region that draws its order: one operation panics, whatever came before it; what does not wait for it is quiet. No condition. -/
namespace Go.Proofs.YtnbolgdccdnjeaaGreatDoor
open Go.RowKit
section
variable {P : Program} {ops : Array Oper} {md : Region.Mode} {C : World → Prop} {Q : Exit → Act → World → Prop}
theorem put_same (a : Act) (d : Nat) (v : Value) (h : d < a.tmps.size) : (a.put (some d) v).eval (.tmp d) = v := by
  simp [Act.put, Act.eval, h]
theorem put_ne (a : Act) (d j : Nat) (v : Value) (h : d ≠ j) : (a.put (some d) v).eval (.tmp j) = a.eval (.tmp j) := by
  simp [Act.put, Act.eval, h, Array.getD_eq_getD_getElem?]
/-- G says, with f operations left: what is ready is p, which panics, or is quiet and leads on. -/
theorem wpAny_panics {G : Nat → Array Bool → Act → Prop} {p : Nat} (h0 : ∀ listed a, ¬ G 0 listed a)
    (hs : ∀ f listed a, G (f + 1) listed a → Region.ready md ops listed ≠ [] ∧ ∀ i ∈ Region.ready md ops listed,
      (i = p ∧ ∀ w, C w → ∀ K, wpOp P ops Q p K a w) ∨ qOp P ops C i (G f (listed.setIfInBounds i true)) a) :
    ∀ (f : Nat) (listed : Array Bool) (a : Act) (w : World), C w → G f listed a → wpAny P md ops Q f listed a w := by
  intro f
  induction f with
  | zero => intro listed a w _ h; exact absurd h (h0 listed a)
  | succ f ih =>
    intro listed a w hw h
    obtain ⟨h1, h2⟩ := hs f listed a h
    refine ⟨fun h3 => absurd h3 h1, fun i hi => ?_⟩
    rcases h2 i hi with ⟨rfl, h3⟩ | h3
    · exact h3 w hw _
    · exact wpOp_of_qOp hw (fun a' w' hw' h' => ih _ a' w' hw' h') h3
theorem wp_region_panics {id : Nat} {a : Act} {w : World} {G : Nat → Array Bool → Act → Prop} {p : Nat} (hm : P.follows .mixedOrders = true) (h0 : ∀ listed a, ¬ G 0 listed a)
    (hs : ∀ f listed a, G (f + 1) listed a → Region.ready .any ops listed ≠ [] ∧ ∀ i ∈ Region.ready .any ops listed,
      (i = p ∧ ∀ w, C w → ∀ K, wpOp P ops Q p K a w) ∨ qOp P ops C i (G f (listed.setIfInBounds i true)) a)
    (hC : C w.drew) (hG : G ops.size (Array.replicate ops.size false) a) : (Code.region id ops true).wp P Q a w :=
  wp_region_any hm (wpAny_panics h0 hs _ _ _ _ hC hG)
/-- The slots of the operations that have come hold what they are known to yield; p and all that waits for it have not come. -/
structure Good (ops : Array Oper) (D : List Nat) (dst : Nat → Nat) (val : Nat → Value) (base : List (Nat × Value)) (m : Nat) (ds : List Deferred) (f : Nat) (listed : Array Bool) (a : Act) : Prop where
  defs : a.defers = ds
  size : listed.size = ops.size
  left : listed.toList.count false = f
  not : ∀ i, i < ops.size → i ∉ D → listed.getD i true = false
  val : ∀ i ∈ D, listed.getD i false = true → a.eval (.tmp (dst i)) = val i
  base : ∀ q ∈ base, a.eval (.tmp q.1) = q.2
  tmps : a.tmps.size = m
theorem Good.step {ds : List Deferred} {D : List Nat} {dst : Nat → Nat} {val : Nat → Value} {base : List (Nat × Value)} {m f : Nat} {listed : Array Bool} {a : Act} {i : Nat} {o : Oper} (hg : Good ops D dst val base m ds (f + 1) listed a) (hi : i ∈ D) (hr : listed.getD i true = false) (ho : ops[i]? = some o) (hd : o.dst = some (dst i)) (hlt : dst i < m)
    (hinj : ∀ j ∈ D, j ≠ i → dst i ≠ dst j) (hb : ∀ q ∈ base, dst i ≠ q.1) (hy : YieldsIn P ops C o (val i) a) : qOp P ops C i (Good ops D dst val base m ds f (listed.setIfInBounds i true)) a := by
  refine hy.qOp ho ?_
  rw [hd]
  have hilt : i < ops.size := (Array.getElem?_eq_some_iff.1 ho).1
  have hil : i < listed.size := by rw [hg.size]; exact hilt
  have hget : listed[i] = false := by simpa [Array.getD, hil] using hr
  refine ⟨by simp [Act.put, hg.defs], by simp [hg.size], ?_, ?_, ?_, ?_, ?_⟩
  · have h1 := hg.left
    rw [Array.toList_setIfInBounds, List.count_set (by simpa using hil)]
    simp [hget, h1]
  · intro j hj hjD
    have hne : i ≠ j := fun e => hjD (e ▸ hi)
    have := hg.not j hj hjD
    simpa [Array.getD, hg.size, hj, Array.getElem_setIfInBounds, hne] using this
  · intro j hj hl
    by_cases hne : i = j
    · subst hne
      exact put_same a _ _ (by rw [hg.tmps]; exact hlt)
    · rw [put_ne _ _ _ _ (hinj j hj (fun e => hne e.symm))]
      refine hg.val j hj ?_
      by_cases hjl : j < listed.size
      · simpa [Array.getD, hjl, Array.getElem_setIfInBounds, hne] using hl
      · simp [Array.getD, hjl] at hl
  · intro q hq
    rw [put_ne _ _ _ _ (hb q hq)]
    exact hg.base q hq
  · simp [Act.put, hg.tmps]
theorem Good.none {ds : List Deferred} {D : List Nat} {dst : Nat → Nat} {val : Nat → Value} {base : List (Nat × Value)} {m : Nat} {listed : Array Bool} {a : Act} {p : Nat} (hp : p < ops.size) (hpD : p ∉ D) : ¬ Good ops D dst val base m ds 0 listed a := fun hg => by
  have h1 := hg.not p hp hpD
  have hil : p < listed.size := by rw [hg.size]; exact hp
  have hget : listed[p] = false := by simpa [Array.getD, hil] using h1
  have h2 := hg.left
  rw [List.count_eq_zero] at h2
  exact h2 (by rw [← hget]; simp)
theorem Good.start {D : List Nat} {dst : Nat → Nat} {val : Nat → Value} {base : List (Nat × Value)} {m : Nat} {a : Act} (hb : ∀ q ∈ base, a.eval (.tmp q.1) = q.2) (hm : a.tmps.size = m) : Good ops D dst val base m a.defers ops.size (Array.replicate ops.size false) a :=
  ⟨rfl, by simp, by simp, fun i hi _ => by simp [Array.getD, hi], fun i _ h => by simp [Array.getD] at h, hb, hm⟩
/-- While something is left, something is ready. -/
theorem ready_some {listed : Array Bool} (hw : ∀ (i : Nat) (o : Oper), ops[i]? = some o → ∀ e ∈ o.after, e.on < i) (hsz : listed.size = ops.size) : ∀ p, p < ops.size → listed.getD p true = false → Region.ready md ops listed ≠ [] := by
  intro p
  induction p using Nat.strongRecOn with
  | _ p ih =>
    intro hp hl
    by_cases hall : ∀ e ∈ (ops[p]).after, Region.binds md e = true → listed.getD e.on false = true
    · intro h0
      have : p ∈ Region.ready md ops listed := mem_ready.2 ⟨hl, ops[p], Array.getElem?_eq_getElem hp, hall⟩
      rw [h0] at this
      cases this
    · simp only [Classical.not_forall] at hall
      obtain ⟨e, he, hb, hne⟩ := hall
      have hlt := hw p _ (Array.getElem?_eq_getElem hp) e he
      refine ih e.on hlt (by omega) ?_
      have h1 : e.on < listed.size := by omega
      simpa [Array.getD, h1] using hne
/-- The whole: each operation of D, when it comes up, yields what is known of it; p panics. -/
theorem wp_region_panics_good {id : Nat} {a : Act} {w : World} {D : List Nat} {dst : Nat → Nat} {val : Nat → Value} {base : List (Nat × Value)} {m p : Nat} (hm : P.follows .mixedOrders = true)
    (hw : ∀ (i : Nat) (o : Oper), ops[i]? = some o → ∀ e ∈ o.after, e.on < i) (hp : p < ops.size) (hpD : p ∉ D)
    (hwait : ∀ (i : Nat) (o : Oper), ops[i]? = some o → i ∉ D → i ≠ p → ∃ e ∈ o.after, Region.binds .any e = true ∧ e.on ∉ D ∧ e.on < ops.size)
    (hdst : ∀ i ∈ D, ∃ o : Oper, ops[i]? = some o ∧ o.dst = some (dst i)) (hlt : ∀ i ∈ D, dst i < m) (hinj : ∀ i ∈ D, ∀ j ∈ D, j ≠ i → dst i ≠ dst j) (hbd : ∀ i ∈ D, ∀ q ∈ base, dst i ≠ q.1)
    (hy : ∀ i ∈ D, ∀ o : Oper, ops[i]? = some o → ∀ a : Act, (∀ q ∈ base, a.eval (.tmp q.1) = q.2) → (∀ e ∈ o.after, Region.binds .any e = true → e.on ∈ D → a.eval (.tmp (dst e.on)) = val e.on) → YieldsIn P ops (fun w' => w' = w.drew) o (val i) a)
    (hpan : ∀ o : Oper, ops[p]? = some o → ∀ a' : Act, a'.defers = a.defers → (∀ q ∈ base, a'.eval (.tmp q.1) = q.2) → (∀ e ∈ o.after, Region.binds .any e = true → e.on ∈ D → a'.eval (.tmp (dst e.on)) = val e.on) → ∀ K, wpOp P ops Q p K a' w.drew)
    (hb : ∀ q ∈ base, a.eval (.tmp q.1) = q.2) (hsz : a.tmps.size = m) : (Code.region id ops true).wp P Q a w := by
  refine wp_region_panics (C := fun w' => w' = w.drew) (p := p) (G := Good ops D dst val base m a.defers) hm (fun listed a => Good.none hp hpD) (fun f listed a' hg => ⟨?_, fun i hi => ?_⟩) rfl (Good.start hb hsz)
  · exact ready_some hw hg.size p hp (hg.not p hp hpD)
  · obtain ⟨hr, o, ho, hall⟩ := mem_ready.1 hi
    have hdeps : ∀ e ∈ o.after, Region.binds .any e = true → e.on ∈ D → a'.eval (.tmp (dst e.on)) = val e.on := fun e he hbnd hD => hg.val _ hD (hall e he hbnd)
    by_cases hiD : i ∈ D
    · obtain ⟨o', ho', hd⟩ := hdst i hiD
      rw [ho] at ho'
      cases ho'
      exact .inr (Good.step hg hiD hr ho hd (hlt i hiD) (hinj i hiD) (hbd i hiD) (hy i hiD o ho a' hg.base hdeps))
    · by_cases hip : i = p
      · subst hip
        exact .inl ⟨rfl, fun w' hw' K => by subst hw'; exact hpan o ho a' hg.defs hg.base hdeps K⟩
      · obtain ⟨e, he, hbnd, hnD, hes⟩ := hwait i o ho hiD hip
        have h1 := hall e he hbnd
        have h2 := hg.not e.on hes hnD
        have h3 : e.on < listed.size := by rw [hg.size]; exact hes
        simp [Array.getD, h3] at h1 h2
        rw [h1] at h2
        cases h2
/-- The two side conditions, for the kernel. -/
def wellB (ops : Array Oper) : Bool := (List.range ops.size).all fun i => match ops[i]? with
  | some o => o.after.all fun e => decide (e.on < i)
  | none => true
def waitB (ops : Array Oper) (D : List Nat) (p : Nat) : Bool := (List.range ops.size).all fun i => D.contains i || i == p || match ops[i]? with
  | some o => o.after.any fun e => Region.binds .any e && !D.contains e.on && decide (e.on < ops.size)
  | none => true
theorem wellB_spec (h : wellB ops = true) : ∀ (i : Nat) (o : Oper), ops[i]? = some o → ∀ e ∈ o.after, e.on < i := by
  intro i o ho e he
  unfold wellB at h
  rw [List.all_eq_true] at h
  have h1 := h i (by rw [List.mem_range]; exact (Array.getElem?_eq_some_iff.1 ho).1)
  rw [ho] at h1
  simp only [Array.all_eq_true_iff_forall_mem, decide_eq_true_eq] at h1
  exact h1 e he
theorem waitB_spec {D : List Nat} {p : Nat} (h : waitB ops D p = true) : ∀ (i : Nat) (o : Oper), ops[i]? = some o → i ∉ D → i ≠ p → ∃ e ∈ o.after, Region.binds .any e = true ∧ e.on ∉ D ∧ e.on < ops.size := by
  intro i o ho hD hp
  unfold waitB at h
  rw [List.all_eq_true] at h
  have h1 := h i (by rw [List.mem_range]; exact (Array.getElem?_eq_some_iff.1 ho).1)
  rw [ho] at h1
  simp only [Bool.or_eq_true, List.contains_iff_mem, hD, beq_iff_eq, hp, false_or] at h1
  rw [Array.any_eq_true'] at h1
  obtain ⟨e, he, h2⟩ := h1
  simp only [Bool.and_eq_true, Bool.not_eq_true', decide_eq_true_eq] at h2
  have h3 : e.on ∉ D := fun hm => by
    have := h2.1.2
    rw [List.contains_iff_mem.2 hm] at this
    cases this
  exact ⟨e, he, h2.1.1, h3, h2.2⟩
end
end Go.Proofs.YtnbolgdccdnjeaaGreatDoor
/- A region that draws its order: acting operations, one after the other, among quiet ones. No condition. -/
namespace Go.Proofs.YtnbolgdccdnjeaaGreatDoor
open Go.RowKit
section
variable {P : Program} {ops : Array Oper} {Q : Exit → Act → World → Prop}
/-- The slots of what has come hold what is known of it; the operations A have come, and what is not of D has not. -/
structure Held (ops : Array Oper) (D A : List Nat) (dst : Nat → Nat) (val : Nat → Value) (base : List (Nat × Value)) (m : Nat) (ds : List Deferred) (f : Nat) (listed : Array Bool) (a : Act) : Prop where
  good : Good ops D dst val base m ds f listed a
  done : ∀ i ∈ A, listed.getD i false = true
  clo : ∀ j o, ops[j]? = some o → listed.getD j false = true → ∀ e ∈ o.after, Region.binds .any e = true → listed.getD e.on false = true
theorem listed_get {listed : Array Bool} {i j : Nat} (h : (listed.setIfInBounds i true).getD j false = true) : j = i ∨ listed.getD j false = true := by
  by_cases hij : i = j
  · exact .inl hij.symm
  · rw [getD_set_ne false hij] at h; exact .inr h
theorem listed_set {listed : Array Bool} {i j : Nat} (h : listed.getD j false = true) : (listed.setIfInBounds i true).getD j false = true := by
  by_cases hij : i = j
  · subst hij
    have hl : i < listed.size := by
      by_cases hl : i < listed.size
      · exact hl
      · simp [Array.getD, hl] at h
    simp [Array.getD, hl]
  · rw [getD_set_ne false hij]; exact h
theorem clo_set {listed : Array Bool} {i : Nat} (hr : i ∈ Region.ready .any ops listed) (h : ∀ j o, ops[j]? = some o → listed.getD j false = true → ∀ e ∈ o.after, Region.binds .any e = true → listed.getD e.on false = true) :
    ∀ j o, ops[j]? = some o → (listed.setIfInBounds i true).getD j false = true → ∀ e ∈ o.after, Region.binds .any e = true → (listed.setIfInBounds i true).getD e.on false = true := fun j o ho hj e he hb => by
  refine listed_set ?_
  rcases listed_get hj with rfl | hj
  · obtain ⟨_, o', ho', hall⟩ := mem_ready.1 hr
    rw [ho] at ho'; cases ho'
    exact hall e he hb
  · exact h j o ho hj e he hb
/-- One acting operation p, whatever quiet ones come before it: in the world w each quiet operation yields what is known of it. -/
theorem wpAny_act {w : World} {D A : List Nat} {dst : Nat → Nat} {val : Nat → Value} {base : List (Nat × Value)} {m p : Nat} {ds : List Deferred}
    (hw : ∀ (i : Nat) (o : Oper), ops[i]? = some o → ∀ e ∈ o.after, e.on < i) (hp : p < ops.size) (hpD : p ∉ D)
    (hwait : ∀ (i : Nat) (o : Oper), ops[i]? = some o → i ∉ D → i ≠ p → ∃ e ∈ o.after, Region.binds .any e = true ∧ e.on ∉ D ∧ e.on < ops.size)
    (hdst : ∀ i ∈ D, i ∉ A → ∃ o : Oper, ops[i]? = some o ∧ o.dst = some (dst i)) (hlt : ∀ i ∈ D, dst i < m) (hinj : ∀ i ∈ D, ∀ j ∈ D, j ≠ i → dst i ≠ dst j) (hbd : ∀ i ∈ D, ∀ q ∈ base, dst i ≠ q.1)
    (hy : ∀ i ∈ D, i ∉ A → ∀ o : Oper, ops[i]? = some o → ∀ a : Act, (∀ q ∈ base, a.eval (.tmp q.1) = q.2) → (∀ e ∈ o.after, Region.binds .any e = true → e.on ∈ D → a.eval (.tmp (dst e.on)) = val e.on) → YieldsIn P ops (fun w' => w' = w) o (val i) a)
    (hact : ∀ f listed a, Held ops D A dst val base m ds (f + 1) listed a → p ∈ Region.ready .any ops listed → wpOp P ops Q p (wpAny P .any ops Q f (listed.setIfInBounds p true)) a w) :
    ∀ f listed a, Held ops D A dst val base m ds f listed a → wpAny P .any ops Q f listed a w := by
  intro f
  induction f with
  | zero => intro listed a h; exact absurd h.good (Good.none hp hpD)
  | succ f ih =>
    intro listed a h
    have hg := h.good
    refine ⟨fun h0 => absurd h0 (ready_some hw hg.size p hp (hg.not p hp hpD)), fun i hi => ?_⟩
    obtain ⟨hr, o, ho, hall⟩ := mem_ready.1 hi
    by_cases hip : i = p
    · subst hip; exact hact f listed a h hi
    · have hiD : i ∈ D := Decidable.byContradiction fun hiD => by
        obtain ⟨e, he, hbnd, hnD, hes⟩ := hwait i o ho hiD hip
        have h1 := hall e he hbnd
        have h2 := hg.not e.on hes hnD
        have h3 : e.on < listed.size := by rw [hg.size]; exact hes
        simp [Array.getD, h3] at h1 h2
        rw [h1] at h2
        cases h2
      have hiA : i ∉ A := fun hA => by
        have h1 := h.done i hA
        have h3 : i < listed.size := by rw [hg.size]; exact (Array.getElem?_eq_some_iff.1 ho).1
        simp [Array.getD, h3] at h1 hr
        rw [h1] at hr; cases hr
      obtain ⟨o', ho', hd⟩ := hdst i hiD hiA
      rw [ho] at ho'; cases ho'
      have hdeps : ∀ e ∈ o.after, Region.binds .any e = true → e.on ∈ D → a.eval (.tmp (dst e.on)) = val e.on := fun e he hbnd hD => hg.val _ hD (hall e he hbnd)
      have hq := Good.step (P := P) hg hiD hr ho hd (hlt i hiD) (hinj i hiD) (hbd i hiD) (hy i hiD hiA o ho a hg.base hdeps)
      exact wpOp_of_qOp (C := fun w' => w' = w) rfl (fun a' w' hw' h' => by subst hw'; exact ih _ a' ⟨h', fun j hj => listed_set (h.done j hj), clo_set hi h.clo⟩) hq
/-- The acting operation has come: what is known, with it, and with what waited for it. -/
theorem Held.act {D A D' : List Nat} {dst : Nat → Nat} {val val' : Nat → Value} {base : List (Nat × Value)} {m p f : Nat} {ds : List Deferred} {listed : Array Bool} {a : Act} {v : Value} (h : Held ops D A dst val base m ds (f + 1) listed a) (hp : p ∈ Region.ready .any ops listed)
    (hpD : p ∉ D) (hD : ∀ i, i ∉ D' → i ∉ D ∧ i ≠ p) (hval : ∀ i ∈ D, val' i = val i) (hvp : val' p = v) (hlt : dst p < m) (hinj : ∀ j ∈ D, dst p ≠ dst j) (hb : ∀ q ∈ base, dst p ≠ q.1) (hps : p < ops.size) :
    Held ops D' (p :: A) dst val' base m ds f (listed.setIfInBounds p true) (a.put (some (dst p)) v) := by
  have hg := h.good
  have hun := (mem_ready.1 hp).1
  have hil : p < listed.size := by rw [hg.size]; exact hps
  have hget : listed[p] = false := by simpa [Array.getD, hil] using hun
  refine ⟨⟨by simp [Act.put, hg.defs], by simp [hg.size], ?_, ?_, ?_, ?_, by simp [Act.put, hg.tmps]⟩, ?_, clo_set hp h.clo⟩
  · have h1 := hg.left
    rw [Array.toList_setIfInBounds, List.count_set (by simpa using hil)]
    simp [hget, h1]
  · intro j hj hjD
    obtain ⟨h1, h2⟩ := hD j hjD
    have := hg.not j hj h1
    rw [getD_set_ne true (fun e => h2 e.symm)]
    exact this
  · intro j hj hl
    rcases listed_get hl with rfl | hl
    · rw [hvp]; exact put_same a _ _ (by rw [hg.tmps]; exact hlt)
    · have hjD : j ∈ D := Decidable.byContradiction fun hjD => by
        by_cases hjs : j < ops.size
        · have h1 := hg.not j hjs hjD
          have h3 : j < listed.size := by rw [hg.size]; exact hjs
          simp [Array.getD, h3] at h1 hl
          rw [h1] at hl; cases hl
        · have h3 : ¬ j < listed.size := by rw [hg.size]; exact hjs
          simp [Array.getD, h3] at hl
      rw [put_ne _ _ _ _ (hinj j hjD), hval j hjD]
      exact hg.val j hjD hl
  · intro q hq
    rw [put_ne _ _ _ _ (hb q hq)]
    exact hg.base q hq
  · intro i hi
    rcases List.mem_cons.1 hi with rfl | hi
    · simp [Array.getD, hil]
    · exact listed_set (h.done i hi)
/-- All that another operation waits for, for the kernel: with the last one all have come. -/
def lastB (ops : Array Oper) (p : Nat) : Bool := (List.range ops.size).all fun i => i == p || (List.range ops.size).any fun j => decide (i < j) && match ops[j]? with
  | some o => o.after.any fun e => Region.binds .any e && e.on == i
  | none => false
theorem Held.all {D A : List Nat} {dst : Nat → Nat} {val : Nat → Value} {base : List (Nat × Value)} {m p f : Nat} {ds : List Deferred} {listed : Array Bool} {a : Act} (h : Held ops D A dst val base m ds (f + 1) listed a) (hp : p ∈ Region.ready .any ops listed) (hl : lastB ops p = true) :
    f = 0 ∧ ∀ i, i < ops.size → i ≠ p → listed.getD i false = true := by
  unfold lastB at hl
  rw [List.all_eq_true] at hl
  have key : ∀ k i, ops.size - i = k → i < ops.size → i ≠ p → listed.getD i false = true := by
    intro k
    induction k using Nat.strongRecOn with
    | ind k ih =>
      intro i hk his hip
      have h1 := hl i (by rw [List.mem_range]; exact his)
      simp only [Bool.or_eq_true, beq_iff_eq, hip, false_or, List.any_eq_true, List.mem_range, Bool.and_eq_true, decide_eq_true_eq] at h1
      obtain ⟨j, hj, hij, h2⟩ := h1
      rw [Array.getElem?_eq_getElem hj] at h2
      simp only [Array.any_eq_true', Bool.and_eq_true, beq_iff_eq] at h2
      obtain ⟨e, he, hb, rfl⟩ := h2
      by_cases hjp : j = p
      · subst hjp
        obtain ⟨_, o, ho, hall⟩ := mem_ready.1 hp
        rw [Array.getElem?_eq_getElem hj] at ho
        cases ho
        exact hall e he hb
      · exact h.clo j _ (Array.getElem?_eq_getElem hj) (ih (ops.size - j) (by omega) j rfl hj hjp) e he hb
  have hps : p < ops.size := by
    obtain ⟨_, o, ho, _⟩ := mem_ready.1 hp
    exact (Array.getElem?_eq_some_iff.1 ho).1
  refine ⟨?_, fun i hi hne => key _ i rfl hi hne⟩
  have hsz := h.good.size
  have hleft := h.good.left
  have hc : listed.toList.count false ≤ 1 := by
    have hpl : p < listed.toList.length := by simp [hsz, hps]
    have hall : ∀ j (hj : j < listed.toList.length), j ≠ p → listed.toList[j] = true := fun j hj hne => by
      have hj' : j < listed.size := by simpa using hj
      have := key _ j rfl (by rw [← hsz]; exact hj') hne
      simpa [Array.getD, hj'] using this
    have e : listed.toList = listed.toList.take p ++ listed.toList[p] :: listed.toList.drop (p + 1) := by
      rw [← List.drop_eq_getElem_cons hpl, List.take_append_drop]
    rw [e, List.count_append, List.count_cons]
    have c1 : (listed.toList.take p).count false = 0 := List.count_eq_zero.2 fun hm => by
      obtain ⟨j, hj, hje⟩ := List.mem_iff_getElem.1 hm
      rw [List.getElem_take] at hje
      rw [List.length_take] at hj
      rw [hall j (by omega) (by omega)] at hje
      cases hje
    have c2 : (listed.toList.drop (p + 1)).count false = 0 := List.count_eq_zero.2 fun hm => by
      obtain ⟨j, hj, hje⟩ := List.mem_iff_getElem.1 hm
      rw [List.getElem_drop] at hje
      rw [List.length_drop] at hj
      rw [hall _ (by omega) (by omega)] at hje
      cases hje
    rw [c1, c2]
    split <;> omega
  omega
theorem Held.start {D : List Nat} {dst : Nat → Nat} {val : Nat → Value} {base : List (Nat × Value)} {m : Nat} {a : Act} (hb : ∀ q ∈ base, a.eval (.tmp q.1) = q.2) (hm : a.tmps.size = m) : Held ops D [] dst val base m a.defers ops.size (Array.replicate ops.size false) a :=
  ⟨Good.start hb hm, (fun _ h => by cases h), fun j o ho hj => by simp [Array.getD] at hj⟩
end
end Go.Proofs.YtnbolgdccdnjeaaGreatDoor
/- The frame behind a region that draws its order. No condition. -/
namespace Go.Proofs.YtnbolgdccdnjeaaGreatDoor
open Go.RowKit
theorem ready_nil {md : Region.Mode} {ops : Array Oper} {listed : Array Bool} (h : ∀ i, i < ops.size → listed.getD i false = true) (hs : listed.size = ops.size) : Region.ready md ops listed = [] := by
  apply List.eq_nil_iff_forall_not_mem.2
  intro i hi
  obtain ⟨h1, o, ho, _⟩ := mem_ready.1 hi
  have hlt := (Array.getElem?_eq_some_iff.1 ho).1
  have h2 := h i hlt
  have h3 : i < listed.size := by rw [hs]; exact hlt
  simp [Array.getD, h3] at h1 h2
  rw [h1] at h2; cases h2
def putAll (a : Act) : List (Nat × Value) → Act
  | [] => a
  | q :: l => putAll (a.put (some q.1) q.2) l
theorem act_ext {a b : Act} (hs : a.tmps.size = b.tmps.size) (hd : a.defers = b.defers) (h : ∀ j, a.eval (.tmp j) = b.eval (.tmp j)) : a = b := by
  obtain ⟨t, d⟩ := a
  obtain ⟨t', d'⟩ := b
  simp only at hs hd
  subst hd
  congr 1
  apply Array.ext hs
  intro i h1 h2
  have := h i
  simpa [Act.eval, Array.getD_eq_getD_getElem?, h1, h2] using this
theorem putAll_eq {a a0 : Act} (hs : a.tmps.size = a0.tmps.size) (hd : a.defers = a0.defers) : ∀ (l : List (Nat × Value)), (∀ q ∈ l, q.1 < a0.tmps.size) → (∀ q ∈ l, a.eval (.tmp q.1) = q.2) → (∀ j, (∀ q ∈ l, q.1 ≠ j) → a.eval (.tmp j) = a0.eval (.tmp j)) → a = putAll a0 l := by
  intro l
  induction l generalizing a0 with
  | nil => intro _ _ h; exact act_ext hs hd (fun j => h j (fun q hq => by cases hq))
  | cons q l ih =>
    intro hlt h1 h2
    rw [putAll]
    refine ih (by simpa [Act.put] using hs) (by simpa [Act.put] using hd) (fun p hp => by have := hlt p (List.mem_cons_of_mem _ hp); simpa [Act.put] using this) (fun p hp => h1 p (List.mem_cons_of_mem _ hp)) (fun j hj => ?_)
    by_cases hq : q.1 = j
    · subst hq
      rw [put_same _ _ _ (hlt q (by simp))]
      exact h1 q (by simp)
    · rw [put_ne _ _ _ _ hq]
      refine h2 j (fun p hp => ?_)
      rcases List.mem_cons.1 hp with rfl | hp
      · exact hq
      · exact hj p hp
/-- The slots that the region does not write. -/
def restBase (a0 : Act) (m : Nat) (ds : List Nat) : List (Nat × Value) := ((List.range m).filter fun j => !ds.contains j).map fun j => (j, a0.eval (.tmp j))
theorem restBase_self {a0 : Act} {m : Nat} {ds : List Nat} : ∀ q ∈ restBase a0 m ds, a0.eval (.tmp q.1) = q.2 := fun q hq => by
  obtain ⟨j, _, rfl⟩ := List.mem_map.1 hq
  rfl
theorem restBase_ne {a0 : Act} {m : Nat} {ds : List Nat} {d : Nat} (hd : d ∈ ds) : ∀ q ∈ restBase a0 m ds, d ≠ q.1 := fun q hq e => by
  obtain ⟨j, hj, rfl⟩ := List.mem_map.1 hq
  have := (List.mem_filter.1 hj).2
  simp only at e
  subst e
  simp [hd] at this
theorem restBase_get {a0 a : Act} {m : Nat} {ds : List Nat} (h : ∀ q ∈ restBase a0 m ds, a.eval (.tmp q.1) = q.2) {j : Nat} (hj : j < m) (hd : j ∉ ds) : a.eval (.tmp j) = a0.eval (.tmp j) :=
  h (j, a0.eval (.tmp j)) (List.mem_map.2 ⟨j, List.mem_filter.2 ⟨List.mem_range.2 hj, by simpa using hd⟩, rfl⟩)
theorem wp_gen {P : Program} {c : Code} {Q : Exit → Act → World → Prop} {a : Act} {w : World} (h : ∀ a0, a0 = a → c.wp P Q a0 w) : c.wp P Q a w := h a rfl
variable {ops : Array Oper}
/-- The frame when the last operation has come. -/
theorem Held.frame {D A : List Nat} {dst : Nat → Nat} {val : Nat → Value} {m f : Nat} {listed : Array Bool} {a a0 : Act} (h : Held ops D A dst val (restBase a0 m (D.map dst)) m a0.defers f listed a) (hm : a0.tmps.size = m) (hall : ∀ i ∈ D, listed.getD i false = true) (hlt : ∀ i ∈ D, dst i < m) :
    a = putAll a0 (D.map fun i => (dst i, val i)) := by
  refine putAll_eq (by rw [h.good.tmps, hm]) h.good.defs _ (fun q hq => ?_) (fun q hq => ?_) (fun j hj => ?_)
  · obtain ⟨i, hi, rfl⟩ := List.mem_map.1 hq
    rw [hm]; exact hlt i hi
  · obtain ⟨i, hi, rfl⟩ := List.mem_map.1 hq
    exact h.good.val i hi (hall i hi)
  · by_cases hjm : j < m
    · refine restBase_get h.good.base hjm (fun hd => ?_)
      obtain ⟨i, hi, rfl⟩ := List.mem_map.1 hd
      exact hj _ (List.mem_map.2 ⟨i, hi, rfl⟩) rfl
    · have h1 := h.good.tmps
      simp [Act.eval, Array.getD_eq_getD_getElem?, h1, hm, hjm]
end Go.Proofs.YtnbolgdccdnjeaaGreatDoor
