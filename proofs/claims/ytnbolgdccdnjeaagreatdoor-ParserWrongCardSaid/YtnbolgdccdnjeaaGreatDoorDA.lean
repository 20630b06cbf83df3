/- Joined by program from: IterD, BaseD, Name2D, Name3D. No condition. -/
import Derived.RangeFuncRecord
import Derived.RangeFuncSeq
import Derived.RangeFuncBox
import Derived.WalkKit
import Derived.Test.YtnbolgdccdnjeaaGreatDoorKA
import Derived.Test.YtnbolgdccdnjeaaGreatDoorNA
import Derived.RangeFuncNested
import Derived.RangeFuncBound
import Derived.RangeFuncCalls
import Derived.RangeFuncLeaves
import Derived.Shelf.Abstract
import Derived.Shelf.RegionOpen
import Derived.OwnWalkIn
import Derived.TacticsInMore
import Derived.LoopNIn
import Derived.LoopIn
/- A range over a function, at the wide fence: a law for the caller and the form of an iterator's contract, with footprints. No condition. -/
namespace Go.Proofs.YtnbolgdccdnjeaaGreatDoor.D
open Go.RowKit
/-- Below block number B the world w' is as w was; no draw is taken back. -/
structure Below (B : Nat) (w w' : World) : Prop where
  os : w'.os = w.os
  tape : w'.tape = w.tape
  output : w'.output = w.output
  size : w.heap.size ≤ w'.heap.size
  block : ∀ k, k < B → w'.heap[k]? = w.heap[k]?
  drawn : w.drawn ≤ w'.drawn
theorem Below.low {B : Nat} {w w' : World} (h : Below B w w') : Go.RowKit.Below B w w' := ⟨h.os, h.tape, h.output, h.size, h.block⟩
theorem Below.refl (B : Nat) (w : World) : Below B w w := ⟨rfl, rfl, rfl, Nat.le_refl _, fun _ _ => rfl, Nat.le_refl _⟩
theorem Below.trans {B : Nat} {a b c : World} (h : Below B a b) (k : Below B b c) : Below B a c :=
  ⟨k.os.trans h.os, k.tape.trans h.tape, k.output.trans h.output, Nat.le_trans h.size k.size, fun i hi => (k.block i hi).trans (h.block i hi), Nat.le_trans h.drawn k.drawn⟩
theorem Below.mono {B B' : Nat} {w w' : World} (h : Below B w w') (hB : B' ≤ B) : Below B' w w' := ⟨h.os, h.tape, h.output, h.size, fun k hk => h.block k (Nat.lt_of_lt_of_le hk hB), h.drawn⟩
theorem Below.drew {B : Nat} {a w : World} (h : Below B a w) : Below B a w.drew := ⟨h.os, h.tape, h.output, h.size, h.block, Nat.le_succ_of_le h.drawn⟩
theorem Below.heap_alloc (w : World) (o : Obj) (k : Nat) (h : k < w.heap.size) : (w.alloc o).heap[k]? = w.heap[k]? := Go.RowKit.Below.heap_alloc w o k h
theorem Below.heap_setCell (w : World) (a : Addr) (u : Value) (k : Nat) (h : k ≠ a.block) : (w.setCell a u).heap[k]? = w.heap[k]? := Go.RowKit.Below.heap_setCell w a u k h
theorem Below.alloc {B : Nat} {a w : World} (h : Below B a w) (hB : B ≤ w.heap.size) (o : Obj) : Below B a (w.alloc o) :=
  h.trans ⟨rfl, rfl, rfl, by simp, fun k hk => Below.heap_alloc _ _ _ (by omega), Nat.le_refl _⟩
theorem Below.setCell {B : Nat} {a w : World} (h : Below B a w) {p : Addr} (hp : B ≤ p.block) (u : Value) : Below B a (w.setCell p u) :=
  h.trans ⟨rfl, rfl, rfl, by simp [World.setCell], fun k hk => Below.heap_setCell _ _ _ _ (by omega), Nat.le_refl _⟩
theorem Below.cell {B : Nat} {w w' : World} (h : Below B w w') {p : Addr} (hp : p.block < B) : w'.cell? p = w.cell? p := h.low.cell hp
theorem Below.frozen {B : Nat} {w w' : World} (h : Below B w w') {p : Addr} (hp : p.block < B) : w'.frozen? p = w.frozen? p := h.low.frozen hp

/-- WHAT AN ITERATOR's OWN STEP KEEPS: whatever lay below B, and whatever is the body's (S). -/
structure ItStep (B : Nat) (S : Nat → Prop) (W W' : World) : Prop where
  os : W'.os = W.os
  tape : W'.tape = W.tape
  output : W'.output = W.output
  size : W.heap.size ≤ W'.heap.size
  keep : ∀ k, k < W.heap.size → (k < B ∨ S k) → W'.heap[k]? = W.heap[k]?
  drawn : W.drawn ≤ W'.drawn

/-- WHAT A ROUND KEEPS: whatever is not the body's (S). -/
structure RdStep (S : Nat → Prop) (W W' : World) : Prop where
  os : W'.os = W.os
  tape : W'.tape = W.tape
  output : W'.output = W.output
  size : W.heap.size ≤ W'.heap.size
  keep : ∀ k, k < W.heap.size → ¬ S k → W'.heap[k]? = W.heap[k]?
  drawn : W.drawn ≤ W'.drawn

theorem ItStep.refl (B : Nat) (S : Nat → Prop) (W : World) : ItStep B S W W := ⟨rfl, rfl, rfl, Nat.le_refl _, fun _ _ _ => rfl, Nat.le_refl _⟩
theorem RdStep.refl (S : Nat → Prop) (W : World) : RdStep S W W := ⟨rfl, rfl, rfl, Nat.le_refl _, fun _ _ _ => rfl, Nat.le_refl _⟩
theorem ItStep.trans {B : Nat} {S : Nat → Prop} {A W C : World} (h : ItStep B S A W) (k : ItStep B S W C) : ItStep B S A C :=
  ⟨k.os.trans h.os, k.tape.trans h.tape, k.output.trans h.output, Nat.le_trans h.size k.size, fun i hi hs => (k.keep i (Nat.lt_of_lt_of_le hi h.size) hs).trans (h.keep i hi hs), Nat.le_trans h.drawn k.drawn⟩
theorem RdStep.trans {S S' : Nat → Prop} {A W C : World} (h : RdStep S A W) (k : RdStep S' W C) (hS : ∀ i, S' i → S i ∨ A.heap.size ≤ i) : RdStep S A C :=
  ⟨k.os.trans h.os, k.tape.trans h.tape, k.output.trans h.output, Nat.le_trans h.size k.size, fun i hi hs =>
    (k.keep i (Nat.lt_of_lt_of_le hi h.size) (fun e => by rcases hS i e with e | e; exact hs e; omega)).trans (h.keep i hi hs), Nat.le_trans h.drawn k.drawn⟩
theorem RdStep.mono {S S' : Nat → Prop} {A W : World} (h : RdStep S A W) (hS : ∀ i, S i → S' i) : RdStep S' A W :=
  ⟨h.os, h.tape, h.output, h.size, fun i hi hs => h.keep i hi (fun e => hs (hS i e)), h.drawn⟩
theorem ItStep.of_below {B : Nat} {S : Nat → Prop} {A W : World} (h : Below A.heap.size A W) : ItStep B S A W :=
  ⟨h.os, h.tape, h.output, h.size, fun k hk _ => h.block k hk, h.drawn⟩
theorem RdStep.of_below {S : Nat → Prop} {A W : World} (h : Below A.heap.size A W) : RdStep S A W :=
  ⟨h.os, h.tape, h.output, h.size, fun k hk _ => h.block k hk, h.drawn⟩
theorem RdStep.below {S : Nat → Prop} {A W : World} {n : Nat} (h : RdStep S A W) (hn : n ≤ A.heap.size) (hS : ∀ k, S k → n ≤ k) : Below n A W :=
  ⟨h.os, h.tape, h.output, h.size, fun k hk => h.keep k (by omega) (fun e => by have := hS k e; omega), h.drawn⟩
theorem RdStep.setCell {S : Nat → Prop} {A W : World} (h : RdStep S A W) {p : Addr} (hp : S p.block ∨ A.heap.size ≤ p.block) (u : Value) : RdStep S A (W.setCell p u) :=
  ⟨h.os, h.tape, h.output, by simpa [World.setCell] using h.size, fun k hk hs => (Below.heap_setCell _ _ _ _ (by rintro rfl; rcases hp with hp | hp; exact hs hp; omega)).trans (h.keep k hk hs), h.drawn⟩
theorem RdStep.alloc {S : Nat → Prop} {A W : World} (h : RdStep S A W) (o : Obj) : RdStep S A (W.alloc o) :=
  ⟨h.os, h.tape, h.output, Nat.le_trans h.size (by simp), fun k hk hs => (Below.heap_alloc _ _ _ (Nat.lt_of_lt_of_le hk h.size)).trans (h.keep k hk hs), h.drawn⟩
theorem RdStep.drew {S : Nat → Prop} {A W : World} (h : RdStep S A W) : RdStep S A W.drew := ⟨h.os, h.tape, h.output, h.size, h.keep, Nat.le_succ_of_le h.drawn⟩
/-- What the caller says between two rounds does not mind an iterator's step. -/
def StableAt {β : Type} (B : Nat) (J : β → (Nat → Prop) → World → Prop) : Prop := ∀ s S W W', J s S W → ItStep B S W W' → J s S W'

/-- ONE CALL OF yield, as its caller sees it. -/
def RoundTo {α : Type} (J Jx : List α → (Nat → Prop) → World → Prop) (pre : List α) (x : α) (S : Nat → Prop) (W : World) (e : Ending) (W' : World) : Prop :=
  ∃ S' : Nat → Prop, RdStep S W W' ∧ (∀ k, S' k → S k ∨ W.heap.size ≤ k) ∧ (∀ k, S' k → k < W'.heap.size) ∧
    ((e = .returned (.bool true) ∧ J (pre ++ [x]) S' W') ∨ (e = .returned (.bool false) ∧ Jx (pre ++ [x]) S' W'))

/-- AN ITERATOR's CONTRACT: called with yield (mk: its arguments), in whatever later world, it hands out xs in their order; n₀: what it reads lies below n₀. -/
def Iter {α : Type} (P : Program) (gf : FuncId) (mk : Value → Array Value) (encs : α → Array Value) (xs : List α) (n₀ : Nat) (w : World) : Prop :=
  ∀ (l : Nat) (J Jx : List α → (Nat → Prop) → World → Prop) (S : Nat → Prop) (W : World), Below n₀ w W →
    StableAt W.heap.size J → StableAt W.heap.size Jx →
    (∀ pre x S1 W1, pre ++ [x] <+: xs → J pre S1 W1 → (∀ k, S1 k → k < W1.heap.size) → W.heap.size ≤ W1.heap.size →
      YieldAt Fence.wide 0 P l (encs x) W1 (RoundTo J Jx pre x S1 W1)) →
    (∀ k, S k → n₀ ≤ k) → (∀ k, S k → k < W.heap.size) → J [] S W →
    CallsIn Fence.wide 0 P gf (mk (.func (.yield l) #[] #[])) W fun e W' => (∃ v, e = .returned v) ∧
      ((∃ S', J xs S' W' ∧ (∀ k, S' k → S k ∨ W.heap.size ≤ k)) ∨ (∃ pre S', pre <+: xs ∧ Jx pre S' W' ∧ (∀ k, S' k → S k ∨ W.heap.size ≤ k)))

/-- HOW THE BODY OF A ROUND MAY BE LEFT. -/
def bodyTo {α : Type} (I : List α → (Nat → Prop) → World → Prop) (Ix : Code → List α → (Nat → Prop) → World → Prop) (xs : List α) (S : Nat → Prop) (W : World) : Exit → Act → World → Prop
  | .normal, _, W' => ∃ S', RdStep S W W' ∧ (∀ k, S' k → S k ∨ W.heap.size ≤ k) ∧ (∀ k, S' k → k < W'.heap.size) ∧ I xs S' W'
  | .ret, _, W' => ∃ S', RdStep S W W' ∧ (∀ k, S' k → S k ∨ W.heap.size ≤ k) ∧ (∀ k, S' k → k < W'.heap.size) ∧ Ix .ret xs S' W'
  | .exit id, _, W' => ∃ S', RdStep S W W' ∧ (∀ k, S' k → S k ∨ W.heap.size ≤ k) ∧ (∀ k, S' k → k < W'.heap.size) ∧ Ix (.exit id) xs S' W'
  | _, _, _ => False

theorem it_putObj {B : Nat} {S : Nat → Prop} {W : World} {l : Nat} (o : Obj) (hl : B ≤ l) (hS : ¬ S l) : ItStep B S W (W.putObj l o) :=
  ⟨rfl, rfl, rfl, by simp, fun k _ hk => World.putObj_heap_other (by rintro rfl; rcases hk with hk | hk; omega; exact hS hk), Nat.le_refl _⟩
theorem it_alloc {B : Nat} {S : Nat → Prop} {W : World} (o : Obj) : ItStep B S W (W.alloc o) :=
  ⟨rfl, rfl, rfl, by simp, fun k hk _ => Below.heap_alloc _ _ _ hk, Nat.le_refl _⟩

theorem ItStep.weaken {B B' : Nat} {S S' : Nat → Prop} {W W' : World} (h : ItStep B S W W') (hB : B' ≤ B) (hS : ∀ k, S' k → S k) : ItStep B' S' W W' :=
  ⟨h.os, h.tape, h.output, h.size, fun k hk hs => h.keep k hk (hs.imp (fun e => by omega) (hS k)), h.drawn⟩

/-- THE STATEMENT 'for .. := range g { .. }', outside every round. -/
theorem wpIn_range {α : Type} {P : Program} {g : Operand} {ps : Array Tmp} {assign body : Code} {Q : Exit → Act → World → Prop} {a : Act} {w : World}
    {gf : FuncId} {first captured : Array Value} (hg : a.eval g = .func (.func gf) first captured) (eg : ∀ args w, (callFunc gf args).run P w = .ok (.enter gf args) w)
    {mk : Value → Array Value} {encs : α → Array Value} {xs : List α} {n₀ : Nat} {w0 : World} (hmk : ∀ y, mk y = first ++ #[y] ++ captured)
    (hit : Iter P gf mk encs xs n₀ w0) (hb0 : Below n₀ w0 w) (hn0 : n₀ ≤ w.heap.size) (hps : ∀ x, (encs x).size = ps.size)
    (I : List α → (Nat → Prop) → World → Prop) (Ix : Code → List α → (Nat → Prop) → World → Prop) (A : List α → α → (Nat → Prop) → Act → World → Prop)
    (hI : StableAt w.heap.size I) (hIx : ∀ c, StableAt w.heap.size (Ix c)) (hA : ∀ pre x S a' W W', A pre x S a' W → ItStep w.heap.size S W W' → A pre x S a' W')
    (S0 : Nat → Prop) (hS0 : ∀ k, S0 k → n₀ ≤ k) (hS0' : ∀ k, S0 k → k < w.heap.size) (h0 : I [] S0 w)
    (hassign : ∀ (l : Nat) (pre : List α) (x : α) (S : Nat → Prop) (W : World), pre ++ [x] <+: xs → I pre S W → (∀ k, S k → k < W.heap.size) →
      assign.wpIn (Fence.wide.inRound l) 0 P (Exit.then (fun a₁ W₁ => ∃ S', RdStep S W W₁ ∧ (∀ k, S' k → S k ∨ W.heap.size ≤ k) ∧ (∀ k, S' k → k < W₁.heap.size) ∧ A pre x S' a₁ W₁) (fun _ _ _ => False))
        { tmps := (ps.zip (encs x)).foldl (fun t (p, v) => t.setIfInBounds p v) a.tmps, defers := [] } W)
    (hbody : ∀ (l : Nat) (pre : List α) (x : α) (S : Nat → Prop) (a₁ : Act) (W : World), pre ++ [x] <+: xs → A pre x S a₁ W → (∀ k, S k → k < W.heap.size) →
      body.wpIn (Fence.wide.inRound l) 0 P (bodyTo I Ix (pre ++ [x]) S W) a₁ W)
    (hdone : ∀ (D : Nat) (S : Nat → Prop) (W : World), w.heap.size ≤ D → ¬ S D → (∀ k, S k → S0 k ∨ w.heap.size ≤ k) → I xs S W → W.heap[D]? = some (.deferred (some [])) →
      Q .normal { a with defers := { target := .collected D, args := #[] } :: a.defers } W)
    (hstop : ∀ (D : Nat) (c : Code) (pre : List α) (S : Nat → Prop) (W : World), w.heap.size ≤ D → ¬ S D → (∀ k, S k → S0 k ∨ w.heap.size ≤ k) → pre <+: xs → Ix c pre S W → W.heap[D]? = some (.deferred (some [])) →
      c.wpIn Fence.wide 0 P Q { a with defers := { target := .collected D, args := #[] } :: a.defers } W) :
    (Code.rangeFunc g ps assign body).wpIn Fence.wide 0 P Q a w := by
  refine wpIn_rangeFunc ?_
  intro fn hfn
  show ∃ (l : Nat) (mark : List Deferred) (w₁ : World) (d : Deferred) (w₁' : World) (f : FuncId) (args : Array Value) (w₂ : World), (Instr.enterLoop fn a.tmps ps assign body none).run P w = .ok (l, mark) w₁ ∧ _
  obtain ⟨rec, hrec⟩ : ∃ rec : LoopState → Option Code → Loop, rec = fun st pe => { state := st, pending := pe, fn, tmps := a.tmps, params := ps, assign, body, defers := w.heap.size } := ⟨_, rfl⟩
  obtain ⟨W1, hW1⟩ : ∃ W1, (w.alloc (.deferred (some []))).alloc (.loop (rec .ready none)) = W1 := ⟨_, rfl⟩
  have hsz : W1.heap.size = w.heap.size + 2 := by rw [← hW1]; simp
  have hL1 : W1.heap[w.heap.size + 1]? = some (.loop (rec .ready none)) := by
    rw [← hW1]; have := World.alloc_heap_new (w.alloc (.deferred (some []))) (.loop (rec .ready none)); rwa [World.size_alloc] at this
  have hK1 : W1.heap[w.heap.size]? = some (.deferred (some [])) := by
    rw [← hW1]; exact (Below.heap_alloc _ _ _ (by simp)).trans (World.alloc_heap_new w _)
  have hI1 : I [] S0 W1 := by rw [← hW1]; exact hI _ _ _ _ (hI _ _ _ _ h0 (it_alloc _)) (it_alloc _)
  have hb1 : Below n₀ w0 W1 := by
    rw [← hW1]; exact hb0.trans ((((Below.refl _ w).alloc (Nat.le_refl _) _).alloc (by simp) _).mono hn0)
  refine ⟨w.heap.size + 1, [{ target := .collected w.heap.size, args := #[] }], W1, { target := .fn (.func gf) captured, args := first ++ #[.func (.yield (w.heap.size + 1)) #[] #[]] }, W1, gf,
    first ++ #[.func (.yield (w.heap.size + 1)) #[] #[]] ++ captured, W1, ?_, ?_, ?_, ?_, fun h => by simp [Fence.wide] at h, ?_⟩
  · rw [← hW1, hrec]; exact run_enterLoop_outer _ _ _ _ _
  · simp only [resolve, hg]
    simp [go_sem]
  · intro f' _; trivial
  · simp [invoke, go_sem, eg]
  · rw [← hmk]
    have key := hit (w.heap.size + 1)
      (fun pre Si W => ∃ S : Nat → Prop, (∀ k, Si k ↔ S k ∨ k = w.heap.size + 1) ∧ (¬ S w.heap.size) ∧ (¬ S (w.heap.size + 1)) ∧ (∀ k, S k → S0 k ∨ w.heap.size ≤ k) ∧ I pre S W ∧ W.heap[w.heap.size + 1]? = some (.loop (rec .ready none)) ∧ W.heap[w.heap.size]? = some (.deferred (some [])))
      (fun pre Si W => ∃ (S : Nat → Prop) (c : Code), (∀ k, Si k ↔ S k ∨ k = w.heap.size + 1) ∧ (¬ S w.heap.size) ∧ (¬ S (w.heap.size + 1)) ∧ (∀ k, S k → S0 k ∨ w.heap.size ≤ k) ∧ Ix c pre S W ∧ W.heap[w.heap.size + 1]? = some (.loop (rec .done (some c))) ∧ W.heap[w.heap.size]? = some (.deferred (some [])))
      (fun k => S0 k ∨ k = w.heap.size + 1) W1 hb1 ?_ ?_ ?_ ?_ ?_ ?_
    · refine key.mono ?_
      rintro e W2 ⟨⟨v, rfl⟩, (⟨S', ⟨S, hSi, hD, hL, hsub, hi, hl, hk⟩, _⟩ | ⟨pre, S', hpre, ⟨S, c, hSi, hD, hL, hsub, hi, hl, hk⟩, _⟩)⟩
      · refine ⟨none, _, by have := run_endLoop (P := P) hl (by rw [hrec]; simp); rw [hrec] at this; exact this, ?_⟩
        exact hdone _ S _ (Nat.le_refl _) hD hsub (hI _ _ _ _ hi (it_putObj _ (by omega) hL)) ((World.putObj_heap_other (by omega)).trans hk)
      · refine ⟨some c, _, by have := run_endLoop (P := P) hl (by rw [hrec]; simp); rw [hrec] at this; exact this, ?_⟩
        exact hstop _ c pre S _ (Nat.le_refl _) hD hsub hpre ((hIx c) _ _ _ _ hi (it_putObj _ (by omega) hL)) ((World.putObj_heap_other (by omega)).trans hk)
    · rintro pre Si A1 B1 ⟨S, hSi, hD, hL, hsub, hi, hl, hk⟩ hst
      have hlt : w.heap.size + 1 < A1.heap.size := (Array.getElem?_eq_some_iff.1 hl).1
      exact ⟨S, hSi, hD, hL, hsub, hI _ _ _ _ hi (hst.weaken (by omega) (fun k e => (hSi k).2 (.inl e))), (hst.keep _ hlt (.inl (by omega))).trans hl, (hst.keep _ (by omega) (.inl (by omega))).trans hk⟩
    · rintro pre Si A1 B1 ⟨S, c, hSi, hD, hL, hsub, hi, hl, hk⟩ hst
      have hlt : w.heap.size + 1 < A1.heap.size := (Array.getElem?_eq_some_iff.1 hl).1
      exact ⟨S, c, hSi, hD, hL, hsub, hIx c _ _ _ _ hi (hst.weaken (by omega) (fun k e => (hSi k).2 (.inl e))), (hst.keep _ hlt (.inl (by omega))).trans hl, (hst.keep _ (by omega) (.inl (by omega))).trans hk⟩
    · -- ONE ROUND
      rintro pre x Si W hpx ⟨S, hSi, hD, hL, hsub, hi, hl, hk⟩ hSlt hWW
      have hlt : w.heap.size + 1 < W.heap.size := (Array.getElem?_eq_some_iff.1 hl).1
      have hSlt' : ∀ k, S k → k < W.heap.size := fun k e => hSlt k ((hSi k).2 (.inl e))
      have hy := run_yield (P := P) (args := encs x) hl (by rw [hrec]; exact hps x)
      rw [hrec] at hy
      refine ⟨fn, _, assign, body, hy, roundIn_of_wpIn hfn (wpIn_mono (hassign _ pre x S W hpx hi hSlt') ?_)⟩
      intro e a1 Wa hq
      cases e with
      | normal =>
        obtain ⟨S1, hr1, hs1, hs1', hAx⟩ := hq
        have hnD1 : ¬ S1 w.heap.size := fun e => by rcases hs1 _ e with e | e; exact hD e; omega
        have hnL1 : ¬ S1 (w.heap.size + 1) := fun e => by rcases hs1 _ e with e | e; exact hL e; omega
        have hla : Wa.heap[w.heap.size + 1]? = some (.loop (rec .ready none)) := (hr1.keep _ hlt hL).trans hl
        have hka : Wa.heap[w.heap.size]? = some (.deferred (some [])) := (hr1.keep _ (by omega) hD).trans hk
        have hlta : w.heap.size + 1 < Wa.heap.size := (Array.getElem?_eq_some_iff.1 hla).1
        refine ⟨_, run_beginRound hla (by rw [hrec]), ?_⟩
        have hb := hbody (w.heap.size + 1) pre x S1 a1 (Wa.putObj (w.heap.size + 1) (.loop { rec .ready none with state := .busy })) hpx (hA _ _ _ _ _ _ hAx (it_putObj _ (by omega) hnL1)) (fun k e => by simpa using hs1' k e)
        refine wpIn_mono hb ?_
        have fin : ∀ (jump : Option Code) (W3 : World) (S3 : Nat → Prop), RdStep S1 (Wa.putObj (w.heap.size + 1) (.loop { rec .ready none with state := .busy })) W3 → (∀ k, S3 k → S1 k ∨ (Wa.putObj (w.heap.size + 1) (.loop { rec .ready none with state := .busy })).heap.size ≤ k) → (∀ k, S3 k → k < W3.heap.size) →
            (Instr.endRound (w.heap.size + 1) jump).run P W3 = .ok (.bool jump.isNone) (W3.putObj (w.heap.size + 1) (.loop (rec (if jump.isNone then .ready else .done) jump))) ∧
            (W3.putObj (w.heap.size + 1) (.loop (rec (if jump.isNone then .ready else .done) jump))).heap[w.heap.size + 1]? = some (.loop (rec (if jump.isNone then .ready else .done) jump)) ∧
            (W3.putObj (w.heap.size + 1) (.loop (rec (if jump.isNone then .ready else .done) jump))).heap[w.heap.size]? = some (.deferred (some [])) ∧
            ¬ S3 w.heap.size ∧ ¬ S3 (w.heap.size + 1) ∧ (∀ k, S3 k → S k ∨ W.heap.size ≤ k) ∧
            RdStep Si W (W3.putObj (w.heap.size + 1) (.loop (rec (if jump.isNone then .ready else .done) jump))) := fun jump W3 S3 hr3 hs3 hs3' => by
          have hl2 : (Wa.putObj (w.heap.size + 1) (.loop { rec .ready none with state := .busy })).heap[w.heap.size + 1]? = some (.loop { rec .ready none with state := .busy }) := World.putObj_heap_same hlta
          have hk2 : (Wa.putObj (w.heap.size + 1) (.loop { rec .ready none with state := .busy })).heap[w.heap.size]? = some (.deferred (some [])) := (World.putObj_heap_other (by omega)).trans hka
          have hl3 := (hr3.keep _ (by simpa using hlta) hnL1).trans hl2
          have hk3 := (hr3.keep _ (by simp; omega) hnD1).trans hk2
          have hlt3 := (Array.getElem?_eq_some_iff.1 hl3).1
          have := run_endRound (P := P) jump hl3
          rw [hrec] at this ⊢
          have hsz3 := hr3.size
          have hsz1 := hr1.size
          simp only [World.putObj_size] at hsz3 hs3
          refine ⟨this, World.putObj_heap_same hlt3, (World.putObj_heap_other (by omega)).trans hk3, fun e => ?_, fun e => ?_, fun k e => ?_, ?_⟩
          · rcases hs3 _ e with e | e; exact hnD1 e; omega
          · rcases hs3 _ e with e | e; exact hnL1 e; omega
          · rcases hs3 _ e with e | e
            · exact hs1 _ e
            · right; omega
          · refine ⟨hr3.os.trans hr1.os, hr3.tape.trans hr1.tape, hr3.output.trans hr1.output, by simp; omega, fun k hk' hnS => ?_, Nat.le_trans hr1.drawn hr3.drawn⟩
            have hkl : k ≠ w.heap.size + 1 := fun e => hnS ((hSi k).2 (.inr e))
            have hnS' : ¬ S k := fun e => hnS ((hSi k).2 (.inl e))
            have hnS1 : ¬ S1 k := fun e => by rcases hs1 _ e with e | e; exact hnS' e; omega
            exact (World.putObj_heap_other hkl).trans ((hr3.keep k (by simp; omega) hnS1).trans ((World.putObj_heap_other hkl).trans (hr1.keep k hk' hnS')))
        have fin2 : ∀ (S3 : Nat → Prop) (W3 : World) (o : Obj), (∀ k, S3 k → k < W3.heap.size) → W.heap.size ≤ W3.heap.size → (∀ k, S3 k → S k ∨ W.heap.size ≤ k) →
            (∀ k, (S3 k ∨ k = w.heap.size + 1) → Si k ∨ W.heap.size ≤ k) ∧ (∀ k, (S3 k ∨ k = w.heap.size + 1) → k < (W3.putObj (w.heap.size + 1) o).heap.size) := fun S3 W3 o h1 h2 h3 =>
          ⟨fun k e => by rcases e with e | e; exact (h3 k e).imp (fun e' => (hSi k).2 (.inl e')) id; exact .inl ((hSi k).2 (.inr e)), fun k e => by
            simp only [World.putObj_size]
            rcases e with e | e
            · exact h1 k e
            · omega⟩
        have sub3 : ∀ (S3 : Nat → Prop), (∀ k, S3 k → S k ∨ W.heap.size ≤ k) → ∀ k, S3 k → S0 k ∨ w.heap.size ≤ k := fun S3 h k e => by
          rcases h k e with e | e
          · exact hsub k e
          · right; omega
        rintro e a3 W3 hp
        cases e with
        | normal =>
          obtain ⟨S3, hr3, hs3, hs3', hi3⟩ := hp
          obtain ⟨hr, hl4, hk4, hnD, hnL, hsS, hrd⟩ := fin none W3 S3 hr3 hs3 hs3'
          have hsz : W.heap.size ≤ W3.heap.size := by simpa using hrd.size
          refine ⟨_, _, hr, fun k => S3 k ∨ k = w.heap.size + 1, hrd, (fin2 S3 W3 (.deferred none) hs3' hsz hsS).1, (fin2 S3 W3 _ hs3' hsz hsS).2, .inl ⟨rfl, S3, fun _ => Iff.rfl, hnD, hnL, sub3 S3 hsS, hI _ _ _ _ hi3 (it_putObj _ (by omega) hnL), hl4, hk4⟩⟩
        | ret =>
          obtain ⟨S3, hr3, hs3, hs3', hi3⟩ := hp
          obtain ⟨hr, hl4, hk4, hnD, hnL, hsS, hrd⟩ := fin (some .ret) W3 S3 hr3 hs3 hs3'
          have hsz : W.heap.size ≤ W3.heap.size := by simpa using hrd.size
          refine ⟨_, _, hr, fun k => S3 k ∨ k = w.heap.size + 1, hrd, (fin2 S3 W3 (.deferred none) hs3' hsz hsS).1, (fin2 S3 W3 _ hs3' hsz hsS).2, .inr ⟨rfl, S3, .ret, fun _ => Iff.rfl, hnD, hnL, sub3 S3 hsS, hIx _ _ _ _ _ hi3 (it_putObj _ (by omega) hnL), hl4, hk4⟩⟩
        | exit id =>
          obtain ⟨S3, hr3, hs3, hs3', hi3⟩ := hp
          obtain ⟨hr, hl4, hk4, hnD, hnL, hsS, hrd⟩ := fin (some (.exit id)) W3 S3 hr3 hs3 hs3'
          have hsz : W.heap.size ≤ W3.heap.size := by simpa using hrd.size
          refine ⟨_, _, hr, fun k => S3 k ∨ k = w.heap.size + 1, hrd, (fin2 S3 W3 (.deferred none) hs3' hsz hsS).1, (fin2 S3 W3 _ hs3' hsz hsS).2, .inr ⟨rfl, S3, .exit id, fun _ => Iff.rfl, hnD, hnL, sub3 S3 hsS, hIx _ _ _ _ _ hi3 (it_putObj _ (by omega) hnL), hl4, hk4⟩⟩
        | goto t => exact hp.elim
        | panic ch => exact hp.elim
        | outgrown => exact hp.elim
      | ret => exact hq.elim
      | exit id => exact hq.elim
      | goto t => exact hq.elim
      | panic ch => exact hq.elim
      | outgrown => exact hq.elim
    · rintro k (e | rfl)
      · exact hS0 k e
      · omega
    · rintro k (e | rfl)
      · have := hS0' k e; omega
      · omega
    · exact ⟨S0, fun _ => Iff.rfl, fun e => by have := hS0' _ e; omega, fun e => by have := hS0' _ e; omega, fun _ e => .inl e, hI1, hL1, hK1⟩

theorem boxed_it {B : Nat} {S : Nat → Prop} {W W' : World} {b : Nat} {t : TypeId} {v : Value} (h : Boxed W b t v) (hs : ItStep B S W W') (hb : S b) : Boxed W' b t v := (hs.keep b h.lt (.inr hb)).trans h
theorem below_it {n B : Nat} {S : Nat → Prop} {w W W' : World} (h : Below n w W) (hs : ItStep B S W W') (hB : n ≤ B) (hn : n ≤ w.heap.size) : Below n w W' :=
  ⟨hs.os.trans h.os, hs.tape.trans h.tape, hs.output.trans h.output, Nat.le_trans h.size hs.size, fun k hk => (hs.keep k (by have := h.size; omega) (.inl (by omega))).trans (h.block k hk), Nat.le_trans h.drawn hs.drawn⟩
theorem boxed_below {n : Nat} {W W' : World} {b : Nat} {t : TypeId} {v : Value} (h : Boxed W b t v) (hs : Below n W W') (hb : b < n) : Boxed W' b t v := (hs.block b hb).trans h
theorem boxed_far {W : World} {b : Nat} {t : TypeId} {v : Value} (h : Boxed W b t v) {p : Addr} (hp : b ≠ p.block) (u : Value) : Boxed (W.setCell p u) b t v := (Below.heap_setCell W p u b hp).trans h

/-- A function that holds a range over a function returns: ahead of the loop, and behind it. -/
theorem endM0 {P : Program} {fn : Func} {R : Ending → World → Prop} {tmps : Array Value} {w : World} {v : Value} (hres : (results fn tmps).run P w = .ok v w) (hR : R (.returned v) w) :
    bodyPostM Fence.wide 0 P fn R .ret { tmps := tmps, defers := [] } w := ⟨_, hres, hR⟩
theorem endM1 {P : Program} {fn : Func} {R : Ending → World → Prop} {tmps : Array Value} {W : World} {D : Nat} {v : Value} (hK : W.heap[D]? = some (.deferred (some [])))
    (hres : (results fn tmps).run P (W.putObj D (.deferred none)) = .ok v (W.putObj D (.deferred none))) (hR : R (.returned v) (W.putObj D (.deferred none))) :
    bodyPostM Fence.wide 0 P fn R .ret { tmps := tmps, defers := [{ target := .collected D, args := #[] }] } W :=
  ⟨by simp, .inl ⟨_, _, rfl, run_takeDeferred hK, _, hres, hR⟩⟩
theorem below_putObj {n D : Nat} {w W : World} (h : Below n w W) (hD : n ≤ D) (o : Obj) : Below n w (W.putObj D o) :=
  ⟨h.os, h.tape, h.output, by simpa using h.size, fun k hk => (World.putObj_heap_other (by omega)).trans (h.block k hk), h.drawn⟩
theorem boxed_putObj {W : World} {b D : Nat} {t : TypeId} {v : Value} (h : Boxed W b t v) (hD : b ≠ D) (o : Obj) : Boxed (W.putObj D o) b t v := (World.putObj_heap_other hD).trans h

/-- The same, with the assignment and the body in one premise: no frame need be named. -/
theorem wpIn_range' {α : Type} {P : Program} {g : Operand} {ps : Array Tmp} {assign body : Code} {Q : Exit → Act → World → Prop} {a : Act} {w : World}
    {gf : FuncId} {first captured : Array Value} (hg : a.eval g = .func (.func gf) first captured) (eg : ∀ args w, (callFunc gf args).run P w = .ok (.enter gf args) w)
    {mk : Value → Array Value} {encs : α → Array Value} {xs : List α} {n₀ : Nat} {w0 : World} (hmk : ∀ y, mk y = first ++ #[y] ++ captured)
    (hit : Iter P gf mk encs xs n₀ w0) (hb0 : Below n₀ w0 w) (hn0 : n₀ ≤ w.heap.size) (hps : ∀ x, (encs x).size = ps.size)
    (I : List α → (Nat → Prop) → World → Prop) (Ix : Code → List α → (Nat → Prop) → World → Prop)
    (hI : StableAt w.heap.size I) (hIx : ∀ c, StableAt w.heap.size (Ix c))
    (S0 : Nat → Prop) (hS0 : ∀ k, S0 k → n₀ ≤ k) (hS0' : ∀ k, S0 k → k < w.heap.size) (h0 : I [] S0 w)
    (hround : ∀ (l0 : Nat) (pre : List α) (x : α) (S : Nat → Prop) (W : World), pre ++ [x] <+: xs → I pre S W → (∀ k, S k → k < W.heap.size) →
      assign.wpIn (Fence.wide.inRound l0) 0 P (Exit.then (fun a₁ W₁ => ∃ S', RdStep S W W₁ ∧ (∀ k, S' k → S k ∨ W.heap.size ≤ k) ∧ (∀ k, S' k → k < W₁.heap.size) ∧
          ∀ l W₂, ItStep w.heap.size S' W₁ W₂ → body.wpIn (Fence.wide.inRound l) 0 P (bodyTo I Ix (pre ++ [x]) S' W₂) a₁ W₂) (fun _ _ _ => False))
        { tmps := (ps.zip (encs x)).foldl (fun t (p, v) => t.setIfInBounds p v) a.tmps, defers := [] } W)
    (hdone : ∀ (D : Nat) (S : Nat → Prop) (W : World), w.heap.size ≤ D → ¬ S D → (∀ k, S k → S0 k ∨ w.heap.size ≤ k) → I xs S W → W.heap[D]? = some (.deferred (some [])) →
      Q .normal { a with defers := { target := .collected D, args := #[] } :: a.defers } W)
    (hstop : ∀ (D : Nat) (c : Code) (pre : List α) (S : Nat → Prop) (W : World), w.heap.size ≤ D → ¬ S D → (∀ k, S k → S0 k ∨ w.heap.size ≤ k) → pre <+: xs → Ix c pre S W → W.heap[D]? = some (.deferred (some [])) →
      c.wpIn Fence.wide 0 P Q { a with defers := { target := .collected D, args := #[] } :: a.defers } W) :
    (Code.rangeFunc g ps assign body).wpIn Fence.wide 0 P Q a w :=
  wpIn_range hg eg hmk hit hb0 hn0 hps I Ix (fun pre x S a₁ W => ∀ l W₂, ItStep w.heap.size S W W₂ → body.wpIn (Fence.wide.inRound l) 0 P (bodyTo I Ix (pre ++ [x]) S W₂) a₁ W₂)
    hI hIx (fun _ _ _ _ _ _ h hs l W₂ h2 => h l W₂ (hs.trans h2)) S0 hS0 hS0' h0 hround (fun l _ _ _ _ W _ h _ => h l W (ItStep.refl _ _ _)) hdone hstop

end Go.Proofs.YtnbolgdccdnjeaaGreatDoor.D
/- Words for memory that only grows, and draws that are not taken back. -/
namespace Go.Proofs.YtnbolgdccdnjeaaGreatDoor.D
open Go.RowKit
/-- A world that has grown out of w: nothing that lay in w has turned. -/
def Grow (w : World) : Type := { x : World // Below w.heap.size w x }
def Grow.w {w : World} (g : Grow w) : World := g.1
theorem Grow.below {w : World} (g : Grow w) : Below w.heap.size w g.w := g.2
instance (w : World) : Nonempty (Grow w) := ⟨⟨w, Below.refl _ _⟩⟩
theorem Grow.cell {w : World} (g : Grow w) (p : Addr) (h : p.block < w.heap.size) : g.w.cell? p = w.cell? p := g.2.cell h
theorem Grow.frozen {w : World} (g : Grow w) (p : Addr) (h : p.block < w.heap.size) : g.w.frozen? p = w.frozen? p := g.2.frozen h
theorem Grow.size {w : World} (g : Grow w) : w.heap.size ≤ g.w.heap.size := g.2.size

def Grows (w : World) (w' : World) : Prop := ∃ g : Grow w, w' = g.w
theorem Grows.of {w w' : World} (h : Below w.heap.size w w') : Grows w w' := ⟨⟨w', h⟩, rfl⟩

/-- A callee's contract, met in a world that has grown. -/
theorem Calls.grow_of {P : Program} {f : FuncId} {args : Array Value} {w : World} {g : Grow w} {v : Value}
    (h : Calls P f args g.w fun e w' => e = .returned v ∧ Below g.w.heap.size g.w w') : Calls P f args g.w fun e w'' => e = .returned v ∧ ∃ g' : Grow w, w'' = g'.w :=
  h.mono fun _ w' ⟨he, hm⟩ => ⟨he, ⟨w', g.2.trans (hm.mono g.2.size)⟩, rfl⟩
theorem Calls.grow_same {P : Program} {f : FuncId} {args : Array Value} {w : World} {g : Grow w} {v : Value}
    (h : Calls P f args g.w fun e w' => e = .returned v ∧ g.w = w') : Calls P f args g.w fun e w'' => e = .returned v ∧ ∃ g' : Grow w, w'' = g'.w :=
  h.mono fun _ _ ⟨he, hm⟩ => ⟨he, g, hm.symm⟩

section
variable {P : Program}
theorem wp_region_grow {id : Nat} {Q : Exit → Act → World → Prop} {a : Act} {w : World} {l : List Oper} (hm : P.follows .mixedOrders = true) (hB : Region.lexB .any l.toArray = true)
    (h : wpQuiet P l.toArray (fun w' => ∃ g : Grow w, w' = g.w) (fun a' => ∀ w', (∃ g : Grow w, w' = g.w) → Q .normal a' w') l a) : (Code.region id l.toArray true).wp P Q a w :=
  wp_region_quiet (C := fun w' => ∃ g : Grow w, w' = g.w) hm hB ⟨⟨_, (Below.refl w.heap.size w).drew⟩, rfl⟩ (by simpa using h)
end

/-- All that lay below reads as it did: the two rules that the walk wants behind a call. -/
theorem bcell {W w1 : World} (hb : Below W.heap.size W w1) : (∀ b o, b < W.heap.size → w1.cell? ⟨b, o, none⟩ = W.cell? ⟨b, o, none⟩) ∧ (∀ b o, b < W.heap.size → w1.frozen? ⟨b, o, none⟩ = W.frozen? ⟨b, o, none⟩) :=
  ⟨fun b o h => hb.cell (p := ⟨b, o, none⟩) h, fun b o h => hb.frozen (p := ⟨b, o, none⟩) h⟩

end Go.Proofs.YtnbolgdccdnjeaaGreatDoor.D
/- Contracts of package name: the labels of a text from the last one on; which texts are names. -/
namespace Go.Proofs.YtnbolgdccdnjeaaGreatDoor.D
open Go.RowKit Go.Shelf
attribute [local go_sem] Oper.semAt_some

abbrev strs (l : List UInt8) : Value := .string ⟨l.toArray⟩

def strLen : Value → Nat
  | .string s => s.size
  | _ => 0
def BackRel (t : ByteArray) (J : List (List UInt8) → (Nat → Prop) → World → Prop) (S : Nat → Prop) (W : World) (v : Value) (wr : World) : Prop :=
  ∃ (pre : List (List UInt8)) (r : ByteArray) (S1 : Nat → Prop), v = .string r ∧ r.size ≤ 140737488355328 ∧ Np.back t.data.toList = pre ++ (Np.splitDots r.data.toList).reverse ∧
    J pre S1 wr ∧ (∀ k, S1 k → k < wr.heap.size) ∧ W.heap.size ≤ wr.heap.size ∧ (∀ k, S1 k → S k ∨ W.heap.size ≤ k)

set_option maxHeartbeats 1000000 in
theorem backwards_iter (t : ByteArray) (ht : t.size ≤ 140737488355328) (n₀ : Nat) (w : World) :
    Iter Tryz.prog 103 (fun y => #[.string t, y]) (fun x : List UInt8 => #[strs x]) (Np.back t.data.toList) n₀ w := by
  intro l J Jx S W hW hJ hJx hY hS hS' h0
  refine callsIn_of_wp Tryz.func103 rfl trivial ?_ rfl
  simp only [Tryz.ntmps103, List.size_toArray, List.length_cons, List.length_nil, Nat.reduceAdd, Nat.reduceSub, Array.replicate_succ, Array.replicate_zero, List.push_toArray, List.append_toArray, List.nil_append, List.cons_append]
  gi_wp2_with fail
  · have he : (t.toList == [46]) = true := by assumption
    have he2 : t.data.toList = [46] := by rw [← ByteArray.toList_eq]; simpa using he
    have hb : Np.back t.data.toList = [] := by simp [Np.back, he2]
    refine bodyPost_ret (results_none rfl _ _ _) rfl ?_
    exact ⟨⟨_, rfl⟩, .inl ⟨S, by rw [hb]; exact h0, fun k e => .inl e⟩⟩
  · have he : (t.toList == [46]) = false := by assumption
    have hne : ¬ t.data.toList = [46] := by rw [← ByteArray.toList_eq]; simpa using he
    have hb : Np.back t.data.toList = (Np.splitDots t.data.toList).reverse := by simp [Np.back, hne]
    have HB := Lib.hid hb
    clear hb
    gi_loopw [4] (fun v wr => BackRel t J S W v wr) (fun v _ => strLen v)
    case atStart => exact ⟨[], t, S, rfl, ht, by simpa using HB.out, h0, hS', Nat.le_refl _, fun _ e => .inl e⟩
    case round =>
      obtain ⟨pre, r, S1, rfl, hr, hpre, hj, hlt, hsz, hsub⟩ := hrel
      have HP := Lib.hid hpre
      clear hpre
      gi_wp2_with fail
      refine ⟨trivial, rfl, ?_⟩
      refine (callsIn_wide.2 (lastIndexByte_any _ hr _ (by decide) (by decide) _)).mono ?_
      rintro e w' ⟨q, hq, rfl, rfl⟩
      rcases hq with ⟨rfl, hno⟩ | ⟨a, b, hab, hnb, rfl⟩
      · have hs1 : Np.splitDots r.data.toList = [r.data.toList] := Np.splitDots_none hno
        have hx : pre ++ [r.data.toList] <+: Np.back t.data.toList := by rw [HP.out, hs1]; exact List.prefix_refl _
        obtain ⟨fn, tmps, assign, body, hy, hR⟩ := hY pre r.data.toList S1 wr hx hj hlt hsz
        have hy2 : Sem.run Tryz.prog (Instr.yield l #[.string r]) wr = .ok (.round l fn tmps assign body) wr := hy
        clear hy
        have HX := Lib.hid hx
        clear hx
        have HS := Lib.hid hs1
        clear hs1 hno
        gi_wp2_with fail
        refine ⟨rfl, hR.mono ?_⟩
        rintro e W3 ⟨S3, hrd, hsub3, hlt3, (⟨rfl, hJ3⟩ | ⟨rfl, hJx3⟩)⟩
        all_goals
          gi_wp2_with fail
          refine bodyPost_ret (results_none rfl _ _ _) rfl ?_
        · refine ⟨⟨_, rfl⟩, .inl ⟨S3, ?_, fun k e => ?_⟩⟩
          · rw [HP.out, HS.out]; exact hJ3
          · rcases hsub3 k e with e | e
            · exact hsub k e
            · right; omega
        · refine ⟨⟨_, rfl⟩, .inr ⟨_, S3, HX.out, hJx3, fun k e => ?_⟩⟩
          rcases hsub3 k e with e | e
          · exact hsub k e
          · right; omega
      · have hsz2 : a.length + 1 + b.length = r.size := by rw [← size_list, hab]; simp; omega
        have hs1 : Np.splitDots r.data.toList = Np.splitDots a ++ [b] := by rw [hab]; exact (Np.splitDots_app a b).trans (by rw [Np.splitDots_none hnb])
        have hx : pre ++ [b] <+: Np.back t.data.toList := by rw [HP.out, hs1]; simp
        have hxb : (r.extract (a.length + 1) r.size).data.toList = b := by rw [ext_from, hab]; simp
        have hxa : (r.extract 0 a.length).data.toList = a := by rw [ext_to, hab]; simp
        have hsa : (r.extract 0 a.length).size = a.length := by rw [← size_list, hxa]
        obtain ⟨fn, tmps, assign, body, hy, hR⟩ := hY pre b S1 wr hx hj hlt hsz
        have hy2 : Sem.run Tryz.prog (Instr.yield l #[.string (r.extract (a.length + 1) r.size)]) wr = .ok (.round l fn tmps assign body) wr := by
          have : strs b = .string (r.extract (a.length + 1) r.size) := by show Value.string _ = _; congr 1; exact str_ext (by rw [hxb])
          simp only [this] at hy
          exact hy
        clear hy
        have HX := Lib.hid hx
        have HS := Lib.hid hs1
        have HA := Lib.hid hxa
        have HSA := Lib.hid hsa
        clear hx hs1 hxb hxa hsa hab hnb
        have hal : a.length ≤ 140737488355328 := by omega
        have hal2 : a.length + 1 ≤ r.size := by omega
        have H2 := Lib.hid hsz2
        clear hsz2
        gi_wp2_with fail
        refine ⟨rfl, hR.mono ?_⟩
        rintro e W3 ⟨S3, hrd, hsub3, hlt3, (⟨rfl, hJ3⟩ | ⟨rfl, hJx3⟩)⟩
        · have hrs := hrd.size
          gi_wp2_with fail
          go_roundw
          case rel =>
            refine ⟨pre ++ [b], r.extract 0 a.length, S3, rfl, by rw [HSA.out]; exact hal, ?_, hJ3, hlt3, by omega, fun k e => ?_⟩
            · rw [HP.out, HS.out, HA.out]; simp
            · rcases hsub3 k e with e | e
              · exact hsub k e
              · right; omega
          case measure => show (r.extract 0 a.length).size < r.size; rw [HSA.out]; omega
        · gi_wp2_with fail
          refine bodyPost_ret (results_none rfl _ _ _) rfl ?_
          refine ⟨⟨_, rfl⟩, .inr ⟨_, S3, HX.out, hJx3, fun k e => ?_⟩⟩
          rcases hsub3 k e with e | e
          · exact hsub k e
          · right; omega
end Go.Proofs.YtnbolgdccdnjeaaGreatDoor.D
/- Contracts of package name: which texts are names. -/
namespace Go.Proofs.YtnbolgdccdnjeaaGreatDoor.D
open Go.RowKit Go.Shelf
attribute [local go_sem] Oper.semAt_some


def wildOf (pre : List (List UInt8)) : Bool := pre.getLast? == some [42]

def ValI (w : World) (xs : List (List UInt8)) (pre : List (List UInt8)) (S : Nat → Prop) (W : World) : Prop :=
  (∀ k, S k ↔ k = w.heap.size ∨ k = w.heap.size + 1 ∨ k = w.heap.size + 1 + 1) ∧ Boxed W w.heap.size 4 (.bool false) ∧ Boxed W (w.heap.size + 1) 3 (.int .i64 pre.length) ∧ Boxed W (w.heap.size + 1 + 1) 4 (.bool (wildOf pre)) ∧
  (pre.length ≤ 8 ∧ ∀ rest, xs = pre ++ rest → Np.goodFrom xs 0 false = Np.goodFrom rest pre.length (wildOf pre)) ∧ Below w.heap.size w W
def ValX (w : World) (xs : List (List UInt8)) (c : Code) (_ : List (List UInt8)) (S : Nat → Prop) (W : World) : Prop :=
  c = .ret ∧ (∀ k, S k ↔ k = w.heap.size ∨ k = w.heap.size + 1 ∨ k = w.heap.size + 1 + 1) ∧ Boxed W w.heap.size 4 (.bool false) ∧ Np.goodFrom xs 0 false = false ∧ Below w.heap.size w W

theorem valI_stable (w : World) (xs : List (List UInt8)) (B : Nat) (hB : w.heap.size ≤ B) : StableAt B (ValI w xs) := by
  rintro s S W W' ⟨hS, h1, h2, h3, h4, h5⟩ hst
  exact ⟨hS, boxed_it h1 hst ((hS _).2 (.inl rfl)), boxed_it h2 hst ((hS _).2 (.inr (.inl rfl))), boxed_it h3 hst ((hS _).2 (.inr (.inr rfl))), h4, below_it h5 hst hB (Nat.le_refl _)⟩
theorem valX_stable (w : World) (xs : List (List UInt8)) (B : Nat) (hB : w.heap.size ≤ B) (c : Code) : StableAt B (ValX w xs c) := by
  rintro s S W W' ⟨hc, hS, h1, h4, h5⟩ hst
  exact ⟨hc, hS, boxed_it h1 hst ((hS _).2 (.inl rfl)), h4, below_it h5 hst hB (Nat.le_refl _)⟩

theorem val_ret {w : World} {xs pre : List (List UInt8)} {S : Nat → Prop} {W W3 : World} {a : Act} (hS : ∀ k, S k ↔ k = w.heap.size ∨ k = w.heap.size + 1 ∨ k = w.heap.size + 1 + 1)
    (hr : RdStep S W W3) (hlt : ∀ k, S k → k < W.heap.size) (c0 : Boxed W3 w.heap.size 4 (.bool false)) (hB : Below w.heap.size w W3) (hg : Np.goodFrom xs 0 false = false) :
    bodyTo (ValI w xs) (ValX w xs) pre S W .ret a (W3.setCell ⟨w.heap.size, 0, none⟩ (.bool false)) :=
  ⟨S, hr.setCell (.inl ((hS _).2 (.inl rfl))) _, fun _ e => .inl e, fun k e => by have := hlt k e; have := hr.size; simp [World.setCell]; omega, rfl, hS, c0.set _, hg, hB.setCell (Nat.le_refl _) _⟩
theorem val_go {w : World} {xs pre rest : List (List UInt8)} {x : List UInt8} {S : Nat → Prop} {W W3 : World} {a : Act} (hS : ∀ k, S k ↔ k = w.heap.size ∨ k = w.heap.size + 1 ∨ k = w.heap.size + 1 + 1)
    (hr : RdStep S W W3) (hlt : ∀ k, S k → k < W.heap.size) (c0 : Boxed W3 w.heap.size 4 (.bool false)) (c1 : Boxed W3 (w.heap.size + 1) 3 (.int .i64 (pre.length + 1))) (c2 : Boxed W3 (w.heap.size + 1 + 1) 4 (.bool (x == [42])))
    (hB : Below w.heap.size w W3) (hrest : pre ++ [x] ++ rest = xs) (hl : pre.length + 1 ≤ 8) (hg : Np.goodFrom xs 0 false = Np.goodFrom rest (pre.length + 1) (x == [42])) :
    bodyTo (ValI w xs) (ValX w xs) (pre ++ [x]) S W .normal a W3 := by
  have hw : wildOf (pre ++ [x]) = (x == [42]) := by simp [wildOf]
  refine ⟨S, hr, fun _ e => .inl e, fun k e => by have := hlt k e; have := hr.size; omega, hS, c0, by simpa using c1, by rw [hw]; exact c2, ⟨by simpa using hl, fun r h => ?_⟩, hB⟩
  have : r = rest := List.append_cancel_left (h.symm.trans hrest.symm)
  rw [hg, this, hw]; simp

set_option maxHeartbeats 1000000 in
theorem valid_any (t : ByteArray) (ht : t.size ≤ 140737488355328) (w : World) :
    Calls Tryz.prog 59 #[.string t] w fun e w' => e = .returned (.bool (Np.validName t.data.toList)) ∧ Below w.heap.size w w' := by
  refine (callsIn_wide (n := 0)).1 ?_
  refine callsIn_of_wp_marks Tryz.func59 rfl trivial ?_ rfl
  simp only [Tryz.ntmps59, List.size_toArray, List.length_cons, List.length_nil, Nat.reduceAdd, Nat.reduceSub, Array.replicate_succ, Array.replicate_zero, List.push_toArray, List.append_toArray, List.nil_append, List.cons_append]
  gi_wp2_with fail
  · have he : (t.toList == [46]) = true := by assumption
    have he2 : t.data.toList = [46] := by rw [← ByteArray.toList_eq]; simpa using he
    exact endM0 (v := .bool true) (by simp [results, Tryz.results59, go_sem]) ⟨by rw [Np.validName, if_pos he2], (Below.refl _ _).alloc (Nat.le_refl _) _⟩
  · have he : (t.toList == [46]) = false := by assumption
    have he2 : ¬ t.data.toList = [46] := by rw [← ByteArray.toList_eq]; simpa using he
    have hl : 60 < (t.size : Int) := by assumption
    exact endM0 (v := .bool false) (by simp [results, Tryz.results59, go_sem]) ⟨by rw [Np.validName, if_neg he2, if_pos (by rw [size_list]; omega)], (Below.refl _ _).alloc (Nat.le_refl _) _⟩
  · have he : (t.toList == [46]) = false := by assumption
    have he2 : ¬ t.data.toList = [46] := by rw [← ByteArray.toList_eq]; simpa using he
    have hl : (t.size : Int) ≤ 60 := by assumption
    have hv : Np.validName t.data.toList = Np.goodFrom (Np.back t.data.toList) 0 false := by
      rw [Np.validName, if_neg he2, if_neg (by rw [size_list]; omega), Np.back, if_neg he2]
    have HV := Lib.hid hv
    clear hv
    have b0 := Boxed.new w 4 (.bool false)
    have b1 := Boxed.new (w.alloc (.cells #[.bool false] 4)) 3 (.int .i64 0)
    have b2 := Boxed.new ((w.alloc (.cells #[.bool false] 4)).alloc (.cells #[.int .i64 0] 3)) 4 (.bool false)
    simp only [World.size_alloc] at b1 b2
    refine wpIn_range' (n₀ := w.heap.size) (w0 := w) (first := #[.string t]) (captured := #[]) (gf := 103) rfl (enters_of Tryz.func103 (by kernel_rfl) rfl) (mk := fun y => #[.string t, y]) (fun _ => rfl)
      (backwards_iter t ht _ w) ((((Below.refl _ w).alloc (Nat.le_refl _) _).alloc (by simp) _).alloc (by simp; omega) _) (by simp; omega) (fun _ => rfl) (ValI w (Np.back t.data.toList)) (ValX w (Np.back t.data.toList))
      (valI_stable _ _ _ (by simp; omega)) (fun c => valX_stable _ _ _ (by simp; omega) c)
      (fun k => k = w.heap.size ∨ k = w.heap.size + 1 ∨ k = w.heap.size + 1 + 1) (by intro k h; omega) (by intro k h; simp; omega)
      ⟨fun _ => Iff.rfl, (b0.alloc _).alloc _, b1.alloc _, b2, ⟨by simp, fun rest h => by rw [h]; rfl⟩, (((Below.refl _ w).alloc (Nat.le_refl _) _).alloc (by simp) _).alloc (by simp; omega) _⟩ ?round ?done ?stop
    case round =>
      rintro l0 pre x S W hpx hI hSlt
      gi_wp2
      refine ⟨S, RdStep.refl _ _, fun k e => .inl e, hSlt, ?_⟩
      intro l W₂ hst
      obtain ⟨hS, c0, c1, c2, hg, hB⟩ := valI_stable w _ _ (by simp; omega) pre S W W₂ hI hst
      have c0c := c0.cell
      have c1c := c1.cell
      have c2c := c2.cell
      have c0f := c0.frozen
      have c1f := c1.frozen
      have c2f := c2.frozen
      have hlen := hg.1
      have hx : x ∈ Np.back t.data.toList := hpx.subset (by simp)
      have hxl : x.length ≤ 60 := by have := Np.back_len hx; rw [size_list] at this; omega
      have hxs : (⟨x.toArray⟩ : ByteArray).size ≤ 140737488355328 := by rw [← size_list]; simp; omega
      obtain ⟨rest, hrest⟩ := hpx
      have hgo : Np.goodFrom (Np.back t.data.toList) 0 false = Np.goodFrom (x :: rest) pre.length (wildOf pre) := hg.2 _ (by rw [← hrest]; simp)
      have HR := Lib.hid hrest
      have HG := Lib.hid hgo
      have hbelow : ∀ (b : Nat) (u : Value), w.heap.size ≤ b → Below w.heap.size w (W₂.setCell ⟨b, 0, none⟩ u) := fun b u hb => hB.setCell (p := ⟨b, 0, none⟩) hb u
      have hSlt2 : ∀ k, S k → k < W₂.heap.size := fun k e => Nat.lt_of_lt_of_le (hSlt k e) hst.size
      clear hrest hgo hg hx
      gi_wp2_with (refine ⟨trivial, rfl, ?_⟩; gi_at_call 104; refine (CallsIn.inRound l (callsIn_wide.2 (isLabel_any _ hxs _))).mono ?_; rintro e w' ⟨rfl, rfl⟩)
      · exact val_ret hS (RdStep.setCell (RdStep.refl S W₂) (p := ⟨w.heap.size + 1, 0, none⟩) (.inl ((hS _).2 (.inr (.inl rfl)))) _) hSlt2 (boxed_far c0 (p := ⟨w.heap.size + 1, 0, none⟩) (by simp) _) (hbelow _ _ (by omega))
          (by rw [HG.out]; have : wildOf pre = true := by assumption
              simp [Np.goodFrom, this])
      · exact val_ret hS (RdStep.setCell (RdStep.refl S W₂) (p := ⟨w.heap.size + 1, 0, none⟩) (.inl ((hS _).2 (.inr (.inl rfl)))) _) hSlt2 (boxed_far c0 (p := ⟨w.heap.size + 1, 0, none⟩) (by simp) _) (hbelow _ _ (by omega))
          (by rw [HG.out]; have : 8 < pre.length + 1 := by omega
              simp [Np.goodFrom, this])
      · have hx1 : x = [42] := by assumption
        have e : (x == [42]) = true := by simp [hx1]
        have hle : (pre.length : Int) + 1 ≤ 8 := by assumption
        have h1 : ¬ wildOf pre = true := by assumption
        have h2 : ¬ 8 < pre.length + 1 := by omega
        refine ⟨trivial, ?_⟩
        gi_wp2
        exact val_go hS (RdStep.setCell (RdStep.setCell (RdStep.refl S W₂) (p := ⟨w.heap.size + 1, 0, none⟩) (.inl ((hS _).2 (.inr (.inl rfl)))) _) (p := ⟨w.heap.size + 1 + 1, 0, none⟩) (.inl ((hS _).2 (.inr (.inr rfl)))) _) hSlt2
          (boxed_far (boxed_far c0 (p := ⟨w.heap.size + 1, 0, none⟩) (by simp) _) (p := ⟨w.heap.size + 1 + 1, 0, none⟩) (by simp <;> omega) _)
          (boxed_far (c1.set _) (p := ⟨w.heap.size + 1 + 1, 0, none⟩) (by simp <;> omega) _) (by rw [e]; exact (boxed_far c2 (p := ⟨w.heap.size + 1, 0, none⟩) (by simp) _).set _)
          ((hbelow _ _ (by omega)).setCell (p := ⟨w.heap.size + 1 + 1, 0, none⟩) (by simp; omega) _) HR.out (by omega) (by rw [HG.out]; simp [Np.goodFrom, h1, h2, hx1])
      · have hl : (!x == [42]) = true ∧ (!Np.isLabel x) = true := by assumption
        have hx1 : ¬ x = [42] := by assumption
        exact val_ret hS (RdStep.setCell (RdStep.setCell (RdStep.refl S W₂) (p := ⟨w.heap.size + 1, 0, none⟩) (.inl ((hS _).2 (.inr (.inl rfl)))) _) (p := ⟨w.heap.size + 1 + 1, 0, none⟩) (.inl ((hS _).2 (.inr (.inr rfl)))) _) hSlt2
          (boxed_far (boxed_far c0 (p := ⟨w.heap.size + 1, 0, none⟩) (by simp) _) (p := ⟨w.heap.size + 1 + 1, 0, none⟩) (by simp <;> omega) _)
          ((hbelow _ _ (by omega)).setCell (p := ⟨w.heap.size + 1 + 1, 0, none⟩) (by simp; omega) _)
          (by rw [HG.out]; have h2 : Np.isLabel x = false := by simpa using hl.2
              simp [Np.goodFrom, hx1, h2])
      · have hl : (!x == [42]) = false ∨ (!Np.isLabel x) = false := by assumption
        have hx1 : ¬ x = [42] := by assumption
        have e : (x == [42]) = false := by simp [hx1]
        have hle : (pre.length : Int) + 1 ≤ 8 := by assumption
        have h1 : ¬ wildOf pre = true := by assumption
        have h2 : ¬ 8 < pre.length + 1 := by omega
        have h3 : Np.isLabel x = true := by simpa [e] using hl
        exact val_go hS (RdStep.setCell (RdStep.setCell (RdStep.refl S W₂) (p := ⟨w.heap.size + 1, 0, none⟩) (.inl ((hS _).2 (.inr (.inl rfl)))) _) (p := ⟨w.heap.size + 1 + 1, 0, none⟩) (.inl ((hS _).2 (.inr (.inr rfl)))) _) hSlt2
          (boxed_far (boxed_far c0 (p := ⟨w.heap.size + 1, 0, none⟩) (by simp) _) (p := ⟨w.heap.size + 1 + 1, 0, none⟩) (by simp <;> omega) _)
          (boxed_far (c1.set _) (p := ⟨w.heap.size + 1 + 1, 0, none⟩) (by simp <;> omega) _) ((boxed_far c2 (p := ⟨w.heap.size + 1, 0, none⟩) (by simp) _).set _)
          ((hbelow _ _ (by omega)).setCell (p := ⟨w.heap.size + 1 + 1, 0, none⟩) (by simp; omega) _) HR.out (by omega) (by rw [HG.out]; simp [Np.goodFrom, h1, h2, hx1, h3, e])
    case done =>
      rintro D S W hD hSD hsub ⟨hS, c0, c1, c2, hg, hB⟩ hK
      have c0c := c0.cell
      have c0f := c0.frozen
      have hend : Np.goodFrom (Np.back t.data.toList) 0 false = true := by rw [hg.2 [] (by simp)]; rfl
      have hDne : w.heap.size ≠ D := fun e => hSD ((hS _).2 (.inl e.symm))
      clear hg
      have HE := Lib.hid hend
      clear hend
      gi_wp2
      have hK' : (W.setCell ⟨w.heap.size, 0, none⟩ (.bool true)).heap[D]? = some (.deferred (some [])) := (Below.heap_setCell _ _ _ _ (by simpa using hDne.symm)).trans hK
      have c5 := (boxed_putObj (c0.set (.bool true)) hDne (.deferred none)).cell
      exact endM1 hK' (v := .bool true) (by simp [results, Tryz.results59, go_sem, c5]) ⟨by rw [HV.out, HE.out], below_putObj (hB.setCell (Nat.le_refl _) _) (by simp at hD; omega) _⟩
    case stop =>
      rintro D c pre S W hD hSD hsub hpre ⟨rfl, hS, c0, hg, hB⟩ hK
      have hDne : w.heap.size ≠ D := fun e => hSD ((hS _).2 (.inl e.symm))
      have HE := Lib.hid hg
      clear hg
      gi_wp2
      have c5 := (boxed_putObj c0 hDne (.deferred none)).cell
      exact endM1 hK (v := .bool false) (by simp [results, Tryz.results59, go_sem, c5]) ⟨by rw [HV.out, HE.out], below_putObj hB (by simp at hD; omega) _⟩

theorem nameValid_any (t : ByteArray) (ht : t.size ≤ 140737488355328) (w : World) :
    Calls Tryz.prog 24 #[.string t] w fun e w' => e = .returned (.bool (Np.validName t.data.toList)) ∧ Below w.heap.size w w' := by
  go_enter Tryz.func24, Tryz.ntmps24
  go_wp2_with (go_at_call 59; refine (valid_any _ ht _).mono ?_; rintro e w' ⟨rfl, hb⟩)
  go_ret
  exact ⟨rfl, hb⟩
end Go.Proofs.YtnbolgdccdnjeaaGreatDoor.D
