/- Words for memory that only grows, and a region that draws its order while its calls make memory. No condition. -/
import Derived.WalkKit
import Derived.WalkSpells
import Derived.WalkLawsBesides
import Derived.Deep.QuietTactic
import Derived.BigQuiet
import Derived.Deep.Draws
import Derived.Lib.Hide
import Derived.BigGuardPart
import Derived.StillTailTactics
import Derived.Deep.Light
namespace Go.Proofs.YtnbolgdccdnjeaaGreatDoor
open Go.RowKit

/-- A world that has grown out of w: nothing that lay in w has turned. -/
def Grow (w : World) : Type := { x : World // Below w.heap.size w x }
def Grow.w {w : World} (g : Grow w) : World := g.1
theorem Grow.below {w : World} (g : Grow w) : Below w.heap.size w g.w := g.2
instance (w : World) : Nonempty (Grow w) := ⟨⟨w, Below.refl _ _⟩⟩
theorem Grow.cell {w : World} (g : Grow w) (p : Addr) (h : p.block < w.heap.size) : g.w.cell? p = w.cell? p := g.2.cell h
theorem Grow.frozen {w : World} (g : Grow w) (p : Addr) (h : p.block < w.heap.size) : g.w.frozen? p = w.frozen? p := g.2.frozen h
theorem Grow.size {w : World} (g : Grow w) : w.heap.size ≤ g.w.heap.size := g.2.size

def Grows (w : World) (w' : World) : Prop := ∃ g : Grow w, w' = g.w
theorem Grows.of {w w' : World} (h : Below w.heap.size w w') : Grows w w' := ⟨⟨w', h⟩, rfl⟩

/-- A callee's contract, met in a world that has grown. -/
theorem Calls.grow_of {P : Program} {f : FuncId} {args : Array Value} {w : World} {g : Grow w} {v : Value}
    (h : Calls P f args g.w fun e w' => e = .returned v ∧ Below g.w.heap.size g.w w') : Calls P f args g.w fun e w'' => e = .returned v ∧ ∃ g' : Grow w, w'' = g'.w :=
  h.mono fun _ w' ⟨he, hm⟩ => ⟨he, ⟨w', g.2.trans (hm.mono g.2.size)⟩, rfl⟩
theorem Calls.grow_same {P : Program} {f : FuncId} {args : Array Value} {w : World} {g : Grow w} {v : Value}
    (h : Calls P f args g.w fun e w' => e = .returned v ∧ g.w = w') : Calls P f args g.w fun e w'' => e = .returned v ∧ ∃ g' : Grow w, w'' = g'.w :=
  h.mono fun _ _ ⟨he, hm⟩ => ⟨he, g, hm.symm⟩

section
variable {P : Program}
theorem wp_region_grow {id : Nat} {Q : Exit → Act → World → Prop} {a : Act} {w : World} {l : List Oper} (hm : P.follows .mixedOrders = true) (hB : Region.lexB .any l.toArray = true)
    (h : wpQuiet P l.toArray (fun w' => ∃ g : Grow w, w' = g.w) (fun a' => ∀ w', (∃ g : Grow w, w' = g.w) → Q .normal a' w') l a) : (Code.region id l.toArray true).wp P Q a w :=
  wp_region_quiet (C := fun w' => ∃ g : Grow w, w' = g.w) hm hB ⟨⟨_, (Below.refl w.heap.size w).drew⟩, rfl⟩ (by simpa using h)
end

/-- All that lay below reads as it did: the two rules that the walk wants behind a call. -/
theorem bcell {W w1 : World} (hb : Below W.heap.size W w1) : (∀ b o, b < W.heap.size → w1.cell? ⟨b, o, none⟩ = W.cell? ⟨b, o, none⟩) ∧ (∀ b o, b < W.heap.size → w1.frozen? ⟨b, o, none⟩ = W.frozen? ⟨b, o, none⟩) :=
  ⟨fun b o h => hb.cell (p := ⟨b, o, none⟩) h, fun b o h => hb.frozen (p := ⟨b, o, none⟩) h⟩

theorem ret_bool {a b : Bool} (h : a = b) : Ending.returned (.bool a) = .returned (.bool b) := by rw [h]
theorem ret_int {k : IntKind} {a b : Int} (h : a = b) : Ending.returned (.int k a) = .returned (.int k b) := by rw [h]

/-! Bytes of a string. -/
theorem size_list (s : ByteArray) : s.data.toList.length = s.size := rfl
theorem get_list (s : ByteArray) (k : Nat) (h : k < s.size) : s.data.toList[k]? = some s[k] := by
  rw [List.getElem?_eq_getElem (by rw [size_list]; exact h)]; rfl
theorem head_list (s : ByteArray) (h : 0 < s.size) : s.data.toList.head? = some s[0] := by
  rw [List.head?_eq_getElem?]; exact get_list s 0 h
theorem last_list (s : ByteArray) (h : s.size - 1 < s.size) : s.data.toList.getLast? = some s[s.size - 1] := by
  rw [List.getLast?_eq_getElem?, size_list]; exact get_list s _ h
theorem take_snoc (s : ByteArray) (k : Nat) (h : k < s.size) : s.data.toList.take (k + 1) = s.data.toList.take k ++ [s[k]] := by
  rw [List.take_succ_eq_append_getElem (by simpa using h)]; rfl
theorem take_all (s : ByteArray) (k : Nat) (h : s.size ≤ k) : s.data.toList.take k = s.data.toList := List.take_of_length_le (by rw [size_list]; exact h)
theorem u8_eq (c : UInt8) (n : Nat) (hn : n < 256) : (c == UInt8.ofNat n) = decide ((c.toNat : Int) = n) := by
  rw [Bool.eq_iff_iff]
  simp only [beq_iff_eq, decide_eq_true_eq]
  constructor
  · rintro rfl; simp; omega
  · intro h; apply UInt8.toNat_inj.1; simp; omega
theorem u8_bd (c : UInt8) : 0 ≤ (c.toNat : Int) ∧ (c.toNat : Int) ≤ 255 := by have := UInt8.toNat_lt c; omega
theorem str_ext {s t : ByteArray} (h : s.data.toList = t.data.toList) : s = t := by
  cases s; cases t; simp only at h ⊢; congr 1; exact Array.toList_inj.1 h

theorem ext_list (s : ByteArray) (i j : Nat) : (s.extract i j).data.toList = (s.data.toList.take j).drop i := by
  rw [ByteArray.data_extract]; simp [Array.toList_extract, List.extract_eq_take_drop, List.drop_take]
theorem ext_from (s : ByteArray) (i : Nat) : (s.extract i s.size).data.toList = s.data.toList.drop i := by
  rw [ext_list, List.take_of_length_le (by rw [size_list]; exact Nat.le_refl _)]
theorem ext_to (s : ByteArray) (j : Nat) : (s.extract 0 j).data.toList = s.data.toList.take j := by rw [ext_list]; rfl

/-- A region that draws: its first n operations read and call quietly; the rest follow in one order. -/
theorem wp_region_tail {P : Program} {id : Nat} {Q : Exit → Act → World → Prop} {a : Act} {w : World} {l : List Oper} (n : Nat) (hm : P.follows .mixedOrders = true) (hB : Region.lexTailB .any l.toArray n = true)
    (h : wpStill P l.toArray w.drew (fun a' => wpList P l.toArray Q (l.drop n) a' w.drew) (l.take n) a) : (Code.region id l.toArray true).wp P Q a w := wp_region_still_tail n hm hB h
theorem Calls.still_same {P : Program} {f : FuncId} {args : Array Value} {w : World} {v : Value} (h : Calls P f args w fun e w' => e = .returned v ∧ w = w') : Calls P f args w fun e w'' => e = .returned v ∧ w'' = w :=
  h.mono fun _ _ ⟨he, hw⟩ => ⟨he, hw.symm⟩

/-! ### Slices that lie below block B: element i is a row of sz cells. -/
/-- The cells of a list of values, from an address on. -/
def CellsAt (w : World) (b o : Nat) (e : List Value) : Prop := ∀ j v, e[j]? = some v → w.cell? ⟨b, o + j, none⟩ = some v
theorem CellsAt.keep {w w' : World} {b o : Nat} {e : List Value} {B : Nat} (h : CellsAt w b o e) (hb : Below B w w') (hB : b < B) : CellsAt w' b o e :=
  fun j v hj => (hb.cell (p := ⟨b, o + j, none⟩) hB).trans (h j v hj)

/-- The slice value v reads as the list xs, each element by R. -/
def SlR {α : Type} (R : World → Nat → List Value → α → Prop) (sz : Nat) (w : World) (B : Nat) (v : Value) (xs : List α) : Prop :=
  ∃ (A : Option Addr) (c : Nat), v = .slice A xs.length c ∧ xs.length ≤ c ∧ xs.length ≤ 140737488355328 ∧ ∀ i x, xs[i]? = some x → ∃ b o e, A = some ⟨b, o, none⟩ ∧ b < B ∧ e.length = sz ∧ CellsAt w b (o + i * sz) e ∧ R w B e x
/-- R speaks of what lies below B alone. -/
def KeptR {α : Type} (R : World → Nat → List Value → α → Prop) : Prop := ∀ w w' B e x, R w B e x → Below B w w' → R w' B e x
theorem SlR.keep {α : Type} {R : World → Nat → List Value → α → Prop} {sz : Nat} {w w' : World} {B : Nat} {v : Value} {xs : List α} (hR : KeptR R) (h : SlR R sz w B v xs) (hb : Below B w w') : SlR R sz w' B v xs := by
  obtain ⟨A, c, hv, hc, hl, he⟩ := h
  refine ⟨A, c, hv, hc, hl, fun i x hx => ?_⟩
  obtain ⟨b, o, e, hA, hB, hel, hce, hr⟩ := he i x hx
  exact ⟨b, o, e, hA, hB, hel, hce.keep hb hB, hR _ _ _ _ _ hr hb⟩
/-- R may be read at a greater bound. -/
def MoreR {α : Type} (R : World → Nat → List Value → α → Prop) : Prop := ∀ w B B' e x, R w B e x → B ≤ B' → R w B' e x
theorem SlR.more {α : Type} {R : World → Nat → List Value → α → Prop} {sz : Nat} {w : World} {B B' : Nat} {v : Value} {xs : List α} (hR : MoreR R) (h : SlR R sz w B v xs) (hB : B ≤ B') : SlR R sz w B' v xs := by
  obtain ⟨A, c, hv, hc, hl, he⟩ := h
  refine ⟨A, c, hv, hc, hl, fun i x hx => ?_⟩
  obtain ⟨b, o, e, hA, hb, hel, hce, hr⟩ := he i x hx
  exact ⟨b, o, e, hA, by omega, hel, hce, hR _ _ _ _ _ hr hB⟩

end Go.Proofs.YtnbolgdccdnjeaaGreatDoor
