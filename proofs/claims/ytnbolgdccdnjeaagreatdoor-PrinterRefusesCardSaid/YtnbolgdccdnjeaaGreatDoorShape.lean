/- How sets, signed sets and zones lie in memory. -/
import Derived.Test.YtnbolgdccdnjeaaGreatDoorRec3
import Derived.Test.YtnbolgdccdnjeaaGreatDoorPrintSpec
namespace Go.Proofs.YtnbolgdccdnjeaaGreatDoor
open Go.RowKit
/-- A signature in six cells. -/
def RSig (_ : World) (_ : Nat) (e : List Value) (g : Np.Sig) : Prop := ∃ s : ByteArray, s.data.toList = g.zone ∧ s.size ≤ 140737488355328 ∧ e = [.string s, .int .i64 g.key, .int .i64 g.alg, .int .i64 g.frm, .int .i64 g.til, .int .u64 g.sum]
theorem rsig_kept : KeptR RSig := fun _ _ _ _ _ h _ => h
theorem rsig_more : MoreR RSig := fun _ _ _ _ _ h _ => h
/-- A signed set in five cells. -/
def RSigned (W : World) (B : Nat) (e : List Value) (x : Np.Signed) : Prop := ∃ (s : ByteArray) (v u : Value), s.data.toList = x.set.name ∧ s.size ≤ 140737488355328 ∧ SlR RDatum 3 W B v x.set.data ∧ SlR RSig 6 W B u x.sigs ∧ e = [.string s, .int .i64 x.set.type, .int .i64 x.set.life, v, u]
theorem rsigned_kept : KeptR RSigned := fun _ _ _ _ _ ⟨s, v, u, h1, h2, h3, h4, h5⟩ hb => ⟨s, v, u, h1, h2, h3.keep rdatum_kept hb, h4.keep rsig_kept hb, h5⟩
theorem rsigned_more : MoreR RSigned := fun _ _ _ _ _ ⟨s, v, u, h1, h2, h3, h4, h5⟩ hb => ⟨s, v, u, h1, h2, h3.more rdatum_more hb, h4.more rsig_more hb, h5⟩
/-- A zone in two cells. -/
def RZone (W : World) (B : Nat) (e : List Value) (z : Np.Zone) : Prop := ∃ (s : ByteArray) (v : Value), s.data.toList = z.apex ∧ s.size ≤ 140737488355328 ∧ SlR RSigned 5 W B v z.sets ∧ e = [.string s, v]
theorem rzone_kept : KeptR RZone := fun _ _ _ _ _ ⟨s, v, h1, h2, h3, h5⟩ hb => ⟨s, v, h1, h2, h3.keep rsigned_kept hb, h5⟩
theorem rzone_more : MoreR RZone := fun _ _ _ _ _ ⟨s, v, h1, h2, h3, h5⟩ hb => ⟨s, v, h1, h2, h3.more rsigned_more hb, h5⟩
theorem SlR.later {α : Type} {R : World → Nat → List Value → α → Prop} {sz : Nat} {w w' : World} {v : Value} {xs : List α} (hk : KeptR R) (hm : MoreR R) (h : SlR R sz w w.heap.size v xs) (hb : Below w.heap.size w w') : SlR R sz w' w'.heap.size v xs := (h.keep hk hb).more hm hb.size
/-- A datum at its place. -/
theorem datum_at {w : World} {B : Nat} {v : Value} {xs : List Np.Datum} (h : SlR RDatum 3 w B v xs) {k : Nat} {x : Np.Datum} (hx : xs[k]? = some x) : ∃ (b o c : Nat) (s : ByteArray), v = .slice (some ⟨b, o, none⟩) xs.length c ∧ b < B ∧ xs.length ≤ c ∧ s.data.toList = x.text ∧ s.size ≤ 140737488355328 ∧
    w.cell? ⟨b, o + k * 3, none⟩ = some (.string s) ∧ w.cell? ⟨b, o + k * 3 + 1, none⟩ = some (.int .i64 x.n) ∧ w.cell? ⟨b, o + k * 3 + 2, none⟩ = some (.int .i64 x.m) := by
  obtain ⟨A, c, rfl, hc, _, he⟩ := h
  obtain ⟨b, o, e, rfl, hb, _, hce, s, h1, h2, rfl⟩ := he k x hx
  exact ⟨b, o, c, s, rfl, hb, hc, h1, h2, by have := hce 0 _ rfl; simpa using this, hce 1 _ rfl, hce 2 _ rfl⟩
/-- A signed set at its place. -/
theorem signed_at {w : World} {B : Nat} {v : Value} {xs : List Np.Signed} (h : SlR RSigned 5 w B v xs) {k : Nat} {x : Np.Signed} (hx : xs[k]? = some x) : ∃ (b o c : Nat) (s : ByteArray) (dv sv : Value), v = .slice (some ⟨b, o, none⟩) xs.length c ∧ b < B ∧ xs.length ≤ c ∧ s.data.toList = x.set.name ∧ s.size ≤ 140737488355328 ∧ SlR RDatum 3 w B dv x.set.data ∧ SlR RSig 6 w B sv x.sigs ∧
    w.cell? ⟨b, o + k * 5, none⟩ = some (.string s) ∧ w.cell? ⟨b, o + k * 5 + 1, none⟩ = some (.int .i64 x.set.type) ∧ w.cell? ⟨b, o + k * 5 + 2, none⟩ = some (.int .i64 x.set.life) ∧ w.cell? ⟨b, o + k * 5 + 3, none⟩ = some dv ∧ w.cell? ⟨b, o + k * 5 + 4, none⟩ = some sv := by
  obtain ⟨A, c, rfl, hc, _, he⟩ := h
  obtain ⟨b, o, e, rfl, hb, _, hce, s, dv, sv, h1, h2, h3, h4, rfl⟩ := he k x hx
  exact ⟨b, o, c, s, dv, sv, rfl, hb, hc, h1, h2, h3, h4, by have := hce 0 _ rfl; simpa using this, hce 1 _ rfl, hce 2 _ rfl, hce 3 _ rfl, hce 4 _ rfl⟩
/-- A zone at its place. -/
theorem zone_at {w : World} {B : Nat} {v : Value} {xs : List Np.Zone} (h : SlR RZone 2 w B v xs) {k : Nat} {x : Np.Zone} (hx : xs[k]? = some x) : ∃ (b o c : Nat) (s : ByteArray) (sv : Value), v = .slice (some ⟨b, o, none⟩) xs.length c ∧ b < B ∧ xs.length ≤ c ∧ s.data.toList = x.apex ∧ s.size ≤ 140737488355328 ∧ SlR RSigned 5 w B sv x.sets ∧
    w.cell? ⟨b, o + k * 2, none⟩ = some (.string s) ∧ w.cell? ⟨b, o + k * 2 + 1, none⟩ = some sv := by
  obtain ⟨A, c, rfl, hc, _, he⟩ := h
  obtain ⟨b, o, e, rfl, hb, _, hce, s, sv, h1, h2, h3, rfl⟩ := he k x hx
  exact ⟨b, o, c, s, sv, rfl, hb, hc, h1, h2, h3, by have := hce 0 _ rfl; simpa using this, hce 1 _ rfl⟩
theorem slr_form {α : Type} {R : World → Nat → List Value → α → Prop} {sz : Nat} {w : World} {B : Nat} {v : Value} {xs : List α} (h : SlR R sz w B v xs) : ∃ A c, v = .slice A xs.length c ∧ xs.length ≤ c ∧ xs.length ≤ 140737488355328 := by
  obtain ⟨A, c, h1, h2, h3, _⟩ := h
  exact ⟨A, c, h1, h2, h3⟩
end Go.Proofs.YtnbolgdccdnjeaaGreatDoor
