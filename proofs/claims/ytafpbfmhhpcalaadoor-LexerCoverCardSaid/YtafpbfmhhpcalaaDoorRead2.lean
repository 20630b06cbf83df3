/- How the structs of package api are read. -/
import Derived.Test.YtafpbfmhhpcalaaDoorRead
namespace Go.Proofs.YtafpbfmhhpcalaaDoor
open Go.ChangeShapes Go.WideShapes Go.ChangeAt Go.RowKit Go.Deep
theorem cellsSlDatum : Tryd.prog.cellsOf 29 = 1 := by kernel_rfl
/-- A set in four cells. -/
def RSet (W : World) (B : Nat) (e : List Value) (x : Np.DSet) : Prop := ∃ (s : ByteArray) (v : Value), s.data.toList = x.name ∧ s.size ≤ 140737488355328 ∧ SlR RDatum 3 W B v x.data ∧ e = [.string s, .int .i64 x.type, .int .i64 x.life, v]
set_option maxRecDepth 100000 in
theorem reads_datum : Reads Tryd.prog 67 3 RDatum := by
  intro H enc W base spare held fuel cs d ps h hw
  obtain ⟨hl, hf⟩ := reads_parts Tryd.underlying67 h hw
  have hl' : cs.length = 3 := hl.trans (by kernel_rfl)
  clear hl
  match cs, hl' with
  | [c0, c1, c2], _ =>
    obtain ⟨n0, d0, p0, t0, w0⟩ := hf 0 _ rfl
    have t0' : DataW.trod enc Tryd.prog W base spare held n0 9 (([c0, c1, c2].drop 0).take (Tryd.prog.cellsOf 9)) = some (d0, p0) := t0
    rw [cellsStr] at t0'
    have u0 : DataW.trod enc Tryd.prog W base spare held n0 9 [c0] = some (d0, p0) := t0'
    obtain ⟨n1, d1, p1, t1, w1⟩ := hf 1 _ rfl
    have t1' : DataW.trod enc Tryd.prog W base spare held n1 3 (([c0, c1, c2].drop 1).take (Tryd.prog.cellsOf 3)) = some (d1, p1) := t1
    rw [cellsInt] at t1'
    have u1 : DataW.trod enc Tryd.prog W base spare held n1 3 [c1] = some (d1, p1) := t1'
    obtain ⟨n2, d2, p2, t2, w2⟩ := hf 2 _ rfl
    have t2' : DataW.trod enc Tryd.prog W base spare held n2 3 (([c0, c1, c2].drop 2).take (Tryd.prog.cellsOf 3)) = some (d2, p2) := t2
    rw [cellsInt] at t2'
    have u2 : DataW.trod enc Tryd.prog W base spare held n2 3 [c2] = some (d2, p2) := t2'
    obtain ⟨_, _, s0, _, hs0, hx0⟩ := reads_string Tryd.underlying9 H enc W base spare held n0 _ _ _ u0 w0
    obtain rfl : c0 = .string s0 := by simpa using hx0
    obtain ⟨_, x1, hx1, wf1⟩ := reads_int Tryd.underlying3 H enc W base spare held n1 _ _ _ u1 w1
    obtain rfl : c1 = .int .i64 x1 := by simpa using hx1
    obtain ⟨_, x2, hx2, wf2⟩ := reads_int Tryd.underlying3 H enc W base spare held n2 _ _ _ u2 w2
    obtain rfl : c2 = .int .i64 x2 := by simpa using hx2
    exact ⟨rfl, ⟨s0.data.toList, x1, x2⟩, s0, rfl, hs0, rfl⟩
theorem reads_data : Reads Tryd.prog 29 1 (RSl RDatum 3) := reads_slice Tryd.underlying29 (by kernel_rfl) (by decide) (of_decide_eq_true (by kernel_rfl)) reads_datum
set_option maxRecDepth 100000 in
theorem reads_set : Reads Tryd.prog 31 4 RSet := by
  intro H enc W base spare held fuel cs d ps h hw
  obtain ⟨hl, hf⟩ := reads_parts Tryd.underlying31 h hw
  have hl' : cs.length = 4 := hl.trans (by kernel_rfl)
  clear hl
  match cs, hl' with
  | [c0, c1, c2, c3], _ =>
    obtain ⟨n0, d0, p0, t0, w0⟩ := hf 0 _ rfl
    have t0' : DataW.trod enc Tryd.prog W base spare held n0 9 (([c0, c1, c2, c3].drop 0).take (Tryd.prog.cellsOf 9)) = some (d0, p0) := t0
    rw [cellsStr] at t0'
    have u0 : DataW.trod enc Tryd.prog W base spare held n0 9 [c0] = some (d0, p0) := t0'
    obtain ⟨n1, d1, p1, t1, w1⟩ := hf 1 _ rfl
    have t1' : DataW.trod enc Tryd.prog W base spare held n1 3 (([c0, c1, c2, c3].drop 1).take (Tryd.prog.cellsOf 3)) = some (d1, p1) := t1
    rw [cellsInt] at t1'
    have u1 : DataW.trod enc Tryd.prog W base spare held n1 3 [c1] = some (d1, p1) := t1'
    obtain ⟨n2, d2, p2, t2, w2⟩ := hf 2 _ rfl
    have t2' : DataW.trod enc Tryd.prog W base spare held n2 3 (([c0, c1, c2, c3].drop 2).take (Tryd.prog.cellsOf 3)) = some (d2, p2) := t2
    rw [cellsInt] at t2'
    have u2 : DataW.trod enc Tryd.prog W base spare held n2 3 [c2] = some (d2, p2) := t2'
    obtain ⟨n3, d3, p3, t3, w3⟩ := hf 3 _ rfl
    have t3' : DataW.trod enc Tryd.prog W base spare held n3 29 (([c0, c1, c2, c3].drop 3).take (Tryd.prog.cellsOf 29)) = some (d3, p3) := t3
    rw [cellsSlDatum] at t3'
    have u3 : DataW.trod enc Tryd.prog W base spare held n3 29 [c3] = some (d3, p3) := t3'
    obtain ⟨_, _, s0, _, hs0, hx0⟩ := reads_string Tryd.underlying9 H enc W base spare held n0 _ _ _ u0 w0
    obtain rfl : c0 = .string s0 := by simpa using hx0
    obtain ⟨_, x1, hx1, wf1⟩ := reads_int Tryd.underlying3 H enc W base spare held n1 _ _ _ u1 w1
    obtain rfl : c1 = .int .i64 x1 := by simpa using hx1
    obtain ⟨_, x2, hx2, wf2⟩ := reads_int Tryd.underlying3 H enc W base spare held n2 _ _ _ u2 w2
    obtain rfl : c2 = .int .i64 x2 := by simpa using hx2
    obtain ⟨_, x3, v3, hx3, hsl3⟩ := reads_data H enc W base spare held n3 _ _ _ u3 w3
    obtain rfl : c3 = v3 := by simpa using hx3
    exact ⟨rfl, ⟨s0.data.toList, x1, x2, x3⟩, s0, _, rfl, hs0, hsl3, rfl⟩
set_option maxRecDepth 100000 in
theorem reads_key : Reads Tryd.prog 33 2 RKey := by
  intro H enc W base spare held fuel cs d ps h hw
  obtain ⟨hl, hf⟩ := reads_parts Tryd.underlying33 h hw
  have hl' : cs.length = 2 := hl.trans (by kernel_rfl)
  clear hl
  match cs, hl' with
  | [c0, c1], _ =>
    obtain ⟨n0, d0, p0, t0, w0⟩ := hf 0 _ rfl
    have t0' : DataW.trod enc Tryd.prog W base spare held n0 3 (([c0, c1].drop 0).take (Tryd.prog.cellsOf 3)) = some (d0, p0) := t0
    rw [cellsInt] at t0'
    have u0 : DataW.trod enc Tryd.prog W base spare held n0 3 [c0] = some (d0, p0) := t0'
    obtain ⟨n1, d1, p1, t1, w1⟩ := hf 1 _ rfl
    have t1' : DataW.trod enc Tryd.prog W base spare held n1 3 (([c0, c1].drop 1).take (Tryd.prog.cellsOf 3)) = some (d1, p1) := t1
    rw [cellsInt] at t1'
    have u1 : DataW.trod enc Tryd.prog W base spare held n1 3 [c1] = some (d1, p1) := t1'
    obtain ⟨_, x0, hx0, wf0⟩ := reads_int Tryd.underlying3 H enc W base spare held n0 _ _ _ u0 w0
    obtain rfl : c0 = .int .i64 x0 := by simpa using hx0
    obtain ⟨_, x1, hx1, wf1⟩ := reads_int Tryd.underlying3 H enc W base spare held n1 _ _ _ u1 w1
    obtain rfl : c1 = .int .i64 x1 := by simpa using hx1
    exact ⟨rfl, ⟨x0, x1⟩, rfl⟩

/-- An argument that is a struct. -/
theorem arg_struct {α : Type} {P : Program} {t : TypeId} {sz : Nat} {R : World → Nat → List Value → α → Prop} {fs : Array Field} (hs : P.underlying t = some (.struct fs)) (hR : Reads P t sz R) {H : Type} {enc : TypeId × Value → H} {W : World} {r : Reach} {base b0 : Nat} {spare : Nat → Bool} {held : Bool} {v : Value} {d : DataW H} {p : List MemPlace}
    (hv : Value.okWide P W r b0 t v) (h : DataW.Trod enc P W base spare held t v d p) (hw : ∀ n ∈ d.weights P t, n ≤ reachBytes) : ∃ (cs : List Value) (x : α), v = .agg cs.toArray ∧ R W W.heap.size cs x := by
  obtain ⟨cs, rfl, _⟩ := okWide_struct hs hv
  obtain ⟨fuel, hf⟩ := h
  obtain ⟨_, x, hx⟩ := hR H enc W base spare held fuel _ d p hf hw
  exact ⟨_, x, by simp [Value.cells], hx⟩
/-- What a row says of sizes, for one argument. -/
theorem sized_arg {H : Type} {P : Program} {ts : List TypeId} {ds : List (DataW H)} (h : (DataW.weightsEach P ts ds).all (· ≤ reachBytes) = true) {j : Nat} {t : TypeId} {d : DataW H} (ht : ts[j]? = some t) (hd : ds[j]? = some d) : ∀ n ∈ d.weights P t, n ≤ reachBytes :=
  fun n hn => by simpa using List.all_eq_true.1 h n (DataW.weights_mem_each ht hd n hn)
end Go.Proofs.YtafpbfmhhpcalaaDoor
