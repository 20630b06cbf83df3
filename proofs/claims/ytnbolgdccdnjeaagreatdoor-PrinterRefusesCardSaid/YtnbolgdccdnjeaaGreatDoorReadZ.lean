/- How zones are read. -/
import Derived.Test.YtnbolgdccdnjeaaGreatDoorRead
namespace Go.Proofs.YtnbolgdccdnjeaaGreatDoor
open Go.ChangeShapes Go.WideShapes Go.ChangeAt Go.RowKit Go.Deep
theorem cellsSlDatum : Tryz.prog.cellsOf 37 = 1 := by kernel_rfl
theorem cellsSlSig : Tryz.prog.cellsOf 36 = 1 := by kernel_rfl
theorem cellsSlSigned : Tryz.prog.cellsOf 30 = 1 := by kernel_rfl
theorem cellsU64 : Tryz.prog.cellsOf 33 = 1 := by kernel_rfl
theorem cellsSet : Tryz.prog.cellsOf 39 = 4 := by kernel_rfl
/-- A set in four cells. -/
def RSet (W : World) (B : Nat) (e : List Value) (x : Np.DSet) : Prop := ∃ (s : ByteArray) (v : Value), s.data.toList = x.name ∧ s.size ≤ 140737488355328 ∧ SlR RDatum 3 W B v x.data ∧ e = [.string s, .int .i64 x.type, .int .i64 x.life, v]
set_option maxRecDepth 100000 in
theorem reads_datum : Reads Tryz.prog 43 3 RDatum := by
  intro H enc W base spare held fuel cs d ps h hw
  obtain ⟨hl, hf⟩ := reads_parts Tryz.underlying43 h hw
  have hl' : cs.length = 3 := hl.trans (by kernel_rfl)
  clear hl
  match cs, hl' with
  | [c0, c1, c2], _ =>
    obtain ⟨n0, d0, p0, t0, w0⟩ := hf 0 _ rfl
    have t0' : DataW.trod enc Tryz.prog W base spare held n0 9 (([c0, c1, c2].drop 0).take (Tryz.prog.cellsOf 9)) = some (d0, p0) := t0
    rw [cellsStr] at t0'
    have u0 : DataW.trod enc Tryz.prog W base spare held n0 9 [c0] = some (d0, p0) := t0'
    obtain ⟨n1, d1, p1, t1, w1⟩ := hf 1 _ rfl
    have t1' : DataW.trod enc Tryz.prog W base spare held n1 3 (([c0, c1, c2].drop 1).take (Tryz.prog.cellsOf 3)) = some (d1, p1) := t1
    rw [cellsInt] at t1'
    have u1 : DataW.trod enc Tryz.prog W base spare held n1 3 [c1] = some (d1, p1) := t1'
    obtain ⟨n2, d2, p2, t2, w2⟩ := hf 2 _ rfl
    have t2' : DataW.trod enc Tryz.prog W base spare held n2 3 (([c0, c1, c2].drop 2).take (Tryz.prog.cellsOf 3)) = some (d2, p2) := t2
    rw [cellsInt] at t2'
    have u2 : DataW.trod enc Tryz.prog W base spare held n2 3 [c2] = some (d2, p2) := t2'
    obtain ⟨_, _, s0, _, hs0, hx0⟩ := reads_string Tryz.underlying9 H enc W base spare held n0 _ _ _ u0 w0
    obtain rfl : c0 = .string s0 := by simpa using hx0
    obtain ⟨_, x1, hx1, wf1⟩ := reads_int Tryz.underlying3 H enc W base spare held n1 _ _ _ u1 w1
    obtain rfl : c1 = .int .i64 x1 := by simpa using hx1
    obtain ⟨_, x2, hx2, wf2⟩ := reads_int Tryz.underlying3 H enc W base spare held n2 _ _ _ u2 w2
    obtain rfl : c2 = .int .i64 x2 := by simpa using hx2
    exact ⟨rfl, ⟨s0.data.toList, x1, x2⟩, s0, rfl, hs0, rfl⟩
theorem reads_data : Reads Tryz.prog 37 1 (RSl RDatum 3) := reads_slice Tryz.underlying37 (by kernel_rfl) (by decide) (of_decide_eq_true (by kernel_rfl)) reads_datum
set_option maxRecDepth 100000 in
theorem reads_set : Reads Tryz.prog 39 4 RSet := by
  intro H enc W base spare held fuel cs d ps h hw
  obtain ⟨hl, hf⟩ := reads_parts Tryz.underlying39 h hw
  have hl' : cs.length = 4 := hl.trans (by kernel_rfl)
  clear hl
  match cs, hl' with
  | [c0, c1, c2, c3], _ =>
    obtain ⟨n0, d0, p0, t0, w0⟩ := hf 0 _ rfl
    have t0' : DataW.trod enc Tryz.prog W base spare held n0 9 (([c0, c1, c2, c3].drop 0).take (Tryz.prog.cellsOf 9)) = some (d0, p0) := t0
    rw [cellsStr] at t0'
    have u0 : DataW.trod enc Tryz.prog W base spare held n0 9 [c0] = some (d0, p0) := t0'
    obtain ⟨n1, d1, p1, t1, w1⟩ := hf 1 _ rfl
    have t1' : DataW.trod enc Tryz.prog W base spare held n1 3 (([c0, c1, c2, c3].drop 1).take (Tryz.prog.cellsOf 3)) = some (d1, p1) := t1
    rw [cellsInt] at t1'
    have u1 : DataW.trod enc Tryz.prog W base spare held n1 3 [c1] = some (d1, p1) := t1'
    obtain ⟨n2, d2, p2, t2, w2⟩ := hf 2 _ rfl
    have t2' : DataW.trod enc Tryz.prog W base spare held n2 3 (([c0, c1, c2, c3].drop 2).take (Tryz.prog.cellsOf 3)) = some (d2, p2) := t2
    rw [cellsInt] at t2'
    have u2 : DataW.trod enc Tryz.prog W base spare held n2 3 [c2] = some (d2, p2) := t2'
    obtain ⟨n3, d3, p3, t3, w3⟩ := hf 3 _ rfl
    have t3' : DataW.trod enc Tryz.prog W base spare held n3 37 (([c0, c1, c2, c3].drop 3).take (Tryz.prog.cellsOf 37)) = some (d3, p3) := t3
    rw [cellsSlDatum] at t3'
    have u3 : DataW.trod enc Tryz.prog W base spare held n3 37 [c3] = some (d3, p3) := t3'
    obtain ⟨_, _, s0, _, hs0, hx0⟩ := reads_string Tryz.underlying9 H enc W base spare held n0 _ _ _ u0 w0
    obtain rfl : c0 = .string s0 := by simpa using hx0
    obtain ⟨_, x1, hx1, wf1⟩ := reads_int Tryz.underlying3 H enc W base spare held n1 _ _ _ u1 w1
    obtain rfl : c1 = .int .i64 x1 := by simpa using hx1
    obtain ⟨_, x2, hx2, wf2⟩ := reads_int Tryz.underlying3 H enc W base spare held n2 _ _ _ u2 w2
    obtain rfl : c2 = .int .i64 x2 := by simpa using hx2
    obtain ⟨_, x3, v3, hx3, hsl3⟩ := reads_data H enc W base spare held n3 _ _ _ u3 w3
    obtain rfl : c3 = v3 := by simpa using hx3
    exact ⟨rfl, ⟨s0.data.toList, x1, x2, x3⟩, s0, _, rfl, hs0, hsl3, rfl⟩
set_option maxRecDepth 100000 in
theorem reads_sig : Reads Tryz.prog 35 6 RSig := by
  intro H enc W base spare held fuel cs d ps h hw
  obtain ⟨hl, hf⟩ := reads_parts Tryz.underlying35 h hw
  have hl' : cs.length = 6 := hl.trans (by kernel_rfl)
  clear hl
  match cs, hl' with
  | [c0, c1, c2, c3, c4, c5], _ =>
    obtain ⟨n0, d0, p0, t0, w0⟩ := hf 0 _ rfl
    have t0' : DataW.trod enc Tryz.prog W base spare held n0 9 (([c0, c1, c2, c3, c4, c5].drop 0).take (Tryz.prog.cellsOf 9)) = some (d0, p0) := t0
    rw [cellsStr] at t0'
    have u0 : DataW.trod enc Tryz.prog W base spare held n0 9 [c0] = some (d0, p0) := t0'
    obtain ⟨n1, d1, p1, t1, w1⟩ := hf 1 _ rfl
    have t1' : DataW.trod enc Tryz.prog W base spare held n1 3 (([c0, c1, c2, c3, c4, c5].drop 1).take (Tryz.prog.cellsOf 3)) = some (d1, p1) := t1
    rw [cellsInt] at t1'
    have u1 : DataW.trod enc Tryz.prog W base spare held n1 3 [c1] = some (d1, p1) := t1'
    obtain ⟨n2, d2, p2, t2, w2⟩ := hf 2 _ rfl
    have t2' : DataW.trod enc Tryz.prog W base spare held n2 3 (([c0, c1, c2, c3, c4, c5].drop 2).take (Tryz.prog.cellsOf 3)) = some (d2, p2) := t2
    rw [cellsInt] at t2'
    have u2 : DataW.trod enc Tryz.prog W base spare held n2 3 [c2] = some (d2, p2) := t2'
    obtain ⟨n3, d3, p3, t3, w3⟩ := hf 3 _ rfl
    have t3' : DataW.trod enc Tryz.prog W base spare held n3 3 (([c0, c1, c2, c3, c4, c5].drop 3).take (Tryz.prog.cellsOf 3)) = some (d3, p3) := t3
    rw [cellsInt] at t3'
    have u3 : DataW.trod enc Tryz.prog W base spare held n3 3 [c3] = some (d3, p3) := t3'
    obtain ⟨n4, d4, p4, t4, w4⟩ := hf 4 _ rfl
    have t4' : DataW.trod enc Tryz.prog W base spare held n4 3 (([c0, c1, c2, c3, c4, c5].drop 4).take (Tryz.prog.cellsOf 3)) = some (d4, p4) := t4
    rw [cellsInt] at t4'
    have u4 : DataW.trod enc Tryz.prog W base spare held n4 3 [c4] = some (d4, p4) := t4'
    obtain ⟨n5, d5, p5, t5, w5⟩ := hf 5 _ rfl
    have t5' : DataW.trod enc Tryz.prog W base spare held n5 33 (([c0, c1, c2, c3, c4, c5].drop 5).take (Tryz.prog.cellsOf 33)) = some (d5, p5) := t5
    rw [cellsU64] at t5'
    have u5 : DataW.trod enc Tryz.prog W base spare held n5 33 [c5] = some (d5, p5) := t5'
    obtain ⟨_, _, s0, _, hs0, hx0⟩ := reads_string Tryz.underlying9 H enc W base spare held n0 _ _ _ u0 w0
    obtain rfl : c0 = .string s0 := by simpa using hx0
    obtain ⟨_, x1, hx1, wf1⟩ := reads_int Tryz.underlying3 H enc W base spare held n1 _ _ _ u1 w1
    obtain rfl : c1 = .int .i64 x1 := by simpa using hx1
    obtain ⟨_, x2, hx2, wf2⟩ := reads_int Tryz.underlying3 H enc W base spare held n2 _ _ _ u2 w2
    obtain rfl : c2 = .int .i64 x2 := by simpa using hx2
    obtain ⟨_, x3, hx3, wf3⟩ := reads_int Tryz.underlying3 H enc W base spare held n3 _ _ _ u3 w3
    obtain rfl : c3 = .int .i64 x3 := by simpa using hx3
    obtain ⟨_, x4, hx4, wf4⟩ := reads_int Tryz.underlying3 H enc W base spare held n4 _ _ _ u4 w4
    obtain rfl : c4 = .int .i64 x4 := by simpa using hx4
    obtain ⟨_, x5, hx5, wf5⟩ := reads_int Tryz.underlying33 H enc W base spare held n5 _ _ _ u5 w5
    obtain rfl : c5 = .int .u64 x5 := by simpa using hx5
    exact ⟨rfl, ⟨s0.data.toList, x1, x2, x3, x4, x5⟩, s0, rfl, hs0, rfl⟩
theorem reads_sigs : Reads Tryz.prog 36 1 (RSl RSig 6) := reads_slice Tryz.underlying36 (by kernel_rfl) (by decide) (of_decide_eq_true (by kernel_rfl)) reads_sig
set_option maxRecDepth 100000 in
theorem reads_signed : Reads Tryz.prog 41 5 RSigned := by
  intro H enc W base spare held fuel cs d ps h hw
  obtain ⟨hl, hf⟩ := reads_parts Tryz.underlying41 h hw
  have hl' : cs.length = 5 := hl.trans (by kernel_rfl)
  clear hl
  match cs, hl' with
  | [c0, c1, c2, c3, c4], _ =>
    obtain ⟨n0, d0, p0, t0, w0⟩ := hf 0 _ rfl
    have t0' : DataW.trod enc Tryz.prog W base spare held n0 39 (([c0, c1, c2, c3, c4].drop 0).take (Tryz.prog.cellsOf 39)) = some (d0, p0) := t0
    rw [cellsSet] at t0'
    have u0 : DataW.trod enc Tryz.prog W base spare held n0 39 [c0, c1, c2, c3] = some (d0, p0) := t0'
    obtain ⟨n1, d1, p1, t1, w1⟩ := hf 1 _ rfl
    have t1' : DataW.trod enc Tryz.prog W base spare held n1 36 (([c0, c1, c2, c3, c4].drop 4).take (Tryz.prog.cellsOf 36)) = some (d1, p1) := t1
    rw [cellsSlSig] at t1'
    have u1 : DataW.trod enc Tryz.prog W base spare held n1 36 [c4] = some (d1, p1) := t1'
    obtain ⟨_, x0, hx0⟩ := reads_set H enc W base spare held n0 _ _ _ u0 w0
    obtain ⟨_, x1, v1, hx1, hsl1⟩ := reads_sigs H enc W base spare held n1 _ _ _ u1 w1
    obtain rfl : c4 = v1 := by simpa using hx1
    obtain ⟨sa, va, ha, hb, hc, hd⟩ := hx0
    exact ⟨rfl, ⟨x0, x1⟩, sa, va, _, ha, hb, hc, hsl1, by rw [List.cons.injEq, List.cons.injEq, List.cons.injEq, List.cons.injEq] at hd; obtain ⟨rfl, rfl, rfl, rfl, _⟩ := hd; rfl⟩
theorem reads_signeds : Reads Tryz.prog 30 1 (RSl RSigned 5) := reads_slice Tryz.underlying30 (by kernel_rfl) (by decide) (of_decide_eq_true (by kernel_rfl)) reads_signed
set_option maxRecDepth 100000 in
theorem reads_zone : Reads Tryz.prog 32 2 RZone := by
  intro H enc W base spare held fuel cs d ps h hw
  obtain ⟨hl, hf⟩ := reads_parts Tryz.underlying32 h hw
  have hl' : cs.length = 2 := hl.trans (by kernel_rfl)
  clear hl
  match cs, hl' with
  | [c0, c1], _ =>
    obtain ⟨n0, d0, p0, t0, w0⟩ := hf 0 _ rfl
    have t0' : DataW.trod enc Tryz.prog W base spare held n0 9 (([c0, c1].drop 0).take (Tryz.prog.cellsOf 9)) = some (d0, p0) := t0
    rw [cellsStr] at t0'
    have u0 : DataW.trod enc Tryz.prog W base spare held n0 9 [c0] = some (d0, p0) := t0'
    obtain ⟨n1, d1, p1, t1, w1⟩ := hf 1 _ rfl
    have t1' : DataW.trod enc Tryz.prog W base spare held n1 30 (([c0, c1].drop 1).take (Tryz.prog.cellsOf 30)) = some (d1, p1) := t1
    rw [cellsSlSigned] at t1'
    have u1 : DataW.trod enc Tryz.prog W base spare held n1 30 [c1] = some (d1, p1) := t1'
    obtain ⟨_, _, s0, _, hs0, hx0⟩ := reads_string Tryz.underlying9 H enc W base spare held n0 _ _ _ u0 w0
    obtain rfl : c0 = .string s0 := by simpa using hx0
    obtain ⟨_, x1, v1, hx1, hsl1⟩ := reads_signeds H enc W base spare held n1 _ _ _ u1 w1
    obtain rfl : c1 = v1 := by simpa using hx1
    exact ⟨rfl, ⟨s0.data.toList, x1⟩, s0, _, rfl, hs0, hsl1, rfl⟩
theorem reads_zones : Reads Tryz.prog 22 1 (RSl RZone 2) := reads_slice Tryz.underlying22 (by kernel_rfl) (by decide) (of_decide_eq_true (by kernel_rfl)) reads_zone

/-- An argument that is a slice. -/
theorem arg_slice {α : Type} {P : Program} {t e : TypeId} {sz : Nat} {R : World → Nat → List Value → α → Prop} (hs : P.underlying t = some (.slice e)) (hR : Reads P t 1 (RSl R sz)) {H : Type} {enc : TypeId × Value → H} {W : World} {r : Reach} {base b0 : Nat} {spare : Nat → Bool} {held : Bool} {v : Value} {d : DataW H} {p : List MemPlace}
    (hv : Value.okWide P W r b0 t v) (h : DataW.Trod enc P W base spare held t v d p) (hw : ∀ n ∈ d.weights P t, n ≤ reachBytes) : ∃ xs : List α, SlR R sz W W.heap.size v xs := by
  obtain ⟨a, len, cap, rfl⟩ := okWide_slice hs hv
  obtain ⟨fuel, hf⟩ := h
  obtain ⟨_, x, u, hu, hx⟩ := hR H enc W base spare held fuel _ d p hf hw
  simp [Value.cells] at hu
  subst hu
  exact ⟨x, hx⟩

/-- An argument that is a struct. -/
theorem arg_struct {α : Type} {P : Program} {t : TypeId} {sz : Nat} {R : World → Nat → List Value → α → Prop} {fs : Array Field} (hs : P.underlying t = some (.struct fs)) (hR : Reads P t sz R) {H : Type} {enc : TypeId × Value → H} {W : World} {r : Reach} {base b0 : Nat} {spare : Nat → Bool} {held : Bool} {v : Value} {d : DataW H} {p : List MemPlace}
    (hv : Value.okWide P W r b0 t v) (h : DataW.Trod enc P W base spare held t v d p) (hw : ∀ n ∈ d.weights P t, n ≤ reachBytes) : ∃ (cs : List Value) (x : α), v = .agg cs.toArray ∧ R W W.heap.size cs x := by
  obtain ⟨cs, rfl, _⟩ := okWide_struct hs hv
  obtain ⟨fuel, hf⟩ := h
  obtain ⟨_, x, hx⟩ := hR H enc W base spare held fuel _ d p hf hw
  exact ⟨_, x, by simp [Value.cells], hx⟩
/-- What a row says of sizes, for one argument. -/
theorem sized_arg {H : Type} {P : Program} {ts : List TypeId} {ds : List (DataW H)} (h : (DataW.weightsEach P ts ds).all (· ≤ reachBytes) = true) {j : Nat} {t : TypeId} {d : DataW H} (ht : ts[j]? = some t) (hd : ds[j]? = some d) : ∀ n ∈ d.weights P t, n ≤ reachBytes :=
  fun n hn => by simpa using List.all_eq_true.1 h n (DataW.weights_mem_each ht hd n hn)
end Go.Proofs.YtnbolgdccdnjeaaGreatDoor
