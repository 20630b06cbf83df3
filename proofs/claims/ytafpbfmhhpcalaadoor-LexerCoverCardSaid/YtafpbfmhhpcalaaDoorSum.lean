/- sign: the digest. -/
import Derived.Test.YtafpbfmhhpcalaaDoorBytes2
namespace Go.Proofs.YtafpbfmhhpcalaaDoor
open Go.RowKit
/-- The digest, byte by byte. -/
def Np.dig (d : Int) (bs : List Int) : Int := bs.foldl (fun d c => IntKind.u64.wrap (bits .xor .u64 d (IntKind.u64.wrap c) * 1099511628211)) d
/-- The cells from A on hold the bytes, outside of the block b. -/
def BytesAt (w : World) (b : Nat) (v : Value) (bs : List Int) : Prop := ∃ A c, v = .slice A bs.length c ∧ bs.length ≤ 140737488355328 ∧ bs.length ≤ c ∧ ∀ i x, bs[i]? = some x → ∃ k o, A = some ⟨k, o, none⟩ ∧ k ≠ b ∧ k < w.heap.size ∧ w.cell? ⟨k, o + i, none⟩ = some (.int .u8 x)
/-- Only the block b turns. -/
structure Turned (b : Nat) (w w' : World) : Prop where
  os : w'.os = w.os
  tape : w'.tape = w.tape
  output : w'.output = w.output
  size : w'.heap.size = w.heap.size
  block : ∀ i, i ≠ b → w'.heap[i]? = w.heap[i]?
theorem Turned.refl (b : Nat) (w : World) : Turned b w w := ⟨rfl, rfl, rfl, rfl, fun _ _ => rfl⟩
theorem Turned.trans {b : Nat} {u v w : World} (h : Turned b u v) (k : Turned b v w) : Turned b u w := ⟨k.os.trans h.os, k.tape.trans h.tape, k.output.trans h.output, k.size.trans h.size, fun i hi => (k.block i hi).trans (h.block i hi)⟩
theorem Turned.cell {b : Nat} {w w' : World} (h : Turned b w w') {p : Addr} (hp : p.block ≠ b) : w'.cell? p = w.cell? p := by
  unfold World.cell?
  rw [h.block _ hp]
theorem dig_snoc (d : Int) (bs : List Int) (k : Nat) (h : k < bs.length) : Np.dig d (bs.take (k + 1)) = IntKind.u64.wrap (bits .xor .u64 (Np.dig d (bs.take k)) (IntKind.u64.wrap bs[k]) * 1099511628211) := by
  rw [List.take_add_one, List.getElem?_eq_getElem h, Np.dig, List.foldl_append]
  rfl
theorem dig_append (d : Int) (a b : List Int) : Np.dig d (a ++ b) = Np.dig (Np.dig d a) b := List.foldl_append
theorem turned_set (w : World) (b : Nat) (v : Value) : Turned b w (w.setCell ⟨b, 0, none⟩ v) :=
  ⟨rfl, rfl, rfl, by simp [World.setCell], fun i hi => by simp [World.setCell, Array.getElem?_modify, Ne.symm hi]⟩
theorem heap_set {w : World} {b : Nat} {u v : Value} {t : TypeId} (h : w.heap[b]? = some (.cells #[u] t)) : (w.setCell ⟨b, 0, none⟩ v).heap[b]? = some (.cells #[v] t) := by
  simp [World.setCell, Array.getElem?_modify, h]
set_option maxRecDepth 100000 in
set_option maxHeartbeats 1000000 in
theorem add_any (b : Nat) (d : Int) (v : Value) (bs : List Int) (w : World) (t : TypeId) (hc : w.heap[b]? = some (.cells #[.int .u64 d] t)) (hv : BytesAt w b v bs) :
    Calls Tryd.prog 75 #[.pointer (some ⟨b, 0, none⟩), v] w fun e w' => e = .returned (.tuple #[]) ∧ Turned b w w' ∧ w'.heap[b]? = some (.cells #[.int .u64 (Np.dig d bs)] t) := by
  have HV := Lib.hid hv
  obtain ⟨A, cap, rfl, _⟩ := hv
  go_enter Tryd.func75, Tryd.ntmps75
  go_wp2_with fail
  go_loopw [8] (fun i wr => ∃ k : Nat, k ≤ bs.length ∧ i = .int .i64 k ∧ Turned b w wr ∧ wr.heap[b]? = some (.cells #[.int .u64 (Np.dig d (bs.take k))] t)) (fun i _ => bs.length - (intOf i).toNat)
  case atStart => exact ⟨0, by omega, rfl, Turned.refl _ _, by simpa [Np.dig] using hc⟩
  case round =>
    obtain ⟨k, hk, rfl, ht, hcr⟩ := hrel
    by_cases hlt : k < bs.length
    · obtain ⟨A', c', hA', _, _, hel⟩ := HV.out
      cases hA'
      obtain ⟨g, o, rfl, hgb, hgl, hce⟩ := hel k _ (List.getElem?_eq_getElem hlt)
      have h0 : wr.cell? ⟨g, o + k, none⟩ = some (.int .u8 bs[k]) := (ht.cell hgb).trans hce
      have h1 : wr.cell? ⟨b, 0, none⟩ = some (.int .u64 (Np.dig d (bs.take k))) := by unfold World.cell?; rw [hcr]; rfl
      have h2 : wr.frozen? ⟨b, 0, none⟩ = false := by unfold World.frozen?; rw [hcr]; rfl
      clear hel hce
      have HT := Lib.hid ht
      have HC := Lib.hid hcr
      clear ht hcr
      go_wp2_with fail
      refine ⟨⟨k + 1, by omega, rfl, HT.out.trans (turned_set _ _ _), ?_⟩, by simp [intOf]; omega⟩
      rw [heap_set HC.out]
      rw [dig_snoc d bs k hlt]
    · have : k = bs.length := by omega
      subst this
      have HT := Lib.hid ht
      have HC := Lib.hid hcr
      clear ht hcr
      go_wp2_with fail
      go_end0
      exact ⟨rfl, HT.out, by simpa using HC.out⟩

theorem grown_refl (b : Nat) (w : World) : w.grownBy w (some b) := ⟨rfl, rfl, rfl, Nat.le_refl _, fun _ _ _ => rfl⟩
theorem grown_trans {b : Nat} {u v w : World} (h : u.grownBy v (some b)) (k : v.grownBy w (some b)) : u.grownBy w (some b) :=
  ⟨k.os.trans h.os, k.tape.trans h.tape, k.output.trans h.output, Nat.le_trans h.size k.size, fun i hi hne => (k.block i (Nat.lt_of_lt_of_le hi h.size) hne).trans (h.block i hi hne)⟩
theorem Turned.grown {b : Nat} {w w' : World} (h : Turned b w w') : w.grownBy w' (some b) := ⟨h.os, h.tape, h.output, by rw [h.size]; exact Nat.le_refl _, fun i _ hne => h.block i (fun e => hne (by rw [e]))⟩
theorem grown_below {b : Nat} {w w' : World} (h : Below w.heap.size w w') : w.grownBy w' (some b) := ⟨h.os, h.tape, h.output, h.size, fun i hi _ => h.block i hi⟩
theorem grown_cell {b : Nat} {w w' : World} (h : w.grownBy w' (some b)) {p : Addr} (hp : p.block ≠ b) (hl : p.block < w.heap.size) : w'.cell? p = w.cell? p := by
  unfold World.cell?
  rw [h.block _ hl (fun e => hp (by simpa using e))]

/-- The closure of sum: numbers are added. -/
def Np.byte8 (n : Int) (i : Nat) : Int := IntKind.u64.wrap n / 2 ^ (56 - 8 * i) % 256
def Np.vals8 (n : Int) (k : Nat) : Array Value := ((List.range 8).map fun i => Value.int .u8 (if i < k then Np.byte8 n i else 0)).toArray
theorem vals8_0 (wr : World) (n : Int) : wr.alloc (.cells ((Np.vals8 n 0).setIfInBounds 0 (.int .u8 (IntKind.u64.wrap n / 72057594037927936 % 256))) 129) = wr.alloc (.cells (Np.vals8 n 1) 129) := rfl
theorem vals8_1 (wr : World) (n : Int) : wr.alloc (.cells ((Np.vals8 n 1).setIfInBounds 1 (.int .u8 (IntKind.u64.wrap n / 281474976710656 % 256))) 129) = wr.alloc (.cells (Np.vals8 n 2) 129) := rfl
theorem vals8_2 (wr : World) (n : Int) : wr.alloc (.cells ((Np.vals8 n 2).setIfInBounds 2 (.int .u8 (IntKind.u64.wrap n / 1099511627776 % 256))) 129) = wr.alloc (.cells (Np.vals8 n 3) 129) := rfl
theorem vals8_3 (wr : World) (n : Int) : wr.alloc (.cells ((Np.vals8 n 3).setIfInBounds 3 (.int .u8 (IntKind.u64.wrap n / 4294967296 % 256))) 129) = wr.alloc (.cells (Np.vals8 n 4) 129) := rfl
theorem vals8_4 (wr : World) (n : Int) : wr.alloc (.cells ((Np.vals8 n 4).setIfInBounds 4 (.int .u8 (IntKind.u64.wrap n / 16777216 % 256))) 129) = wr.alloc (.cells (Np.vals8 n 5) 129) := rfl
theorem vals8_5 (wr : World) (n : Int) : wr.alloc (.cells ((Np.vals8 n 5).setIfInBounds 5 (.int .u8 (IntKind.u64.wrap n / 65536 % 256))) 129) = wr.alloc (.cells (Np.vals8 n 6) 129) := rfl
theorem vals8_6 (wr : World) (n : Int) : wr.alloc (.cells ((Np.vals8 n 6).setIfInBounds 6 (.int .u8 (IntKind.u64.wrap n / 256 % 256))) 129) = wr.alloc (.cells (Np.vals8 n 7) 129) := rfl
theorem vals8_7 (wr : World) (n : Int) : wr.alloc (.cells ((Np.vals8 n 7).setIfInBounds 7 (.int .u8 (IntKind.u64.wrap n % 256))) 129) = wr.alloc (.cells (Np.vals8 n 8) 129) := by
  rw [← Int.ediv_one (IntKind.u64.wrap n)]
  rfl
theorem vals8_at (wr : World) (b : Nat) (n : Int) (h : b < wr.heap.size) : BytesAt (wr.alloc (.cells (Np.vals8 n 8) 129)) b (.slice (some ⟨wr.heap.size, 0, none⟩) 8 8) ((List.range 8).map (Np.byte8 n)) := by
  refine ⟨_, 8, rfl, by simp, by simp, fun i x hx => ⟨wr.heap.size, 0, rfl, by omega, by simp, ?_⟩⟩
  have hi : i < 8 := by have := (List.getElem?_eq_some_iff.1 hx).1; simpa using this
  simp [hi] at hx
  subst hx
  have : (Np.vals8 n 8)[i]? = some (.int .u8 (Np.byte8 n i)) := by simp [Np.vals8, hi]
  unfold World.cell?
  simp only [World.alloc_heap_new]
  simpa using this
set_option maxRecDepth 100000 in
set_option maxHeartbeats 1000000 in
theorem numbers_any (b : Nat) (d : Int) (xs : List Int) (w : World) (t : TypeId) (hc : w.heap[b]? = some (.cells #[.int .u64 d] t)) (A0 : Nat) (hv : ∀ i x, xs[i]? = some x → w.cell? ⟨A0, i, none⟩ = some (.int .i64 x)) (hA : A0 ≠ b) (hA' : A0 < w.heap.size) (hl : xs.length ≤ 100) :
    Calls Tryd.prog 74 #[.slice (some ⟨A0, 0, none⟩) xs.length xs.length, .pointer (some ⟨b, 0, none⟩)] w fun e w' => e = .returned (.tuple #[]) ∧ w.grownBy w' (some b) ∧ w'.heap[b]? = some (.cells #[.int .u64 (Np.dig d (xs.flatMap fun n => (List.range 8).map (Np.byte8 n)))] t) := by
  have hbl : b < w.heap.size := (Array.getElem?_eq_some_iff.1 hc).1
  have HV := Lib.hid hv
  clear hv
  go_enter Tryd.func74, Tryd.ntmps74
  go_wp2_with fail
  go_loopw [9] (fun i wr => ∃ k : Nat, k ≤ xs.length ∧ i = .int .i64 k ∧ w.grownBy wr (some b) ∧ wr.heap[b]? = some (.cells #[.int .u64 (Np.dig d ((xs.take k).flatMap fun n => (List.range 8).map (Np.byte8 n)))] t)) (fun i _ => xs.length - (intOf i).toNat)
  case atStart => exact ⟨0, by omega, rfl, grown_refl _ _, by simpa [Np.dig] using hc⟩
  case round =>
    obtain ⟨k, hk, rfl, ht, hcr⟩ := hrel
    have hsz := ht.size
    by_cases hlt : k < xs.length
    · have h0 : wr.cell? ⟨A0, k, none⟩ = some (.int .i64 xs[k]) := (grown_cell ht hA hA').trans (HV.out k _ (List.getElem?_eq_getElem hlt))
      have HT := Lib.hid ht
      have HC := Lib.hid hcr
      clear ht hcr
      go_wp2_with fail
      go_loopw [13] (fun i wi => ∃ j : Nat, j ≤ 8 ∧ i = .int .i64 j ∧ wi = wr.alloc (.cells (Np.vals8 xs[k] j) 129)) (fun i _ => 8 - (intOf i).toNat)
      case atStart => exact ⟨0, by omega, rfl, rfl⟩
      case round =>
        obtain ⟨j, hj, rfl, rfl⟩ := hrel
        rcases (by omega : j = 0 ∨ j = 1 ∨ j = 2 ∨ j = 3 ∨ j = 4 ∨ j = 5 ∨ j = 6 ∨ j = 7 ∨ j = 8) with rfl | rfl | rfl | rfl | rfl | rfl | rfl | rfl | rfl
        · go_wp2_with fail
          exact ⟨⟨1, by omega, rfl, vals8_0 wr xs[k]⟩, by simp [intOf]⟩
        · go_wp2_with fail
          exact ⟨⟨2, by omega, rfl, vals8_1 wr xs[k]⟩, by simp [intOf]⟩
        · go_wp2_with fail
          exact ⟨⟨3, by omega, rfl, vals8_2 wr xs[k]⟩, by simp [intOf]⟩
        · go_wp2_with fail
          exact ⟨⟨4, by omega, rfl, vals8_3 wr xs[k]⟩, by simp [intOf]⟩
        · go_wp2_with fail
          exact ⟨⟨5, by omega, rfl, vals8_4 wr xs[k]⟩, by simp [intOf]⟩
        · go_wp2_with fail
          exact ⟨⟨6, by omega, rfl, vals8_5 wr xs[k]⟩, by simp [intOf]⟩
        · go_wp2_with fail
          exact ⟨⟨7, by omega, rfl, vals8_6 wr xs[k]⟩, by simp [intOf]⟩
        · go_wp2_with fail
          exact ⟨⟨8, by omega, rfl, vals8_7 wr xs[k]⟩, by simp [intOf]⟩
        · go_wp2_with (go_at_call 75; refine (add_any b _ _ ((List.range 8).map (Np.byte8 xs[k])) _ t ((heap_alloc_old _ _ _ (by omega)).trans HC.out) (vals8_at wr b xs[k] (by omega))).mono ?_; rintro e w' ⟨rfl, ht1, hc1⟩; have HT1 := Lib.hid ht1; have HC1 := Lib.hid hc1; clear ht1 hc1)
          refine ⟨⟨k + 1, by omega, rfl, grown_trans HT.out (grown_trans (grown_below ((Below.refl _ wr).alloc (Nat.le_refl _) _)) HT1.out.grown), ?_⟩, by simp [intOf]; omega⟩
          rw [HC1.out, List.take_add_one, List.getElem?_eq_getElem hlt, List.flatMap_append, dig_append]
          simp
    · have : k = xs.length := by omega
      subst this
      have HT := Lib.hid ht
      have HC := Lib.hid hcr
      clear ht hcr
      go_wp2_with fail
      go_end0
      exact ⟨rfl, HT.out, by simpa using HC.out⟩
end Go.Proofs.YtafpbfmhhpcalaaDoor
