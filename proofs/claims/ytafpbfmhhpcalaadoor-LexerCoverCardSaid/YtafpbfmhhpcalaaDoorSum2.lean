/- sign.sum. -/
import Derived.Test.YtafpbfmhhpcalaaDoorSum
import Derived.Lib.ConvBytes
namespace Go.Proofs.YtafpbfmhhpcalaaDoor
open Go.RowKit
def Np.strInts (s : ByteArray) : List Int := s.data.toList.map fun c => (c.toNat : Int)
/-- The sum: a number of the bytes, the zone, the key and the window. -/
def Np.sum (bs : List Int) (z : ByteArray) (n a f u : Int) : Int := Np.dig (Np.dig (Np.dig (Np.dig 14695981039346656037 bs) [(z.size : Int)]) (Np.strInts z)) ([n, a, f, u].flatMap fun n => (List.range 8).map (Np.byte8 n))
theorem alloc2_at (w : World) (o1 o2 : Obj) : ((w.alloc o1).alloc o2).heap[w.heap.size + 1]? = some o2 := by
  have := World.alloc_heap_new (w.alloc o1) o2
  rwa [World.size_alloc] at this
theorem bytesAt_new (w : World) (b g : Nat) (hg : g = w.heap.size) (hb : b < w.heap.size) (bs : List Int) (t : TypeId) (hl : bs.length ≤ 140737488355328) : BytesAt (w.alloc (.cells (bs.map (Value.int .u8)).toArray t)) b (.slice (some ⟨g, 0, none⟩) bs.length bs.length) bs := by
  subst hg
  refine ⟨_, _, rfl, hl, Nat.le_refl _, fun i x hx => ⟨w.heap.size, 0, rfl, by omega, by simp, ?_⟩⟩
  unfold World.cell?
  simp only [World.alloc_heap_new]
  simp [hx]
theorem bytesAt_str (w : World) (b g : Nat) (hg : g = w.heap.size) (hb : b < w.heap.size) (z : ByteArray) (t : TypeId) (hl : z.size ≤ 255) : BytesAt (Lib.bytesWorld w t z) b (.slice (some ⟨g, 0, none⟩) z.size (grownCap w z.size 0 t)) (Np.strInts z) := by
  subst hg
  have hlen : (Np.strInts z).length = z.size := by simp [Np.strInts]
  refine ⟨_, grownCap w z.size 0 t, by rw [hlen], by omega, by rw [hlen]; exact grownCap_ge _ _ _ _, fun i x hx => ⟨w.heap.size, 0, rfl, by omega, by rw [Lib.bytesWorld_size]; omega, ?_⟩⟩
  have hi : i < z.size := by have := (List.getElem?_eq_some_iff.1 hx).1; omega
  rw [show (0 + i) = i by omega, Lib.bytesWorld_cell _ _ _ _ hi]
  simp [Np.strInts] at hx
  obtain ⟨c, hc, rfl⟩ := hx
  simp [List.getD, hc]
theorem ints_new (w : World) (g : Nat) (hg : g = w.heap.size) (xs : List Int) (t : TypeId) : ∀ i x, xs[i]? = some x → (w.alloc (.cells (xs.map (Value.int .i64)).toArray t)).cell? ⟨g, i, none⟩ = some (.int .i64 x) := by
  subst hg
  intro i x hx
  unfold World.cell?
  simp only [World.alloc_heap_new]
  simp [hx]
theorem Turned.below {b n : Nat} {w w' : World} (h : Turned b w w') (hn : n ≤ b) : Below n w w' := ⟨h.os, h.tape, h.output, by rw [h.size]; exact Nat.le_refl _, fun i hi => h.block i (by omega)⟩
theorem below_grown {b n : Nat} {w w' : World} (h : w.grownBy w' (some b)) (hn : n ≤ b) (hs : n ≤ w.heap.size) : Below n w w' := ⟨h.os, h.tape, h.output, h.size, fun i hi => h.block i (by omega) (fun e => by simp at e; omega)⟩
theorem below_bytes (w : World) (t : TypeId) (z : ByteArray) {n : Nat} (hn : n ≤ w.heap.size) : Below n w (Lib.bytesWorld w t z) := by
  refine ⟨?_, ?_, ?_, by rw [Lib.bytesWorld_size]; omega, fun i hi => Lib.bytesWorld_at_old _ _ _ _ (by omega)⟩ <;> (unfold Lib.bytesWorld World.freeze; rfl)
theorem BytesAt.grow {w w' : World} {b b' : Nat} {v : Value} {bs : List Int} (h : BytesAt w b v bs) (hb : Below w.heap.size w w') (hb' : w.heap.size ≤ b') : BytesAt w' b' v bs := by
  obtain ⟨A, c, hv, h1, h2, h3⟩ := h
  refine ⟨A, c, hv, h1, h2, fun i x hx => ?_⟩
  obtain ⟨k, o, hA, hk, hk', hce⟩ := h3 i x hx
  exact ⟨k, o, hA, by omega, Nat.lt_of_lt_of_le hk' hb.size, (hb.cell hk').trans hce⟩
set_option maxRecDepth 100000 in
set_option maxHeartbeats 1000000 in
theorem sum_any (v : Value) (bs : List Int) (z : ByteArray) (hz : z.size ≤ 255) (n al f u : Int) (w : World) (hv : BytesAt w w.heap.size v bs) :
    Calls Tryd.prog 40 #[v, .string z, .agg #[.int .i64 n, .int .i64 al], .int .i64 f, .int .i64 u] w fun e w' => e = .returned (.int .u64 (Np.sum bs z n al f u)) ∧ Below w.heap.size w w' := by
  have HV := Lib.hid hv
  obtain ⟨A, cap, rfl, _⟩ := hv
  have hcv : ∀ W, (convert 9 80 (.string z)).run Tryd.prog W = .ok (.slice (some ⟨W.heap.size, 0, none⟩) z.size (grownCap W z.size 0 5)) (Lib.bytesWorld W 5 z) := fun W => Lib.run_convert_string_bytes W _ _ _ z Tryd.underlying9 Tryd.underlying80 Tryd.underlying5
  have hcs : ∀ W, (Lib.bytesWorld W 5 z).heap.size = W.heap.size + 1 := fun W => Lib.bytesWorld_size _ _ _
  go_enter Tryd.func40, Tryd.ntmps40
  go_wp2_with (first
    | (go_at_call 75; have hv := HV.out; clear HV; refine (add_any (w.heap.size + 1) _ _ bs _ 128 (alloc2_at w _ _) (hv.grow (((Below.refl _ w).alloc (Nat.le_refl _) _).alloc (by simp) _) (by omega))).mono ?_; rintro e w1 ⟨rfl, ht1, hc1⟩; have hs1 := ht1.size; simp only [World.size_alloc] at hs1; have k0 : w1.cell? ⟨w.heap.size, 0, none⟩ = some (.int .i64 n) := by { rw [ht1.cell (by simp)]; go_simp }; have k1 : w1.cell? ⟨w.heap.size, 1, none⟩ = some (.int .i64 al) := by { rw [ht1.cell (by simp)]; go_simp }; have HT1 := Lib.hid ht1; have HC1 := Lib.hid hc1; clear ht1 hc1 hv)
    | (go_at_call 75; have hc1 := HC1.out; clear HC1; refine (add_any (w.heap.size + 1) _ _ [(z.size : Int)] _ 128 ((heap_alloc_old _ _ _ (by omega)).trans hc1) (bytesAt_new w1 (w.heap.size + 1) (w.heap.size + 1 + 1) hs1.symm (by omega) [(z.size : Int)] 5 (by simp))).mono ?_; rintro e w2 ⟨rfl, ht2, hc2⟩; have hs2 := ht2.size; simp only [World.size_alloc] at hs2; have k02 : w2.cell? ⟨w.heap.size, 0, none⟩ = some (.int .i64 n) := by { rw [ht2.cell (by simp)]; go_simp }; have k12 : w2.cell? ⟨w.heap.size, 1, none⟩ = some (.int .i64 al) := by { rw [ht2.cell (by simp)]; go_simp }; have HT2 := Lib.hid ht2; have HC2 := Lib.hid hc2; clear ht2 hc2 hc1)
    | (go_at_call 75; have hc2 := HC2.out; clear HC2; refine (add_any (w.heap.size + 1) _ _ (Np.strInts z) _ 128 ((Lib.bytesWorld_at_old _ _ _ _ (by omega)).trans hc2) (bytesAt_str w2 (w.heap.size + 1) _ (by omega) (by omega) z 5 (by omega))).mono ?_; rintro e w3 ⟨rfl, ht3, hc3⟩; have hs3 := ht3.size; simp only [Lib.bytesWorld_size] at hs3; have k03 : w3.cell? ⟨w.heap.size, 0, none⟩ = some (.int .i64 n) := by { rw [ht3.cell (by simp), Lib.bytesWorld_old _ _ _ _ (by simp; omega)]; exact k02 }; have k13 : w3.cell? ⟨w.heap.size, 1, none⟩ = some (.int .i64 al) := by { rw [ht3.cell (by simp), Lib.bytesWorld_old _ _ _ _ (by simp; omega)]; exact k12 }; have HT3 := Lib.hid ht3; have HC3 := Lib.hid hc3; clear ht3 hc3 hc2)
    | (go_at_call 74; have hc3 := HC3.out; clear HC3; refine (numbers_any (w.heap.size + 1) _ [n, al, f, u] _ 128 ((heap_alloc_old _ _ _ (by omega)).trans hc3) (w.heap.size + 1 + 1 + 1 + 1) (ints_new w3 _ (by omega) [n, al, f, u] 3) (by omega) (by simp; omega) (by simp)).mono ?_; rintro e w4 ⟨rfl, ht4, hc4⟩; have hs4 := ht4.size; simp only [World.size_alloc] at hs4; have d4 : w4.cell? ⟨w.heap.size + 1, 0, none⟩ = some (.int .u64 (Np.sum bs z n al f u)) := by { unfold World.cell?; rw [hc4]; rfl }; have HT4 := Lib.hid ht4; clear ht4 hc4 hc3))
  go_ret
  refine ⟨rfl, ?_⟩
  have b1 : Below w.heap.size w w1 := (((Below.refl _ w).alloc (Nat.le_refl _) _).alloc (by simp) _).trans (HT1.out.below (by omega))
  have b2 : Below w.heap.size w w2 := (b1.alloc b1.size _).trans (HT2.out.below (by omega))
  have b3 : Below w.heap.size w w3 := (b2.trans (below_bytes w2 _ z b2.size)).trans (HT3.out.below (by omega))
  exact (b3.alloc b3.size _).trans (below_grown HT4.out (by omega) (by simp; omega))
end Go.Proofs.YtafpbfmhhpcalaaDoor
