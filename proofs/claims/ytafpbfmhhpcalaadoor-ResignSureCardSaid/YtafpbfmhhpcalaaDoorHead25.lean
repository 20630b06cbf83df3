/- The examples of layer 25 answer as the document says. -/
import Derived.Test.YtafpbfmhhpcalaaDoorResign4
import Derived.Test.YtafpbfmhhpcalaaDoorSame
namespace Go.Proofs.YtafpbfmhhpcalaaDoor
open Go.RowKit

/-- A slice that was just laid as one block. -/
theorem slr_block {α : Type} {R : World → Nat → List Value → α → Prop} {sz : Nat} {W : World} {g : Nat} {n : Nat} {xs : List α} (enc : α → List Value) (hlen : ∀ x ∈ xs, (enc x).length = sz) (hn : xs.length = n)
    (hc : ∀ j u, (xs.flatMap enc)[j]? = some u → W.cell? ⟨g, j, none⟩ = some u) (hg : g < W.heap.size) (hl : xs.length ≤ 140737488355328) (hR : ∀ x ∈ xs, R W W.heap.size (enc x) x) : SlR R sz W W.heap.size (.slice (some ⟨g, 0, none⟩) n n) xs := by
  have hpart : ∀ (l : List α) (i : Nat) (x : α) (j : Nat) (u : Value), (∀ y ∈ l, (enc y).length = sz) → l[i]? = some x → (enc x)[j]? = some u → (l.flatMap enc)[i * sz + j]? = some u := by
    intro l
    induction l with
    | nil => intro i x j u _ hi; simp at hi
    | cons y l ih =>
      intro i x j u hle hi hj
      rw [List.flatMap_cons]
      have hy : (enc y).length = sz := hle y (by simp)
      cases i with
      | zero =>
        simp at hi; subst hi
        rw [List.getElem?_append_left (by have := (List.getElem?_eq_some_iff.1 hj).1; omega)]
        simpa using hj
      | succ i =>
        rw [List.getElem?_append_right (by rw [hy, Nat.succ_mul]; omega), hy]
        have := ih i x j u (fun y hy => hle y (by simp [hy])) (by simpa using hi) hj
        rw [show (i + 1) * sz + j - sz = i * sz + j by rw [Nat.succ_mul]; omega]
        exact this
  subst hn
  refine ⟨_, _, rfl, Nat.le_refl _, hl, fun i x hx => ⟨g, 0, enc x, rfl, hg, hlen x (List.mem_of_getElem? hx), fun j u hj => ?_, hR x (List.mem_of_getElem? hx)⟩⟩
  have h1 := hc _ _ (hpart xs i x j u hlen hx hj)
  rw [show 0 + i * sz + j = i * sz + j by omega]
  exact h1

def exDatum : Np.Datum := ⟨[], 1, 0⟩
def exSig : Np.Sig := ⟨[120], 1, 1, 10, 90, 0⟩
def exSet : Np.DSet := ⟨[120], 1, 0, [exDatum]⟩

set_option maxRecDepth 100000 in
set_option maxHeartbeats 4000000 in
theorem head25_any (w : World) (hR : RulesIn w w.heap.size) :
    Calls Tryd.prog 11 #[] w fun e w' => e = .returned (.bool true) ∧ Below w.heap.size w w' := by
  have HR := Lib.hid hR
  clear hR
  go_enter Tryd.func11, Tryd.ntmps11
  go_wp2_with fail
  have b0 : (((w.alloc (.cells #[.string ⟨#[]⟩, .int .i64 1, .int .i64 0] 67)).alloc (.cells #[.string ⟨#[120]⟩, .int .i64 1, .int .i64 1, .int .i64 10, .int .i64 90, .int .u64 0] 36)).alloc (.cells #[.string ⟨#[120]⟩, .int .i64 1, .int .i64 0, .slice (some ⟨w.heap.size, 0, none⟩) 1 1, .slice (some ⟨w.heap.size + 1, 0, none⟩) 1 1] 41)).cell? ⟨w.heap.size + 1 + 1, 0, none⟩ = some (.string ⟨#[120]⟩) := by go_simp
  have b1 : (((w.alloc (.cells #[.string ⟨#[]⟩, .int .i64 1, .int .i64 0] 67)).alloc (.cells #[.string ⟨#[120]⟩, .int .i64 1, .int .i64 1, .int .i64 10, .int .i64 90, .int .u64 0] 36)).alloc (.cells #[.string ⟨#[120]⟩, .int .i64 1, .int .i64 0, .slice (some ⟨w.heap.size, 0, none⟩) 1 1, .slice (some ⟨w.heap.size + 1, 0, none⟩) 1 1] 41)).cell? ⟨w.heap.size + 1 + 1, 1, none⟩ = some (.int .i64 1) := by go_simp
  have b2 : (((w.alloc (.cells #[.string ⟨#[]⟩, .int .i64 1, .int .i64 0] 67)).alloc (.cells #[.string ⟨#[120]⟩, .int .i64 1, .int .i64 1, .int .i64 10, .int .i64 90, .int .u64 0] 36)).alloc (.cells #[.string ⟨#[120]⟩, .int .i64 1, .int .i64 0, .slice (some ⟨w.heap.size, 0, none⟩) 1 1, .slice (some ⟨w.heap.size + 1, 0, none⟩) 1 1] 41)).cell? ⟨w.heap.size + 1 + 1, 2, none⟩ = some (.int .i64 0) := by go_simp
  have b3 : (((w.alloc (.cells #[.string ⟨#[]⟩, .int .i64 1, .int .i64 0] 67)).alloc (.cells #[.string ⟨#[120]⟩, .int .i64 1, .int .i64 1, .int .i64 10, .int .i64 90, .int .u64 0] 36)).alloc (.cells #[.string ⟨#[120]⟩, .int .i64 1, .int .i64 0, .slice (some ⟨w.heap.size, 0, none⟩) 1 1, .slice (some ⟨w.heap.size + 1, 0, none⟩) 1 1] 41)).cell? ⟨w.heap.size + 1 + 1, 3, none⟩ = some (.slice (some ⟨w.heap.size, 0, none⟩) 1 1) := by go_simp
  have b4 : (((w.alloc (.cells #[.string ⟨#[]⟩, .int .i64 1, .int .i64 0] 67)).alloc (.cells #[.string ⟨#[120]⟩, .int .i64 1, .int .i64 1, .int .i64 10, .int .i64 90, .int .u64 0] 36)).alloc (.cells #[.string ⟨#[120]⟩, .int .i64 1, .int .i64 0, .slice (some ⟨w.heap.size, 0, none⟩) 1 1, .slice (some ⟨w.heap.size + 1, 0, none⟩) 1 1] 41)).cell? ⟨w.heap.size + 1 + 1, 4, none⟩ = some (.slice (some ⟨w.heap.size + 1, 0, none⟩) 1 1) := by go_simp
  have hsz : w.heap.size + 1 + 1 < (((w.alloc (.cells #[.string ⟨#[]⟩, .int .i64 1, .int .i64 0] 67)).alloc (.cells #[.string ⟨#[120]⟩, .int .i64 1, .int .i64 1, .int .i64 10, .int .i64 90, .int .u64 0] 36)).alloc (.cells #[.string ⟨#[120]⟩, .int .i64 1, .int .i64 0, .slice (some ⟨w.heap.size, 0, none⟩) 1 1, .slice (some ⟨w.heap.size + 1, 0, none⟩) 1 1] 41)).heap.size := by simp <;> omega
  have hb0 : Below w.heap.size w (((w.alloc (.cells #[.string ⟨#[]⟩, .int .i64 1, .int .i64 0] 67)).alloc (.cells #[.string ⟨#[120]⟩, .int .i64 1, .int .i64 1, .int .i64 10, .int .i64 90, .int .u64 0] 36)).alloc (.cells #[.string ⟨#[120]⟩, .int .i64 1, .int .i64 0, .slice (some ⟨w.heap.size, 0, none⟩) 1 1, .slice (some ⟨w.heap.size + 1, 0, none⟩) 1 1] 41)) := (((Below.refl _ w).alloc (Nat.le_refl _) _).alloc (by simp) _).alloc (by simp; omega) _
  have hd : SlR RDatum 3 (((w.alloc (.cells #[.string ⟨#[]⟩, .int .i64 1, .int .i64 0] 67)).alloc (.cells #[.string ⟨#[120]⟩, .int .i64 1, .int .i64 1, .int .i64 10, .int .i64 90, .int .u64 0] 36)).alloc (.cells #[.string ⟨#[120]⟩, .int .i64 1, .int .i64 0, .slice (some ⟨w.heap.size, 0, none⟩) 1 1, .slice (some ⟨w.heap.size + 1, 0, none⟩) 1 1] 41)) (((w.alloc (.cells #[.string ⟨#[]⟩, .int .i64 1, .int .i64 0] 67)).alloc (.cells #[.string ⟨#[120]⟩, .int .i64 1, .int .i64 1, .int .i64 10, .int .i64 90, .int .u64 0] 36)).alloc (.cells #[.string ⟨#[120]⟩, .int .i64 1, .int .i64 0, .slice (some ⟨w.heap.size, 0, none⟩) 1 1, .slice (some ⟨w.heap.size + 1, 0, none⟩) 1 1] 41)).heap.size (.slice (some ⟨w.heap.size, 0, none⟩) 1 1) [exDatum] := by
    refine slr_block (fun d => [.string ⟨d.text.toArray⟩, .int .i64 d.n, .int .i64 d.m]) (by simp) rfl (fun j u hj => ?_) (by simp; omega) (by simp) (fun x hx => ?_)
    · match j, hj with
      | 0, hj => simp [exDatum] at hj; subst hj; go_simp
      | 1, hj => simp [exDatum] at hj; subst hj; go_simp
      | 2, hj => simp [exDatum] at hj; subst hj; go_simp
      | j + 3, hj => simp at hj
    · simp at hx; subst hx; exact ⟨⟨#[]⟩, rfl, by decide, rfl⟩
  have hg : SlR RSig 6 (((w.alloc (.cells #[.string ⟨#[]⟩, .int .i64 1, .int .i64 0] 67)).alloc (.cells #[.string ⟨#[120]⟩, .int .i64 1, .int .i64 1, .int .i64 10, .int .i64 90, .int .u64 0] 36)).alloc (.cells #[.string ⟨#[120]⟩, .int .i64 1, .int .i64 0, .slice (some ⟨w.heap.size, 0, none⟩) 1 1, .slice (some ⟨w.heap.size + 1, 0, none⟩) 1 1] 41)) (((w.alloc (.cells #[.string ⟨#[]⟩, .int .i64 1, .int .i64 0] 67)).alloc (.cells #[.string ⟨#[120]⟩, .int .i64 1, .int .i64 1, .int .i64 10, .int .i64 90, .int .u64 0] 36)).alloc (.cells #[.string ⟨#[120]⟩, .int .i64 1, .int .i64 0, .slice (some ⟨w.heap.size, 0, none⟩) 1 1, .slice (some ⟨w.heap.size + 1, 0, none⟩) 1 1] 41)).heap.size (.slice (some ⟨w.heap.size + 1, 0, none⟩) 1 1) [exSig] := by
    refine slr_block (fun d => [.string ⟨d.zone.toArray⟩, .int .i64 d.key, .int .i64 d.alg, .int .i64 d.frm, .int .i64 d.til, .int .u64 d.sum]) (by simp) rfl (fun j u hj => ?_) (by simp <;> omega) (by simp) (fun x hx => ?_)
    · match j, hj with
      | 0, hj => simp [exSig] at hj; subst hj; go_simp
      | 1, hj => simp [exSig] at hj; subst hj; go_simp
      | 2, hj => simp [exSig] at hj; subst hj; go_simp
      | 3, hj => simp [exSig] at hj; subst hj; go_simp
      | 4, hj => simp [exSig] at hj; subst hj; go_simp
      | 5, hj => simp [exSig] at hj; subst hj; go_simp
      | j + 6, hj => simp at hj
    · simp at hx; subst hx; exact ⟨⟨#[120]⟩, rfl, by decide, rfl⟩
  have hR0 : RulesIn (((w.alloc (.cells #[.string ⟨#[]⟩, .int .i64 1, .int .i64 0] 67)).alloc (.cells #[.string ⟨#[120]⟩, .int .i64 1, .int .i64 1, .int .i64 10, .int .i64 90, .int .u64 0] 36)).alloc (.cells #[.string ⟨#[120]⟩, .int .i64 1, .int .i64 0, .slice (some ⟨w.heap.size, 0, none⟩) 1 1, .slice (some ⟨w.heap.size + 1, 0, none⟩) 1 1] 41)) (((w.alloc (.cells #[.string ⟨#[]⟩, .int .i64 1, .int .i64 0] 67)).alloc (.cells #[.string ⟨#[120]⟩, .int .i64 1, .int .i64 1, .int .i64 10, .int .i64 90, .int .u64 0] 36)).alloc (.cells #[.string ⟨#[120]⟩, .int .i64 1, .int .i64 0, .slice (some ⟨w.heap.size, 0, none⟩) 1 1, .slice (some ⟨w.heap.size + 1, 0, none⟩) 1 1] 41)).heap.size := (HR.out.keep hb0).more (by simp; omega)
  generalize ((w.alloc (.cells #[.string ⟨#[]⟩, .int .i64 1, .int .i64 0] 67)).alloc (.cells #[.string ⟨#[120]⟩, .int .i64 1, .int .i64 1, .int .i64 10, .int .i64 90, .int .u64 0] 36)).alloc (.cells #[.string ⟨#[120]⟩, .int .i64 1, .int .i64 0, .slice (some ⟨w.heap.size, 0, none⟩) 1 1, .slice (some ⟨w.heap.size + 1, 0, none⟩) 1 1] 41) = W0 at b0 b1 b2 b3 b4 hsz hb0 hd hg hR0 ⊢
  have HD := Lib.hid hd
  have HG := Lib.hid hg
  have HR0 := Lib.hid hR0
  have HB0 := Lib.hid hb0
  have s1 : Np.sureErr ⟨exSet, [exSig]⟩ 5 1000 = 0 := by decide +kernel
  have s2 : Np.sure ⟨exSet, [exSig]⟩ 5 1000 = [⟨15, 86⟩] := by decide +kernel
  have s3 : Np.sureErr ⟨exSet, [exSig]⟩ 41 1000 = 0 := by decide +kernel
  have s4 : Np.sure ⟨exSet, [exSig]⟩ 41 1000 = [] := by decide +kernel
  have s5 : Np.sureErr ⟨exSet, []⟩ 5 70 = 0 := by decide +kernel
  have s6 : Np.sure ⟨exSet, []⟩ 5 70 = [⟨0, 70⟩] := by decide +kernel
  have t1 : Np.timesErr 5 200 100 5 20 = 0 := by decide +kernel
  have t2 : Np.times 5 200 100 5 20 = [5, 72, 139] := by decide +kernel
  have t3 : Np.timesErr 5 200 36 5 20 = 0 := by decide +kernel
  have t4 : Np.timesErr 5 200 33 5 20 = 32 := by decide +kernel
  have t5 : Np.timesErr 4 200 100 5 20 = 1 := by decide +kernel
  have S1 := Lib.hid s1
  have S2 := Lib.hid s2
  have S3 := Lib.hid s3
  have S4 := Lib.hid s4
  have S5 := Lib.hid s5
  have S6 := Lib.hid s6
  have T1 := Lib.hid t1
  have T2 := Lib.hid t2
  have T3 := Lib.hid t3
  have T4 := Lib.hid t4
  have T5 := Lib.hid t5
  clear hd hg hR0 hb0 s1 s2 s3 s4 s5 s6 t1 t2 t3 t4 t5
  refine (sure_any ⟨#[120]⟩ (by decide) 1 0 _ _ [exDatum] [exSig] 5 1000 _ HR0.out HD.out HG.out).mono ?_
  rintro e w1 ⟨x1, rfl, hx1, hb1⟩
  rw [show Np.sureErr ⟨⟨[120], 1, 0, [exDatum]⟩, [exSig]⟩ 5 1000 = 0 from S1.out]
  have hz1 := hb1.size
  have w1c0 : w1.cell? ⟨w.heap.size + 1 + 1, 0, none⟩ = some (.string ⟨#[120]⟩) := (hb1.cell (p := ⟨w.heap.size + 1 + 1, 0, none⟩) (by show w.heap.size + 1 + 1 < _; omega)).trans b0
  have w1c1 : w1.cell? ⟨w.heap.size + 1 + 1, 1, none⟩ = some (.int .i64 1) := (hb1.cell (p := ⟨w.heap.size + 1 + 1, 1, none⟩) (by show w.heap.size + 1 + 1 < _; omega)).trans b1
  have w1c2 : w1.cell? ⟨w.heap.size + 1 + 1, 2, none⟩ = some (.int .i64 0) := (hb1.cell (p := ⟨w.heap.size + 1 + 1, 2, none⟩) (by show w.heap.size + 1 + 1 < _; omega)).trans b2
  have w1c3 : w1.cell? ⟨w.heap.size + 1 + 1, 3, none⟩ = some (.slice (some ⟨w.heap.size, 0, none⟩) 1 1) := (hb1.cell (p := ⟨w.heap.size + 1 + 1, 3, none⟩) (by show w.heap.size + 1 + 1 < _; omega)).trans b3
  have w1c4 : w1.cell? ⟨w.heap.size + 1 + 1, 4, none⟩ = some (.slice (some ⟨w.heap.size + 1, 0, none⟩) 1 1) := (hb1.cell (p := ⟨w.heap.size + 1 + 1, 4, none⟩) (by show w.heap.size + 1 + 1 < _; omega)).trans b4
  have HX1 := Lib.hid hx1
  have HB1 := Lib.hid hb1
  clear hx1 hb1
  go_wp2_with fail
  refine (sure_any ⟨#[120]⟩ (by decide) 1 0 _ _ [exDatum] [exSig] 41 1000 _ ((HR0.out.keep HB1.out).more (by omega)) ((HD.out.keep rdatum_kept HB1.out).more rdatum_more (by omega)) ((HG.out.keep rsig_kept HB1.out).more rsig_more (by omega))).mono ?_
  rintro e w2 ⟨x2, rfl, hx2, hb2⟩
  rw [show Np.sureErr ⟨⟨[120], 1, 0, [exDatum]⟩, [exSig]⟩ 41 1000 = 0 from S3.out]
  have hz2 := hb2.size
  have w2c0 : w2.cell? ⟨w.heap.size + 1 + 1, 0, none⟩ = some (.string ⟨#[120]⟩) := (hb2.cell (p := ⟨w.heap.size + 1 + 1, 0, none⟩) (by show w.heap.size + 1 + 1 < _; omega)).trans w1c0
  have w2c1 : w2.cell? ⟨w.heap.size + 1 + 1, 1, none⟩ = some (.int .i64 1) := (hb2.cell (p := ⟨w.heap.size + 1 + 1, 1, none⟩) (by show w.heap.size + 1 + 1 < _; omega)).trans w1c1
  have w2c2 : w2.cell? ⟨w.heap.size + 1 + 1, 2, none⟩ = some (.int .i64 0) := (hb2.cell (p := ⟨w.heap.size + 1 + 1, 2, none⟩) (by show w.heap.size + 1 + 1 < _; omega)).trans w1c2
  have w2c3 : w2.cell? ⟨w.heap.size + 1 + 1, 3, none⟩ = some (.slice (some ⟨w.heap.size, 0, none⟩) 1 1) := (hb2.cell (p := ⟨w.heap.size + 1 + 1, 3, none⟩) (by show w.heap.size + 1 + 1 < _; omega)).trans w1c3
  have w2c4 : w2.cell? ⟨w.heap.size + 1 + 1, 4, none⟩ = some (.slice (some ⟨w.heap.size + 1, 0, none⟩) 1 1) := (hb2.cell (p := ⟨w.heap.size + 1 + 1, 4, none⟩) (by show w.heap.size + 1 + 1 < _; omega)).trans w1c4
  have hB2 : Below W0.heap.size W0 w2 := HB1.out.trans (hb2.mono (by omega))
  have HX2 := Lib.hid hx2
  have HB2 := Lib.hid hB2
  have HC2 := Lib.hid hb2
  clear hx2 hb2 hB2
  go_wp2_with fail
  refine (sure_any ⟨#[120]⟩ (by decide) 1 0 _ _ [exDatum] [] 5 70 _ ((HR0.out.keep HB2.out).more (by omega)) ((HD.out.keep rdatum_kept HB2.out).more rdatum_more (by omega)) (slr_nil _ _)).mono ?_
  rintro e w3 ⟨x3, rfl, hx3, hb3⟩
  rw [show Np.sureErr ⟨⟨[120], 1, 0, [exDatum]⟩, []⟩ 5 70 = 0 from S5.out]
  have hz3 := hb3.size
  have HX3 := Lib.hid hx3
  have HC3 := Lib.hid hb3
  clear hx3 hb3
  go_wp2_with fail
  refine (times_any _ _ _ _ _ _).mono ?_
  rintro e w4 ⟨x4, rfl, hx4, hb4⟩
  rw [T1.out]
  have HX4 := Lib.hid hx4
  have HC4 := Lib.hid hb4
  have hz4 := hb4.size
  clear hx4 hb4
  go_wp2_with fail
  refine (times_any _ _ _ _ _ _).mono ?_
  rintro e w5 ⟨x5, rfl, hx5, hb5⟩
  rw [T3.out]
  have HC5 := Lib.hid hb5
  have hz5 := hb5.size
  clear hx5 hb5
  go_wp2_with fail
  refine (times_any _ _ _ _ _ _).mono ?_
  rintro e w6 ⟨x6, rfl, hx6, hb6⟩
  rw [T4.out]
  have HC6 := Lib.hid hb6
  have hz6 := hb6.size
  clear hx6 hb6
  go_wp2_with fail
  refine (times_any _ _ _ _ _ _).mono ?_
  rintro e w7 ⟨x7, rfl, hx7, hb7⟩
  rw [T5.out]
  have HC7 := Lib.hid hb7
  have hz7 := hb7.size
  clear hx7 hb7
  go_wp2_with fail
  have n1 : Below w1.heap.size w1 w7 := (((((HC2.out.trans (HC3.out.mono (by omega))).trans (HC4.out.mono (by omega))).trans (HC5.out.mono (by omega))).trans (HC6.out.mono (by omega))).trans (HC7.out.mono (by omega)))
  have n3 : Below w3.heap.size w3 w7 := (((HC4.out.trans (HC5.out.mono (by omega))).trans (HC6.out.mono (by omega))).trans (HC7.out.mono (by omega)))
  have n4 : Below w4.heap.size w4 w7 := ((HC5.out.trans (HC6.out.mono (by omega))).trans (HC7.out.mono (by omega)))
  have hBw7 : Below w.heap.size w w7 := HB0.out.trans ((HB1.out.trans (n1.mono (by omega))).mono (by omega))
  have N1 := Lib.hid n1
  have N3 := Lib.hid n3
  have N4 := Lib.hid n4
  have HW7 := Lib.hid hBw7
  obtain ⟨A2, c2, rfl, _, _, _⟩ : SlR RSpan 2 w2 w2.heap.size x2 [] := by have := HX2.out; rwa [show Np.sure ⟨⟨[120], 1, 0, [exDatum]⟩, [exSig]⟩ 41 1000 = [] from S4.out] at this
  clear n1 n3 n4 hBw7
  have m1 := SlR.more rspan_more (SlR.keep rspan_kept (SlR.keep rspan_kept HX1.out N1.out) (((Below.refl w7.heap.size w7).alloc (Nat.le_refl _) (.cells #[.int .i64 15, .int .i64 86] 70)).mono (by omega))) (by simp; omega : w1.heap.size ≤ (w7.alloc (.cells #[.int .i64 15, .int .i64 86] 70)).heap.size)
  refine (sameSpans_any _ _ _ [⟨15, 86⟩] _ m1 ?_).mono ?_
  · refine slr_block (fun d => [.int .i64 d.frm, .int .i64 d.til]) (by simp) rfl (fun j u hj => ?_) (by simp) (by simp) (fun x hx => ?_)
    · match j, hj with
      | 0, hj => simp at hj; subst hj; go_simp
      | 1, hj => simp at hj; subst hj; go_simp
      | j + 2, hj => simp at hj
    · rfl
  clear m1
  rintro e w8 ⟨rfl, hb8⟩
  rw [show decide (Np.sure ⟨⟨[120], 1, 0, [exDatum]⟩, [exSig]⟩ 5 1000 = [⟨15, 86⟩]) = true from decide_eq_true S2.out]
  have hz8 : w7.heap.size + 1 ≤ w8.heap.size := by have := hb8.size; simpa using this
  have hB8 : Below w7.heap.size w7 w8 := ((Below.refl _ w7).alloc (Nat.le_refl _) _).trans (hb8.mono (by simp))
  have HB8 := Lib.hid hB8
  clear hb8 hB8
  go_wp2_with fail
  have m3 := SlR.more rspan_more (SlR.keep rspan_kept (SlR.keep rspan_kept (SlR.keep rspan_kept HX3.out N3.out) (HB8.out.mono (by omega))) (((Below.refl w8.heap.size w8).alloc (Nat.le_refl _) (.cells #[.int .i64 0, .int .i64 70] 70)).mono (by omega))) (by simp; omega : w3.heap.size ≤ (w8.alloc (.cells #[.int .i64 0, .int .i64 70] 70)).heap.size)
  refine (sameSpans_any _ _ _ [⟨0, 70⟩] _ m3 ?_).mono ?_
  · refine slr_block (fun d => [.int .i64 d.frm, .int .i64 d.til]) (by simp) rfl (fun j u hj => ?_) (by simp) (by simp) (fun x hx => ?_)
    · match j, hj with
      | 0, hj => simp at hj; subst hj; go_simp
      | 1, hj => simp at hj; subst hj; go_simp
      | j + 2, hj => simp at hj
    · rfl
  clear m3
  rintro e w9 ⟨rfl, hb9⟩
  rw [show decide (Np.sure ⟨⟨[120], 1, 0, [exDatum]⟩, []⟩ 5 70 = [⟨0, 70⟩]) = true from decide_eq_true S6.out]
  have hz9 : w8.heap.size + 1 ≤ w9.heap.size := by have := hb9.size; simpa using this
  have hB9 : Below w7.heap.size w7 w9 := HB8.out.trans ((((Below.refl _ w8).alloc (Nat.le_refl _) _).trans (hb9.mono (by simp))).mono (by omega))
  have HB9 := Lib.hid hB9
  clear hb9 hB9
  go_wp2_with fail
  have m4 := SlR.more rint_more (SlR.keep rint_kept (SlR.keep rint_kept (SlR.keep rint_kept HX4.out N4.out) (HB9.out.mono (by omega))) (((Below.refl w9.heap.size w9).alloc (Nat.le_refl _) (.cells #[.int .i64 5, .int .i64 72, .int .i64 139] 3)).mono (by omega))) (by simp; omega : w4.heap.size ≤ (w9.alloc (.cells #[.int .i64 5, .int .i64 72, .int .i64 139] 3)).heap.size)
  refine (sameInts_any _ _ _ [5, 72, 139] _ m4 ?_).mono ?_
  · refine slr_block (fun d => [.int .i64 d]) (by simp) rfl (fun j u hj => ?_) (by simp) (by simp) (fun x hx => ?_)
    · match j, hj with
      | 0, hj => simp at hj; subst hj; go_simp
      | 1, hj => simp at hj; subst hj; go_simp
      | 2, hj => simp at hj; subst hj; go_simp
      | j + 3, hj => simp at hj
    · rfl
  clear m4
  rintro e w10 ⟨rfl, hb10⟩
  rw [show decide (Np.times 5 200 100 5 20 = [5, 72, 139]) = true from decide_eq_true T2.out]
  have HB10 := Lib.hid hb10
  clear hb10
  go_wp2_with fail
  go_ret
  refine ⟨rfl, HW7.out.trans ((HB9.out.trans (((Below.refl _ w9).alloc (Nat.le_refl _) _).trans (HB10.out.mono (by simp)) |>.mono (by omega))).mono (by omega))⟩
end Go.Proofs.YtafpbfmhhpcalaaDoor
