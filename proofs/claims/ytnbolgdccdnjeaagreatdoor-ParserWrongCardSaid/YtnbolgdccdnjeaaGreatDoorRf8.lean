/- Contracts of the reference printer: Write, tokens. -/
import Derived.Test.YtnbolgdccdnjeaaGreatDoorRf0
import Derived.Test.YtnbolgdccdnjeaaGreatDoorBA
namespace Go.Proofs.YtnbolgdccdnjeaaGreatDoor
open Go.RowKit
theorem refDec (n : Int) (n0 : 0 ≤ n) (n1 : n ≤ 1000000) (w : World) : Calls Tryz.prog 122 #[.int .i64 n] w fun e w' => e = .returned (strs (Np.decimal n.toNat)) ∧ Below w.heap.size w w' := by
  obtain ⟨k, rfl⟩ := Int.eq_ofNat_of_zero_le n0
  refine (decimal_strs k (by omega) w).mono ?_
  rintro e w' ⟨rfl, rfl⟩
  exact ⟨rfl, Below.refl _ _⟩
set_option maxRecDepth 100000 in
set_option maxHeartbeats 2000000 in
theorem refWrite_any (t : Int) (h1 : 1 ≤ t) (h7 : t ≤ 7) (x : List UInt8) (hx : x.length ≤ 1000) (n m : Int) (n0 : 0 ≤ n) (n1 : n ≤ 1000000) (m0 : 0 ≤ m) (m1 : m ≤ 1000000) (w : World) :
    Calls Tryz.prog 123 #[.int .i64 t, .agg #[strs x, .int .i64 n, .int .i64 m]] w fun e w' => e = .returned (strs (Np.datumText t ⟨x, n, m⟩)) ∧ Below w.heap.size w w' := by
  have HW : Hid (∀ o, Below w.heap.size w (w.alloc o)) := Lib.hid (fun o => (Below.refl _ w).alloc (Nat.le_refl _) _)
  have ht : t = 1 ∨ (t = 2 ∨ t = 3) ∨ t = 5 ∨ (t = 4 ∨ t = 6 ∨ t = 7) := by omega
  rcases ht with rfl | ht | rfl | ht
  · go_enter Tryz.func123, Tryz.ntmps123
    go_wp2_with fail
    refine (refDec n n0 n1 _).mono ?_
    rintro e w1 ⟨rfl, hb⟩
    have HB := Lib.hid ((HW.out _).trans (hb.mono (by simp)))
    clear hb
    go_wp2_with fail
    go_ret
    exact ⟨rfl, HB.out⟩
  · have hd : Np.datumText t ⟨x, n, m⟩ = x := by rcases ht with rfl | rfl <;> rfl
    rw [hd]
    clear hd
    rcases ht with rfl | rfl
    all_goals
      go_enter Tryz.func123, Tryz.ntmps123
      go_wp2_with fail
      go_ret
      exact ⟨rfl, HW.out _⟩
  · have hs1 : ¬ 9223372036854775807 < 1 + x.length := by omega
    have hs2 : ¬ 9223372036854775807 < 1 + x.length + 1 := by omega
    go_enter Tryz.func123, Tryz.ntmps123
    go_wp2_with fail
    go_ret
    refine ⟨?_, HW.out _⟩
    exact congrArg _ (strs_app3 [34] x [34])
  · have hd : Np.datumText t ⟨x, n, m⟩ = Np.decimal n.toNat ++ [32] ++ Np.decimal m.toNat := by rcases ht with rfl | rfl | rfl <;> simp [Np.datumText]
    rw [hd]
    have l1 := Np.decimal_bd 6 n.toNat (by omega)
    have l2 := Np.decimal_bd 6 m.toNat (by omega)
    generalize hA : Np.decimal n.toNat = A
    generalize hB : Np.decimal m.toNat = B
    rw [hA] at l1
    rw [hB] at l2
    have HA := Lib.hid hA
    have HBB := Lib.hid hB
    clear hA hB hd
    have hs1 : ¬ 9223372036854775807 < A.length + 1 := by omega
    have hs2 : ¬ 9223372036854775807 < A.length + 1 + B.length := by omega
    rcases ht with rfl | rfl | rfl
    all_goals
      go_enter Tryz.func123, Tryz.ntmps123
      go_wp2_with fail
      have hb1 := HW.out (.cells #[strs x, .int .i64 n, .int .i64 m] 43)
      have p0 := World.cell?_alloc_new w #[strs x, .int .i64 n, .int .i64 m] 43 0
      have p1 := World.cell?_alloc_new w #[strs x, .int .i64 n, .int .i64 m] 43 1
      have p2 := World.cell?_alloc_new w #[strs x, .int .i64 n, .int .i64 m] 43 2
      have hz : w.heap.size < (w.alloc (.cells #[strs x, .int .i64 n, .int .i64 m] 43)).heap.size := by simp
      generalize w.alloc (.cells #[strs x, .int .i64 n, .int .i64 m] 43) = wa at hb1 p0 p1 p2 hz ⊢
      have HBA := Lib.hid hb1
      clear hb1 p0
      have hgc : ∀ (g : Grow wa) (p : Addr), p.block < wa.heap.size → g.w.cell? p = wa.cell? p := fun g p h => g.cell p h
      have hcall : ∀ g : Grow wa, Calls Tryz.prog 122 #[.int .i64 n] g.w fun e w' => e = .returned (strs A) ∧ Below g.w.heap.size g.w w' := fun g => by
        rw [← HA.out]; exact refDec n n0 n1 _
      have hcall2 : ∀ g : Grow wa, Calls Tryz.prog 122 #[.int .i64 m] g.w fun e w' => e = .returned (strs B) ∧ Below g.w.heap.size g.w w' := fun g => by
        rw [← HBB.out]; exact refDec m m0 m1 _
      have HC1 := Lib.hid hcall
      have HC2 := Lib.hid hcall2
      clear hcall hcall2
      refine wp_region_grow (by kernel_rfl) (by kernel_rfl) ?_
      go_big_quiet_step (fail)
      go_big_quiet_step (fail)
      go_big_quiet_step ((exact Calls.grow_of (HC1.out _)))
      go_big_quiet_step (fail)
      go_big_quiet_step (fail)
      go_big_quiet_step (fail)
      go_big_quiet_step ((exact Calls.grow_of (HC2.out _)))
      go_big_quiet_step (fail)
      go_big_quiet_step (fail)
      refine wpQuiet_nil ?_
      rintro _ ⟨g, rfl⟩
      go_wp2_with fail
      go_ret
      exact ⟨show Ending.returned (Value.string ((⟨A.toArray⟩ : ByteArray) ++ ⟨#[32]⟩ ++ ⟨B.toArray⟩)) = _ from congrArg _ (strs_app3 A [32] B), HBA.out.trans (g.below.mono (by omega))⟩
end Go.Proofs.YtnbolgdccdnjeaaGreatDoor
