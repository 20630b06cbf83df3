/- record.appendNumber. -/
import Derived.Test.YtafpbfmhhpcalaaDoorBytes
namespace Go.Proofs.YtafpbfmhhpcalaaDoor
open Go.RowKit
set_option maxRecDepth 100000 in
set_option maxHeartbeats 1000000 in
theorem appendNumber_any (base : Nat) (v : Value) (bs : List UInt8) (n : Nat) (hl : bs.length ≤ 1000000) (hn : n < 9223372036854775808) (w : World) (hb : base ≤ w.heap.size) (h : OwnB w base v bs) :
    Calls Tryd.prog 72 #[v, .int .i64 n] w (GivesB base v (bs ++ (List.range 8).map fun i => UInt8.ofNat (n / 2 ^ (56 - 8 * i))) w) := by
  obtain ⟨A, cap, rfl⟩ := ownsRow_form h
  have H := Lib.hid h
  clear h
  obtain ⟨i0, hi, hz0, hz1, hz2⟩ := info_parts Tryd.infoByte
  go_enter Tryd.func72, Tryd.ntmps72
  go_wp2_with fail
  go_loopw [0, 5] (fun vb vs wr => ∃ k : Nat, k ≤ 8 ∧ vs = .int .i64 (56 - 8 * k) ∧ Hid (OwnB wr base vb (bs ++ (List.range k).map fun i => UInt8.ofNat (n / 2 ^ (56 - 8 * i)))) ∧ Hid (Handed1 (.slice A bs.length cap) vb w wr)) (fun _ i _ => (intOf i + 8).toNat)
  case atStart => exact ⟨0, by omega, rfl, by simpa using H, Lib.hid (Handed1.refl _ _)⟩
  case round =>
    obtain ⟨k, hk, rfl, HO, HH⟩ := hrel
    obtain ⟨A1, c1, rfl⟩ := ownsRow_form HO.out
    have hsz := HH.out.grown.size
    rcases (by omega : k = 0 ∨ k = 1 ∨ k = 2 ∨ k = 3 ∨ k = 4 ∨ k = 5 ∨ k = 6 ∨ k = 7 ∨ k = 8) with rfl | rfl | rfl | rfl | rfl | rfl | rfl | rfl | rfl
    · go_wp2_with (at_builtin; refine wpList_append_own_at _ rfl _ _ 80 rfl base 5 i0 (.int .u8 0) 1 1 Tryd.underlying80 hi hz0 hz1 hz2 rfl (by decide) _ _ _ rfl (World.ownsRow.alloc HO.out _) ⟨wr.heap.size, 0, none⟩ 1 1 [_] rfl rfl (cell_one_new _ _ _) (by simp [Value.oneCell']) (by unfold maxLen; simp; omega) (by simp; omega) (by simp; omega) ?_; intro v1 w1 hown1 hg1 _ hat1; have H1 := Lib.hid (And.intro hown1 (And.intro hg1 hat1)); clear hown1 hg1 hat1)
      obtain ⟨o1, g1, a1⟩ := H1.out
      refine ⟨⟨1, by omega, rfl, Lib.hid ?_, Lib.hid (HH.out.trans ((handed_step g1 a1).of_below ((Below.refl _ wr).alloc (Nat.le_refl _) _)))⟩, by simp [intOf]⟩
      rw [List.range_succ, List.map_append, ← List.append_assoc]
      refine ownB_snoc ?_ o1
      simp
      try omega
    · go_wp2_with (at_builtin; refine wpList_append_own_at _ rfl _ _ 80 rfl base 5 i0 (.int .u8 0) 1 1 Tryd.underlying80 hi hz0 hz1 hz2 rfl (by decide) _ _ _ rfl (World.ownsRow.alloc HO.out _) ⟨wr.heap.size, 0, none⟩ 1 1 [_] rfl rfl (cell_one_new _ _ _) (by simp [Value.oneCell']) (by unfold maxLen; simp; omega) (by simp; omega) (by simp; omega) ?_; intro v1 w1 hown1 hg1 _ hat1; have H1 := Lib.hid (And.intro hown1 (And.intro hg1 hat1)); clear hown1 hg1 hat1)
      obtain ⟨o1, g1, a1⟩ := H1.out
      refine ⟨⟨2, by omega, rfl, Lib.hid ?_, Lib.hid (HH.out.trans ((handed_step g1 a1).of_below ((Below.refl _ wr).alloc (Nat.le_refl _) _)))⟩, by simp [intOf]⟩
      rw [List.range_succ, List.map_append, ← List.append_assoc]
      refine ownB_snoc ?_ o1
      simp
      try omega
    · go_wp2_with (at_builtin; refine wpList_append_own_at _ rfl _ _ 80 rfl base 5 i0 (.int .u8 0) 1 1 Tryd.underlying80 hi hz0 hz1 hz2 rfl (by decide) _ _ _ rfl (World.ownsRow.alloc HO.out _) ⟨wr.heap.size, 0, none⟩ 1 1 [_] rfl rfl (cell_one_new _ _ _) (by simp [Value.oneCell']) (by unfold maxLen; simp; omega) (by simp; omega) (by simp; omega) ?_; intro v1 w1 hown1 hg1 _ hat1; have H1 := Lib.hid (And.intro hown1 (And.intro hg1 hat1)); clear hown1 hg1 hat1)
      obtain ⟨o1, g1, a1⟩ := H1.out
      refine ⟨⟨3, by omega, rfl, Lib.hid ?_, Lib.hid (HH.out.trans ((handed_step g1 a1).of_below ((Below.refl _ wr).alloc (Nat.le_refl _) _)))⟩, by simp [intOf]⟩
      rw [List.range_succ, List.map_append, ← List.append_assoc]
      refine ownB_snoc ?_ o1
      simp
      try omega
    · go_wp2_with (at_builtin; refine wpList_append_own_at _ rfl _ _ 80 rfl base 5 i0 (.int .u8 0) 1 1 Tryd.underlying80 hi hz0 hz1 hz2 rfl (by decide) _ _ _ rfl (World.ownsRow.alloc HO.out _) ⟨wr.heap.size, 0, none⟩ 1 1 [_] rfl rfl (cell_one_new _ _ _) (by simp [Value.oneCell']) (by unfold maxLen; simp; omega) (by simp; omega) (by simp; omega) ?_; intro v1 w1 hown1 hg1 _ hat1; have H1 := Lib.hid (And.intro hown1 (And.intro hg1 hat1)); clear hown1 hg1 hat1)
      obtain ⟨o1, g1, a1⟩ := H1.out
      refine ⟨⟨4, by omega, rfl, Lib.hid ?_, Lib.hid (HH.out.trans ((handed_step g1 a1).of_below ((Below.refl _ wr).alloc (Nat.le_refl _) _)))⟩, by simp [intOf]⟩
      rw [List.range_succ, List.map_append, ← List.append_assoc]
      refine ownB_snoc ?_ o1
      simp
      try omega
    · go_wp2_with (at_builtin; refine wpList_append_own_at _ rfl _ _ 80 rfl base 5 i0 (.int .u8 0) 1 1 Tryd.underlying80 hi hz0 hz1 hz2 rfl (by decide) _ _ _ rfl (World.ownsRow.alloc HO.out _) ⟨wr.heap.size, 0, none⟩ 1 1 [_] rfl rfl (cell_one_new _ _ _) (by simp [Value.oneCell']) (by unfold maxLen; simp; omega) (by simp; omega) (by simp; omega) ?_; intro v1 w1 hown1 hg1 _ hat1; have H1 := Lib.hid (And.intro hown1 (And.intro hg1 hat1)); clear hown1 hg1 hat1)
      obtain ⟨o1, g1, a1⟩ := H1.out
      refine ⟨⟨5, by omega, rfl, Lib.hid ?_, Lib.hid (HH.out.trans ((handed_step g1 a1).of_below ((Below.refl _ wr).alloc (Nat.le_refl _) _)))⟩, by simp [intOf]⟩
      rw [List.range_succ, List.map_append, ← List.append_assoc]
      refine ownB_snoc ?_ o1
      simp
      try omega
    · go_wp2_with (at_builtin; refine wpList_append_own_at _ rfl _ _ 80 rfl base 5 i0 (.int .u8 0) 1 1 Tryd.underlying80 hi hz0 hz1 hz2 rfl (by decide) _ _ _ rfl (World.ownsRow.alloc HO.out _) ⟨wr.heap.size, 0, none⟩ 1 1 [_] rfl rfl (cell_one_new _ _ _) (by simp [Value.oneCell']) (by unfold maxLen; simp; omega) (by simp; omega) (by simp; omega) ?_; intro v1 w1 hown1 hg1 _ hat1; have H1 := Lib.hid (And.intro hown1 (And.intro hg1 hat1)); clear hown1 hg1 hat1)
      obtain ⟨o1, g1, a1⟩ := H1.out
      refine ⟨⟨6, by omega, rfl, Lib.hid ?_, Lib.hid (HH.out.trans ((handed_step g1 a1).of_below ((Below.refl _ wr).alloc (Nat.le_refl _) _)))⟩, by simp [intOf]⟩
      rw [List.range_succ, List.map_append, ← List.append_assoc]
      refine ownB_snoc ?_ o1
      simp
      try omega
    · go_wp2_with (at_builtin; refine wpList_append_own_at _ rfl _ _ 80 rfl base 5 i0 (.int .u8 0) 1 1 Tryd.underlying80 hi hz0 hz1 hz2 rfl (by decide) _ _ _ rfl (World.ownsRow.alloc HO.out _) ⟨wr.heap.size, 0, none⟩ 1 1 [_] rfl rfl (cell_one_new _ _ _) (by simp [Value.oneCell']) (by unfold maxLen; simp; omega) (by simp; omega) (by simp; omega) ?_; intro v1 w1 hown1 hg1 _ hat1; have H1 := Lib.hid (And.intro hown1 (And.intro hg1 hat1)); clear hown1 hg1 hat1)
      obtain ⟨o1, g1, a1⟩ := H1.out
      refine ⟨⟨7, by omega, rfl, Lib.hid ?_, Lib.hid (HH.out.trans ((handed_step g1 a1).of_below ((Below.refl _ wr).alloc (Nat.le_refl _) _)))⟩, by simp [intOf]⟩
      rw [List.range_succ, List.map_append, ← List.append_assoc]
      refine ownB_snoc ?_ o1
      simp
      try omega
    · go_wp2_with (at_builtin; refine wpList_append_own_at _ rfl _ _ 80 rfl base 5 i0 (.int .u8 0) 1 1 Tryd.underlying80 hi hz0 hz1 hz2 rfl (by decide) _ _ _ rfl (World.ownsRow.alloc HO.out _) ⟨wr.heap.size, 0, none⟩ 1 1 [_] rfl rfl (cell_one_new _ _ _) (by simp [Value.oneCell']) (by unfold maxLen; simp; omega) (by simp; omega) (by simp; omega) ?_; intro v1 w1 hown1 hg1 _ hat1; have H1 := Lib.hid (And.intro hown1 (And.intro hg1 hat1)); clear hown1 hg1 hat1)
      obtain ⟨o1, g1, a1⟩ := H1.out
      refine ⟨⟨8, by omega, rfl, Lib.hid ?_, Lib.hid (HH.out.trans ((handed_step g1 a1).of_below ((Below.refl _ wr).alloc (Nat.le_refl _) _)))⟩, by simp [intOf]⟩
      rw [List.range_succ, List.map_append, ← List.append_assoc]
      refine ownB_snoc ?_ o1
      simp
      try omega
    · go_wp2_with fail
      go_ret
      exact ⟨_, rfl, HO.out, HH.out⟩
end Go.Proofs.YtafpbfmhhpcalaaDoor
