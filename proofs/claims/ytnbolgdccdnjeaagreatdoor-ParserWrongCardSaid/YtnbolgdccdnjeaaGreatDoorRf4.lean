/- Contracts of the reference of layer 2: which data and sets are valid; the order of sets. -/
import Derived.Test.YtnbolgdccdnjeaaGreatDoorRf3
import Derived.Test.YtnbolgdccdnjeaaGreatDoorNB
namespace Go.Proofs.YtnbolgdccdnjeaaGreatDoor
open Go.RowKit
set_option maxRecDepth 100000 in
set_option maxHeartbeats 4000000 in
theorem refDatum_any (k : Nat) (h1 : 1 ≤ k) (h8 : k ≤ 8) (s : ByteArray) (hs : s.size ≤ 140737488355328) (n m : Int) (w : World) :
    Calls Tryz.prog 50 #[.int .i64 k, .agg #[.string s, .int .i64 n, .int .i64 m]] w
      fun e w' => e = .returned (.bool (Np.validDatum (Np.ruleOf k) ⟨s.data.toList, n, m⟩)) ∧ Below w.heap.size w w' := by
  have hk : k = 1 ∨ k = 2 ∨ k = 3 ∨ k = 4 ∨ k = 5 ∨ k = 6 ∨ k = 7 ∨ k = 8 := by omega
  rcases hk with rfl | rfl | rfl | rfl | rfl | rfl | rfl | rfl
  all_goals
    go_enter Tryz.func50, Tryz.ntmps50
    go_wp2_with (first
      | (go_at_call 48; refine (refWithin_any _ _ _ _).mono ?_; rintro e w' ⟨rfl, rfl⟩)
      | (go_at_call 44; refine (refValid_any _ hs _).mono ?_; rintro e w' ⟨rfl, hb⟩; obtain ⟨hc, hf⟩ := bcell hb)
      | (go_at_call 45; refine (refWild_any _ hs _).mono ?_; rintro e w' ⟨rfl, rfl⟩)
      | (go_at_call 81; refine (refText_any _ hs _).mono ?_; rintro e w' ⟨rfl, rfl⟩))
    all_goals
      go_ret
      go_light
      refine ⟨ret_bool ?_, ?_⟩
      · simp_all [Np.validDatum, Np.validText, Np.ruleOf, Np.rules, ByteArray.toList_eq] <;> (intros; first | omega | (rw [Bool.eq_iff_iff]; simp; omega) | (rw [Bool.eq_iff_iff]; simp; intros; omega) | (rw [Int.tmod_eq_emod_of_nonneg (by omega)]; first | omega | (rw [Bool.eq_iff_iff]; simp; omega)) | show False)
      · first
          | exact (Below.refl _ w).alloc (Nat.le_refl _) _
          | exact ((Below.refl _ w).alloc (Nat.le_refl _) _).trans (hb.mono (by simp))
end Go.Proofs.YtnbolgdccdnjeaaGreatDoor
