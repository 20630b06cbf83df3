/- The reference of layer 3: digits, numbers as texts. -/
import Derived.Test.YtnbolgdccdnjeaaGreatDoorLA
import Derived.Test.YtnbolgdccdnjeaaGreatDoorPA
import Derived.Test.YtnbolgdccdnjeaaGreatDoorRf2
namespace Go.Proofs.YtnbolgdccdnjeaaGreatDoor
open Go.RowKit
theorem bytesOf_app (a b : List UInt8) : bytesOf a ++ bytesOf b = bytesOf (a ++ b) := by
  apply str_ext; simp [bytesOf]
theorem decimal_len : ∀ n : Nat, (Np.decimal n).length ≤ n + 1 := by
  intro n
  induction n using Nat.strongRecOn with
  | ind n ih =>
    rw [Np.decimal]
    split
    · simp
    · have := ih (n / 10) (by omega)
      simp only [List.length_append, List.length_singleton]; omega
set_option maxRecDepth 100000 in
set_option maxHeartbeats 2000000 in
theorem decimal_any (n : Nat) (hn : n ≤ 1000000000) (w : World) :
    Calls Tryz.prog 122 #[.int .i64 n] w fun e w' => e = .returned (.string (bytesOf (Np.decimal n))) ∧ w = w' := by
  induction n using Nat.strongRecOn with
  | ind n ih =>
    have HI := Lib.hid ih
    clear ih
    by_cases h : n < 10
    · have hI : (n : Int) < 10 := by omega
      have hcs : n = 0 ∨ n = 1 ∨ n = 2 ∨ n = 3 ∨ n = 4 ∨ n = 5 ∨ n = 6 ∨ n = 7 ∨ n = 8 ∨ n = 9 := by omega
      rcases hcs with rfl | rfl | rfl | rfl | rfl | rfl | rfl | rfl | rfl | rfl
      all_goals
        go_enter Tryz.func122, Tryz.ntmps122
        go_wp2_with fail
        go_ret
        exact ⟨by rw [Np.decimal, if_pos (by decide)]; rfl, rfl⟩
    · have hI : (10 : Int) ≤ (n : Int) := by omega
      have hsz : (bytesOf (Np.decimal (n / 10))).size ≤ 1000000000 := by
        have := decimal_len (n / 10)
        rw [← size_list]; simp [bytesOf]; omega
      have hD : Hid (Np.decimal n = Np.decimal (n / 10) ++ [UInt8.ofNat (48 + n % 10)]) := Lib.hid (by rw [Np.decimal, if_neg h])
      have hq : ¬ (9223372036854775807 < (bytesOf (Np.decimal (n / 10))).size + 1) := by omega
      have hcs : (n : Int) % 10 = 0 ∨ (n : Int) % 10 = 1 ∨ (n : Int) % 10 = 2 ∨ (n : Int) % 10 = 3 ∨ (n : Int) % 10 = 4 ∨ (n : Int) % 10 = 5 ∨ (n : Int) % 10 = 6 ∨ (n : Int) % 10 = 7 ∨ (n : Int) % 10 = 8 ∨ (n : Int) % 10 = 9 := by omega
      rcases hcs with hm | hm | hm | hm | hm | hm | hm | hm | hm | hm
      all_goals
        have hdv : (n : Int) / 10 = ((n / 10 : Nat) : Int) := by omega
        have hmn : n % 10 = ((n : Int) % 10).toNat := by omega
        rw [hm] at hmn
        have HMN := Lib.hid hmn
        have HDV := Lib.hid hdv
        clear hmn hdv
        go_enter Tryz.func122, Tryz.ntmps122
        go_wp2_with fail
        rw [HDV.out]
        refine (HI.out (n / 10) (by omega) (by omega)).mono ?_
        rintro e w1 ⟨rfl, rfl⟩
        go_wp2_with fail
        go_ret
        refine ⟨?_, rfl⟩
        rw [hD.out, HMN.out, ← bytesOf_app]
        rfl
theorem decimal_strs (n : Nat) (hn : n ≤ 1000000000) (w : World) : Calls Tryz.prog 122 #[.int .i64 n] w fun e w' => e = .returned (strs (Np.decimal n)) ∧ w = w' := decimal_any n hn w
end Go.Proofs.YtnbolgdccdnjeaaGreatDoor
