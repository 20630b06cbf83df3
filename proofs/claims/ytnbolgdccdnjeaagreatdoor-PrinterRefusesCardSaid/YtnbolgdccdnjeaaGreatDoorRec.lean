/- Contracts of package record: comparisons, free texts, data. -/
import Derived.Test.YtnbolgdccdnjeaaGreatDoorName3
import Derived.StillTailTactics
namespace Go.Proofs.YtnbolgdccdnjeaaGreatDoor
open Go.RowKit

theorem within_int (x lo hi : Int) (w : World) :
    Calls Tryz.prog 61 #[.int .i64 x, .int .i64 lo, .int .i64 hi] w fun e w' => e = .returned (.bool (decide (lo ≤ x) && decide (x ≤ hi))) ∧ w = w' := by
  by_cases h1 : lo ≤ x
  all_goals
    go_enter Tryz.func61, Tryz.ntmps61
    go_wp2
    go_ret
    exact ⟨ret_bool (by simp; omega), rfl⟩
theorem within_byte (x lo hi : Int) (w : World) :
    Calls Tryz.prog 144 #[.int .u8 x, .int .u8 lo, .int .u8 hi] w fun e w' => e = .returned (.bool (decide (lo ≤ x) && decide (x ≤ hi))) ∧ w = w' := by
  by_cases h1 : lo ≤ x
  all_goals
    go_enter Tryz.func144, Tryz.ntmps144
    go_wp2
    go_ret
    exact ⟨ret_bool (by simp; omega), rfl⟩

theorem isWild_eq (s : ByteArray) (h : 1 ≤ s.size) : ((s.extract 0 1).toList == [42]) = Np.isWild s.data.toList := by
  rw [ByteArray.toList_eq, ext_to]
  unfold Np.isWild
  have hl : 1 ≤ s.data.toList.length := by rw [size_list]; exact h
  cases hd : s.data.toList with
  | nil => rw [hd] at hl; simp at hl
  | cons a r => rw [Bool.eq_iff_iff]; simp
theorem isWildcard_any (s : ByteArray) (hs : s.size ≤ 140737488355328) (w : World) :
    Calls Tryz.prog 62 #[.string s] w fun e w' => e = .returned (.bool (Np.isWild s.data.toList)) ∧ w = w' := by
  have h1 : 1 ≤ s.size → ((s.extract 0 1).toList == [42]) = Np.isWild s.data.toList := isWild_eq s
  have h2 : s.size < 1 → Np.isWild s.data.toList = false := fun h => by
    have : s.data.toList = [] := List.eq_nil_of_length_eq_zero (by rw [size_list]; omega)
    rw [this]; rfl
  have H1 := Lib.hid h1
  have H2 := Lib.hid h2
  clear h1 h2
  go_enter Tryz.func62, Tryz.ntmps62
  go_wp2
  · go_ret
    exact ⟨ret_bool (H1.out (by omega)), rfl⟩
  · go_ret
    exact ⟨ret_bool (H2.out (by omega)).symm, rfl⟩

set_option maxHeartbeats 1000000 in
theorem cmpS_any (s t : ByteArray) (w : World) :
    Calls Tryz.prog 107 #[.string s, .string t] w fun e w' => e = .returned (.int .i64 (Np.cmpS s.data.toList t.data.toList)) ∧ w = w' := by
  go_enter Tryz.func107, Tryz.ntmps107
  go_wp2
  · have h : Op.bytesLess s.toList t.toList = true := by assumption
    simp only [ByteArray.toList_eq] at h
    go_ret
    exact ⟨ret_int (by simp [Np.cmpS, h]), rfl⟩
  · have h : Op.bytesLess s.toList t.toList = false := by assumption
    have h2 : (!s.toList == t.toList) = true := by assumption
    simp only [ByteArray.toList_eq] at h h2
    have h3 : ¬ s.data.toList = t.data.toList := by simpa using h2
    go_ret
    exact ⟨ret_int (by rw [Np.cmpS, if_neg (by simp [h]), if_neg h3]), rfl⟩
  · have h : Op.bytesLess s.toList t.toList = false := by assumption
    have h2 : (!s.toList == t.toList) = false := by assumption
    simp only [ByteArray.toList_eq] at h h2
    have h3 : s.data.toList = t.data.toList := by simpa using h2
    go_ret
    exact ⟨ret_int (by rw [Np.cmpS, if_neg (by simp [h]), if_pos h3]), rfl⟩
theorem cmpI_any (s t : Int) (w : World) :
    Calls Tryz.prog 108 #[.int .i64 s, .int .i64 t] w fun e w' => e = .returned (.int .i64 (Np.cmpI s t)) ∧ w = w' := by
  go_enter Tryz.func108, Tryz.ntmps108
  go_wp2
  · go_ret
    exact ⟨ret_int (by rw [Np.cmpI, if_pos ‹_›]), rfl⟩
  · go_ret
    exact ⟨ret_int (by rw [Np.cmpI, if_neg (by omega), if_pos ‹_›]), rfl⟩
  · go_ret
    exact ⟨ret_int (by rw [Np.cmpI, if_neg (by omega), if_neg (by omega)]), rfl⟩

theorem freeByte_eq (c : UInt8) : Np.freeByte c = decide ((97 ≤ (c.toNat : Int) ∧ (c.toNat : Int) ≤ 122) ∨ (48 ≤ (c.toNat : Int) ∧ (c.toNat : Int) ≤ 57) ∨ (c.toNat : Int) = 32) := by
  have h := u8_eq c 32 (by decide)
  unfold Np.freeByte Np.isLow Np.isDig
  rw [show (32 : UInt8) = UInt8.ofNat 32 from rfl, h, Bool.eq_iff_iff]
  simp [UInt8.le_iff_toNat_le]
  omega
theorem isFree_1 (s : ByteArray) (h : (s.size : Int) < 1) : Np.isFree s.data.toList = false := by
  have : ¬ 1 ≤ s.size := by omega
  simp [Np.isFree, this]
theorem isFree_2 (s : ByteArray) (h : 40 < (s.size : Int)) : Np.isFree s.data.toList = false := by
  have : ¬ s.size ≤ 40 := by omega
  simp [Np.isFree, this]
theorem isFree_3 (s : ByteArray) (h0 : 0 < s.size) (h : (s[0].toNat : Int) = 32) : Np.isFree s.data.toList = false := by
  have e := u8_eq s[0] 32 (by decide)
  rw [decide_eq_true (by simpa using h)] at e
  have e2 : s[0] = (32 : UInt8) := by simpa using e
  simp [Np.isFree, head_list s h0, e2]
theorem isFree_4 (s : ByteArray) (h0 : s.size - 1 < s.size) (h : (s[s.size - 1].toNat : Int) = 32) : Np.isFree s.data.toList = false := by
  have e := u8_eq s[s.size - 1] 32 (by decide)
  rw [decide_eq_true (by simpa using h)] at e
  have e2 : s[s.size - 1] = (32 : UInt8) := by simpa using e
  simp [Np.isFree, last_list s h0, e2]
theorem isFree_5 (s : ByteArray) (k : Nat) (hk : k < s.size) (h : Np.freeByte s[k] = false) : Np.isFree s.data.toList = false := by
  have : s.data.toList.all Np.freeByte = false := by
    rw [List.all_eq_false]
    exact ⟨s[k], by rw [← List.getElem?_eq_some_iff.1 (get_list s k hk) |>.2]; exact List.getElem_mem _, by simp [h]⟩
  simp [Np.isFree, this]
theorem isFree_6 (s : ByteArray) (h1 : 1 ≤ s.size) (h2 : s.size ≤ 40) (h3 : ¬ (s[0].toNat : Int) = 32) (h4 : ¬ (s[s.size - 1].toNat : Int) = 32) (h5 : s.data.toList.all Np.freeByte = true) : Np.isFree s.data.toList = true := by
  have e := u8_eq s[0] 32 (by decide)
  have e' := u8_eq s[s.size - 1] 32 (by decide)
  rw [decide_eq_false (by simpa using h3)] at e
  rw [decide_eq_false (by simpa using h4)] at e'
  have e2 : ¬ s[0] = (32 : UInt8) := by simpa using e
  have e3 : ¬ s[s.size - 1] = (32 : UInt8) := by simpa using e'
  simp [Np.isFree, last_list s (by omega), head_list s (by omega), e2, e3, h5, h1, h2]

set_option maxHeartbeats 1000000 in
theorem isFree_any (s : ByteArray) (hs : s.size ≤ 140737488355328) (w : World) :
    Calls Tryz.prog 105 #[.string s] w fun e w' => e = .returned (.bool (Np.isFree s.data.toList)) ∧ w = w' := by
  · go_enter Tryz.func105, Tryz.ntmps105
    go_wp2
    rotate_right
    · go_ret
      exact ⟨ret_bool (isFree_1 s ‹_›).symm, rfl⟩
    · go_ret
      exact ⟨ret_bool (isFree_2 s ‹_›).symm, rfl⟩
    · go_ret
      exact ⟨ret_bool (isFree_3 s ‹_› ‹_›).symm, rfl⟩
    · have h : ((s[s.size - 1].toNat : Int) == 32) = true := by assumption
      go_ret
      exact ⟨ret_bool (isFree_4 s (by omega) (by simpa using h)).symm, rfl⟩
    · have h2 : (s.size : Int) ≤ 40 := by assumption
      have h3 : ¬ (s[0].toNat : Int) = 32 := by assumption
      have h4 : ((s[s.size - 1].toNat : Int) == 32) = false := by assumption
      have H4 := Lib.hid h4
      clear h4
      have H3 := Lib.hid h3
      go_loop [24] (fun i => ∃ k : Nat, k ≤ s.size ∧ i = .int .i64 k ∧ (s.data.toList.take k).all Np.freeByte = true) (fun i => s.size - (intOf i).toNat)
      case atStart => exact ⟨0, Nat.zero_le _, rfl, rfl⟩
      case round =>
        obtain ⟨k, hk, rfl, ha⟩ := hrel
        have HA := Lib.hid ha
        clear ha
        by_cases hlt : k < s.size
        · have hb := u8_bd s[k]
          by_cases hf : (97 ≤ (s[k].toNat : Int) ∧ (s[k].toNat : Int) ≤ 122) ∨ (48 ≤ (s[k].toNat : Int) ∧ (s[k].toNat : Int) ≤ 57) ∨ (s[k].toNat : Int) = 32
          · have hl : Np.freeByte s[k] = true := by rw [freeByte_eq]; exact decide_eq_true hf
            have HL := Lib.hid hl
            clear hl
            go_wp2
            all_goals first
              | (go_round
                 case rel => exact ⟨k + 1, by omega, by go_num, all_snoc s k hlt _ HA.out HL.out⟩
                 case measure => simp [intOf] <;> omega)
              | (exfalso
                 have hne : ((s[k].toNat : Int) != 32) = true := by assumption
                 have hne' := bne_iff_ne.1 hne
                 omega)
          · have hl : Np.freeByte s[k] = false := by rw [freeByte_eq]; exact decide_eq_false hf
            have HL := Lib.hid hl
            clear hl
            go_wp2
            all_goals first
              | (go_ret; exact ⟨ret_bool (isFree_5 s k hlt HL.out).symm, rfl⟩)
              | (exfalso; omega)
              | (exfalso
                 have hne : ((s[k].toNat : Int) != 32) = false := by assumption
                 have hne' : (s[k].toNat : Int) = 32 := by simpa using hne
                 omega)
        · go_wp2
          go_ret
          exact ⟨ret_bool (isFree_6 s (by omega) (by omega) H3.out (by simpa using H4.out) (by have := HA.out; rwa [take_all s k (by omega)] at this)).symm, rfl⟩
end Go.Proofs.YtnbolgdccdnjeaaGreatDoor
