/- Contracts of packages name and record. -/
import Derived.Test.YtnbolgdccdnjeaaGreatDoorBase
import Derived.Test.YtnbolgdccdnjeaaGreatDoorSpec
import Derived.Test.YtnbolgdccdnjeaaGreatDoorProg
namespace Go.Proofs.YtnbolgdccdnjeaaGreatDoor
open Go.RowKit

theorem labelByte_eq (c : UInt8) : Np.labelByte c = decide ((97 ≤ (c.toNat : Int) ∧ (c.toNat : Int) ≤ 122) ∨ (48 ≤ (c.toNat : Int) ∧ (c.toNat : Int) ≤ 57) ∨ (c.toNat : Int) = 45) := by
  have h := u8_eq c 45 (by decide)
  unfold Np.labelByte Np.isLow Np.isDig
  rw [show (45 : UInt8) = UInt8.ofNat 45 from rfl, h, Bool.eq_iff_iff]
  simp [UInt8.le_iff_toNat_le]
  omega
theorem isLabel_1 (s : ByteArray) (h : (s.size : Int) < 1) : Np.isLabel s.data.toList = false := by
  have : ¬ 1 ≤ s.size := by omega
  simp [Np.isLabel, this]
theorem isLabel_2 (s : ByteArray) (h : 12 < (s.size : Int)) : Np.isLabel s.data.toList = false := by
  have : ¬ s.size ≤ 12 := by omega
  simp [Np.isLabel, this]
theorem isLabel_3 (s : ByteArray) (h0 : 0 < s.size) (h : (s[0].toNat : Int) = 45) : Np.isLabel s.data.toList = false := by
  have e := u8_eq s[0] 45 (by decide)
  rw [decide_eq_true (by simpa using h)] at e
  have e2 : s[0] = (45 : UInt8) := by simpa using e
  simp [Np.isLabel, head_list s h0, e2]
theorem isLabel_4 (s : ByteArray) (h0 : s.size - 1 < s.size) (h : (s[s.size - 1].toNat : Int) = 45) : Np.isLabel s.data.toList = false := by
  have e := u8_eq s[s.size - 1] 45 (by decide)
  rw [decide_eq_true (by simpa using h)] at e
  have e2 : s[s.size - 1] = (45 : UInt8) := by simpa using e
  simp [Np.isLabel, last_list s h0, e2]
theorem isLabel_5 (s : ByteArray) (k : Nat) (hk : k < s.size) (h : Np.labelByte s[k] = false) : Np.isLabel s.data.toList = false := by
  have : s.data.toList.all Np.labelByte = false := by
    rw [List.all_eq_false]
    exact ⟨s[k], by rw [← List.getElem?_eq_some_iff.1 (get_list s k hk) |>.2]; exact List.getElem_mem _, by simp [h]⟩
  simp [Np.isLabel, this]
theorem isLabel_6 (s : ByteArray) (h1 : 1 ≤ s.size) (h2 : s.size ≤ 12) (h3 : ¬ (s[0].toNat : Int) = 45) (h4 : ¬ (s[s.size - 1].toNat : Int) = 45) (h5 : s.data.toList.all Np.labelByte = true) : Np.isLabel s.data.toList = true := by
  have e := u8_eq s[0] 45 (by decide)
  have e' := u8_eq s[s.size - 1] 45 (by decide)
  rw [decide_eq_false (by simpa using h3)] at e
  rw [decide_eq_false (by simpa using h4)] at e'
  have e2 : ¬ s[0] = (45 : UInt8) := by simpa using e
  have e3 : ¬ s[s.size - 1] = (45 : UInt8) := by simpa using e'
  simp [Np.isLabel, last_list s (by omega), head_list s (by omega), e2, e3, h5, h1, h2]
theorem all_snoc (s : ByteArray) (k : Nat) (h : k < s.size) (p : UInt8 → Bool) (h1 : (s.data.toList.take k).all p = true) (h2 : p s[k] = true) : (s.data.toList.take (k + 1)).all p = true := by
  rw [take_snoc s k h, List.all_append, h1]; simp [h2]

set_option maxHeartbeats 1000000 in
theorem isLabel_any (s : ByteArray) (hs : s.size ≤ 140737488355328) (w : World) :
    Calls Tryz.prog 104 #[.string s] w fun e w' => e = .returned (.bool (Np.isLabel s.data.toList)) ∧ w = w' := by
  go_enter Tryz.func104, Tryz.ntmps104
  go_wp2
  · go_ret
    exact ⟨ret_bool (isLabel_1 s ‹_›).symm, rfl⟩
  · go_ret
    exact ⟨ret_bool (isLabel_2 s ‹_›).symm, rfl⟩
  · go_ret
    exact ⟨ret_bool (isLabel_3 s ‹_› ‹_›).symm, rfl⟩
  · have h : ((s[s.size - 1].toNat : Int) == 45) = true := by assumption
    go_ret
    exact ⟨ret_bool (isLabel_4 s (by omega) (by simpa using h)).symm, rfl⟩
  · have h1 : 1 ≤ (s.size : Int) := by assumption
    have h2 : (s.size : Int) ≤ 12 := by assumption
    have h3 : ¬ (s[0].toNat : Int) = 45 := by assumption
    have h4 : ((s[s.size - 1].toNat : Int) == 45) = false := by assumption
    have H4 := Lib.hid h4
    clear h4
    have H3 := Lib.hid h3
    go_loop [28] (fun i => ∃ k : Nat, k ≤ s.size ∧ i = .int .i64 k ∧ (s.data.toList.take k).all Np.labelByte = true) (fun i => s.size - (intOf i).toNat)
    case atStart => exact ⟨0, Nat.zero_le _, rfl, rfl⟩
    case round =>
      obtain ⟨k, hk, rfl, ha⟩ := hrel
      have HA := Lib.hid ha
      clear ha
      by_cases hlt : k < s.size
      · have hb := u8_bd s[k]
        go_wp2
        all_goals first
          | (have hne : ((s[k].toNat : Int) != 45) = true := by assumption
             have hne' := bne_iff_ne.1 hne
             go_ret
             exact ⟨ret_bool (isLabel_5 s k hlt (by rw [labelByte_eq]; exact decide_eq_false (by omega))).symm, rfl⟩)
          | (have hl : Np.labelByte s[k] = true := by
               rw [labelByte_eq]
               refine decide_eq_true ?_
               first
                 | omega
                 | (have hne : ((s[k].toNat : Int) != 45) = false := by assumption
                    have hne' : (s[k].toNat : Int) = 45 := by simpa using hne
                    omega)
             go_round
             case rel => exact ⟨k + 1, by omega, by go_num, all_snoc s k hlt _ HA.out hl⟩
             case measure => simp [intOf] <;> omega)
      · go_wp2
        go_ret
        exact ⟨ret_bool (isLabel_6 s (by omega) (by omega) H3.out (by simpa using H4.out) (by have := HA.out; rwa [take_all s k (by omega)] at this)).symm, rfl⟩

/-! ### The last index of a byte -/
theorem u8_of (c : Int) (h0 : 0 ≤ c) (h1 : c ≤ 255) (x : UInt8) : x = UInt8.ofNat c.toNat ↔ (x.toNat : Int) = c := by
  have h := u8_eq x c.toNat (by omega)
  rw [Bool.eq_iff_iff] at h
  simp only [beq_iff_eq, decide_eq_true_eq] at h
  rw [h]; omega
theorem lastAt_none (s : ByteArray) (c : UInt8) (h : c ∉ s.data.toList.drop 0) : Np.LastAt s.data.toList c (-1) := .inl ⟨rfl, by simpa using h⟩
theorem lastAt_some (s : ByteArray) (c : UInt8) (k : Nat) (hk : k < s.size) (h : c ∉ s.data.toList.drop (k + 1)) (hc : s[k] = c) : Np.LastAt s.data.toList c (k : Int) := by
  refine .inr ⟨s.data.toList.take k, s.data.toList.drop (k + 1), ?_, h, ?_⟩
  · subst hc
    rw [show s[k] = s.data.toList[k]'(by rw [size_list]; exact hk) from rfl, ← List.drop_eq_getElem_cons, List.take_append_drop]
  · simp; have := size_list s; simp at this; omega
theorem drop_step (s : ByteArray) (c : UInt8) (k : Nat) (hk : k < s.size) (h : c ∉ s.data.toList.drop (k + 1)) (hc : ¬ s[k] = c) : c ∉ s.data.toList.drop k := by
  rw [List.drop_eq_getElem_cons (by rw [size_list]; exact hk)]
  intro hm
  rcases List.mem_cons.1 hm with e | e
  · exact hc e.symm
  · exact h e

def GivesLast (s : ByteArray) (c : UInt8) (w : World) (e : Ending) (w' : World) : Prop := ∃ r : Int, Np.LastAt s.data.toList c r ∧ e = .returned (.int .i64 r) ∧ w = w'

set_option maxHeartbeats 1000000 in
theorem lastIndexByteString_any (s : ByteArray) (hs : s.size ≤ 140737488355328) (c : Int) (h0 : 0 ≤ c) (h1 : c ≤ 255) (w : World) :
    Calls Tryz.prog 174 #[.string s, .int .u8 c] w (GivesLast s (UInt8.ofNat c.toNat) w) := by
  go_enter Tryz.func174, Tryz.ntmps174
  go_wp2
  go_loop [5] (fun i => ∃ k : Int, -1 ≤ k ∧ k < s.size ∧ i = .int .i64 k ∧ Hid (UInt8.ofNat c.toNat ∉ s.data.toList.drop (k + 1).toNat)) (fun i => (intOf i + 1).toNat)
  case atStart => exact ⟨_, by omega, by omega, rfl, Lib.hid (by rw [List.drop_eq_nil_of_le (by rw [size_list]; omega)]; simp)⟩
  case round =>
    obtain ⟨k, hk0, hk1, rfl, H⟩ := hrel
    by_cases hlt : 0 ≤ k
    · obtain ⟨j, rfl⟩ := Int.eq_ofNat_of_zero_le hlt
      have hj : j < s.size := by omega
      have hb := u8_bd s[j]
      have hd := u8_of c h0 h1 s[j]
      have HD := Lib.hid hd
      clear hd
      go_wp2
      all_goals first
        | (have he : ((s[j].toNat : Int) == c) = true := by assumption
           go_ret
           exact ⟨j, lastAt_some s _ j hj (by simpa using H.out) (HD.out.2 (by simpa using he)), rfl, rfl⟩)
        | (have he : ((s[j].toNat : Int) == c) = false := by assumption
           go_round
           case rel => exact ⟨(j : Int) - 1, by omega, by omega, rfl, Lib.hid (by have := drop_step s _ j hj (by simpa using H.out) (fun e => by have := HD.out.1 e; simp [this] at he); simpa using this)⟩
           case measure => simp [intOf] <;> omega)
    · obtain rfl : k = -1 := by omega
      go_wp2
      go_ret
      exact ⟨-1, lastAt_none s _ (by simpa using H.out), rfl, rfl⟩

theorem lastIndexByte_any (s : ByteArray) (hs : s.size ≤ 140737488355328) (c : Int) (h0 : 0 ≤ c) (h1 : c ≤ 255) (w : World) :
    Calls Tryz.prog 143 #[.string s, .int .u8 c] w (GivesLast s (UInt8.ofNat c.toNat) w) := by
  go_enter Tryz.func143, Tryz.ntmps143
  go_wp2_with (go_at_call 174; refine (lastIndexByteString_any _ hs _ h0 h1 _).mono ?_; rintro e w' ⟨r, hr, rfl, rfl⟩)
  go_ret
  exact ⟨r, hr, rfl, rfl⟩
end Go.Proofs.YtnbolgdccdnjeaaGreatDoor
