/- Contracts of the references of layers 1 and 2 that make no rows: labels, texts, data before each other. -/
import Derived.Test.YtnbolgdccdnjeaaGreatDoorNB
import Derived.Test.YtnbolgdccdnjeaaGreatDoorPA
namespace Go.Proofs.YtnbolgdccdnjeaaGreatDoor
open Go.RowKit
def okAt (l : List UInt8) (j : Nat) : Prop := ∃ c, l[j]? = some c ∧ (Np.isLow c = true ∨ Np.isDig c = true ∨ (c = 45 ∧ 0 < j ∧ j + 1 < l.length))
theorem ne45 {c : UInt8} (h : Np.isLow c = true ∨ Np.isDig c = true) : c ≠ 45 := by rintro rfl; revert h; decide
theorem isLabel_ok {l : List UInt8} (h : ∀ j, j < l.length → okAt l j) : Np.isLabel l = (decide (1 ≤ l.length) && decide (l.length ≤ 12)) := by
  have hall : l.all Np.labelByte = true := by
    rw [List.all_eq_true]
    intro c hc
    obtain ⟨j, hj, rfl⟩ := List.mem_iff_getElem.1 hc
    obtain ⟨c, e, ho⟩ := h j hj
    rw [List.getElem?_eq_getElem hj] at e
    simp only [Option.some.injEq] at e
    rw [e]
    unfold Np.labelByte
    rcases ho with ho | ho | ⟨ho, _⟩ <;> simp [ho]
  unfold Np.isLabel
  rw [hall, Bool.and_true]
  by_cases h1 : 1 ≤ l.length
  · have hh : ∀ j, j < l.length → j = 0 ∨ j + 1 = l.length → l[j]? ≠ some 45 := by
      intro j hj he hc
      obtain ⟨c, e, ho⟩ := h j hj
      rw [hc] at e
      simp only [Option.some.injEq] at e
      subst e
      rcases ho with ho | ho | ⟨_, h2, h3⟩
      · exact ne45 (.inl ho) rfl
      · exact ne45 (.inr ho) rfl
      · omega
    have h2 : (l.head? == some 45) = false := by rw [List.head?_eq_getElem?]; simpa using hh 0 (by omega) (.inl rfl)
    have h3 : (l.getLast? == some 45) = false := by rw [List.getLast?_eq_getElem?]; simpa using hh (l.length - 1) (by omega) (.inr (by omega))
    rw [h2, h3]; simp
  · rw [decide_eq_false h1]; rfl
theorem isLabel_no {l : List UInt8} {j : Nat} (hj : j < l.length) (h : ¬ okAt l j) : Np.isLabel l = false := by
  cases hl : Np.isLabel l with
  | false => rfl
  | true =>
    exfalso
    unfold Np.isLabel at hl
    simp only [Bool.and_eq_true, decide_eq_true_eq, Bool.not_eq_true', beq_eq_false_iff_ne] at hl
    obtain ⟨⟨⟨_, h2⟩, h3⟩, h4⟩ := hl
    have hb := List.all_eq_true.1 h4 l[j] (List.getElem_mem hj)
    refine h ⟨l[j], List.getElem?_eq_getElem hj, ?_⟩
    simp only [Np.labelByte, Bool.or_eq_true, beq_iff_eq] at hb
    rcases hb with (hb | hb) | hb
    · exact .inl hb
    · exact .inr (.inl hb)
    · refine .inr (.inr ⟨hb, ?_, ?_⟩)
      · refine Nat.pos_of_ne_zero fun e => ?_
        subst e
        rw [List.head?_eq_getElem?, List.getElem?_eq_getElem hj, hb] at h2
        exact h2 rfl
      · refine Nat.lt_of_not_le fun e => ?_
        have : j = l.length - 1 := by omega
        rw [List.getLast?_eq_getElem?, ← this, List.getElem?_eq_getElem hj, hb] at h3
        exact h3 rfl
theorem okAt_num (s : ByteArray) (k : Nat) (hk : k < s.size) : okAt s.data.toList k ↔ ((97 ≤ (s[k].toNat : Int) ∧ (s[k].toNat : Int) ≤ 122) ∨ (48 ≤ (s[k].toNat : Int) ∧ (s[k].toNat : Int) ≤ 57) ∨ ((s[k].toNat : Int) = 45 ∧ 0 < k ∧ k + 1 < s.size)) := by
  unfold okAt
  rw [get_list s k hk]
  simp only [Option.some.injEq, exists_eq_left']
  have h45 : s[k] = 45 ↔ (s[k].toNat : Int) = 45 := by
    constructor
    · intro h; rw [h]; rfl
    · intro h; apply UInt8.toNat_inj.1; have : s[k].toNat = 45 := by omega
      rw [this]; rfl
  rw [h45, size_list]
  unfold Np.isLow Np.isDig
  simp only [Bool.and_eq_true, decide_eq_true_eq, UInt8.le_iff_toNat_le]
  have e1 : (97 : UInt8).toNat = 97 := rfl
  have e2 : (122 : UInt8).toNat = 122 := rfl
  have e3 : (48 : UInt8).toNat = 48 := rfl
  have e4 : (57 : UInt8).toNat = 57 := rfl
  rw [e1, e2, e3, e4]
  omega
set_option maxHeartbeats 1000000 in
theorem refLabel_any (s : ByteArray) (hs : s.size ≤ 140737488355328) (w : World) :
    Calls Tryz.prog 78 #[.string s] w fun e w' => e = .returned (.bool (Np.isLabel s.data.toList)) ∧ w = w' := by
  go_enter Tryz.func78, Tryz.ntmps78
  go_wp2
  go_loop [3] (fun i => ∃ k : Nat, k ≤ s.size ∧ i = .int .i64 k ∧ Hid (∀ j, j < k → okAt s.data.toList j)) (fun i => s.size - (intOf i).toNat)
  case atStart => exact ⟨0, Nat.zero_le _, rfl, Lib.hid (fun j h => by omega)⟩
  case round =>
    obtain ⟨k, hk, rfl, HA⟩ := hrel
    by_cases hlt : k < s.size
    · have hb := u8_bd s[k]
      have HN := Lib.hid (okAt_num s k hlt)
      have hnext : okAt s.data.toList k → ∀ j, j < k + 1 → okAt s.data.toList j := fun h j hj => by
        by_cases e : j = k
        · subst e; exact h
        · exact HA.out j (by omega)
      have HX := Lib.hid hnext
      clear hnext
      have hk0 : (0 : Int) ≤ k := by omega
      by_cases h45 : (s[k].toNat : Int) = 45
      · have hE : ((s[k].toNat : Int) == 45) = true := by simp [h45]
        have H45 := Lib.hid h45
        have hlo : (s[k].toNat : Int) < 48 := by omega
        have hlo2 : (s[k].toNat : Int) < 97 := by omega
        clear h45
        by_cases hin : 0 < k ∧ k + 1 < s.size
        · obtain ⟨h1, h2⟩ := hin
          have h3 : (0 : Int) < k := by omega
          have h4 : (k : Int) < (s.size : Int) - 1 := by omega
          go_wp2
          go_round
          case rel => exact ⟨k + 1, by omega, by go_num, Lib.hid (HX.out (HN.out.2 (.inr (.inr ⟨H45.out, h1, h2⟩))))⟩
          case measure => simp [intOf] <;> omega
        · have HI := Lib.hid hin
          clear hin
          go_wp2
          all_goals first
            | (go_ret
               exact ⟨ret_bool (isLabel_no (by rw [size_list]; exact hlt) (fun h => by have := HN.out.1 h; have := HI.out; omega)).symm, rfl⟩)
            | (exfalso; have := HI.out; omega)
      · have hE : ((s[k].toNat : Int) == 45) = false := by simp [h45]
        have H45 := Lib.hid h45
        clear h45
        go_wp2
        all_goals first
          | (go_ret
             exact ⟨ret_bool (isLabel_no (by rw [size_list]; exact hlt) (fun h => by have := HN.out.1 h; have := H45.out; omega)).symm, rfl⟩)
          | (go_round
             case rel => exact ⟨k + 1, by omega, by go_num, Lib.hid (HX.out (HN.out.2 (by omega)))⟩
             case measure => simp [intOf] <;> omega)
    · have hf : Np.isLabel s.data.toList = (decide (1 ≤ s.size) && decide (s.size ≤ 12)) := isLabel_ok (fun j hj => HA.out j (by rw [size_list] at hj; omega))
      have HF := Lib.hid hf
      clear hf
      go_wp2
      all_goals
        go_ret
        exact ⟨ret_bool (by rw [HF.out, Bool.eq_iff_iff]; simp; omega), rfl⟩
set_option maxHeartbeats 1000000 in
theorem refText_any (s : ByteArray) (hs : s.size ≤ 140737488355328) (w : World) :
    Calls Tryz.prog 81 #[.string s] w fun e w' => e = .returned (.bool (Np.isFree s.data.toList)) ∧ w = w' := by
  go_enter Tryz.func81, Tryz.ntmps81
  go_wp2
  all_goals first
    | (go_ret; exact ⟨ret_bool (isFree_1 s ‹_›).symm, rfl⟩)
    | (go_ret; exact ⟨ret_bool (isFree_2 s ‹_›).symm, rfl⟩)
    | (go_ret; exact ⟨ret_bool (isFree_3 s (by omega) ‹_›).symm, rfl⟩)
    | (have h : ((s[s.size - 1].toNat : Int) == 32) = true := by assumption
       go_ret
       exact ⟨ret_bool (isFree_4 s (by omega) (by simpa using h)).symm, rfl⟩)
    | skip
  · have h2 : (s.size : Int) ≤ 40 := by assumption
    have h3 : ¬ (s[0].toNat : Int) = 32 := by assumption
    have h4 : ((s[s.size - 1].toNat : Int) == 32) = false := by assumption
    have H4 := Lib.hid h4
    clear h4
    have H3 := Lib.hid h3
    go_loop [4] (fun i => ∃ k : Nat, k ≤ s.size ∧ i = .int .i64 k ∧ (s.data.toList.take k).all Np.freeByte = true) (fun i => s.size - (intOf i).toNat)
    case atStart => exact ⟨0, Nat.zero_le _, rfl, rfl⟩
    case round =>
      obtain ⟨k, hk, rfl, ha⟩ := hrel
      have HA := Lib.hid ha
      clear ha
      by_cases hlt : k < s.size
      · have hb := u8_bd s[k]
        by_cases hf : (97 ≤ (s[k].toNat : Int) ∧ (s[k].toNat : Int) ≤ 122) ∨ (48 ≤ (s[k].toNat : Int) ∧ (s[k].toNat : Int) ≤ 57) ∨ (s[k].toNat : Int) = 32
        · have hl : Np.freeByte s[k] = true := by rw [freeByte_eq]; exact decide_eq_true hf
          have HL := Lib.hid hl
          clear hl
          go_wp2
          all_goals first
            | (go_round
               case rel => exact ⟨k + 1, by omega, by go_num, all_snoc s k hlt _ HA.out HL.out⟩
               case measure => simp [intOf] <;> omega)
            | (exfalso
               have hne : ((s[k].toNat : Int) != 32) = true := by assumption
               have hne' := bne_iff_ne.1 hne
               omega)
        · have hl : Np.freeByte s[k] = false := by rw [freeByte_eq]; exact decide_eq_false hf
          have HL := Lib.hid hl
          clear hl
          go_wp2
          all_goals first
            | (go_ret; exact ⟨ret_bool (isFree_5 s k hlt HL.out).symm, rfl⟩)
            | (exfalso; omega)
            | (exfalso
               have hne : ((s[k].toNat : Int) != 32) = false := by assumption
               have hne' : (s[k].toNat : Int) = 32 := by simpa using hne
               omega)
      · go_wp2
        go_ret
        exact ⟨ret_bool (isFree_6 s (by omega) (by omega) H3.out (by simpa using H4.out) (by have := HA.out; rwa [take_all s k (by omega)] at this)).symm, rfl⟩
theorem refWild_any (s : ByteArray) (hs : s.size ≤ 140737488355328) (w : World) :
    Calls Tryz.prog 45 #[.string s] w fun e w' => e = .returned (.bool (Np.isWild s.data.toList)) ∧ w = w' := by
  by_cases h0 : 0 < s.size
  · have he : ((s[0].toNat : Int) == 42) = Np.isWild s.data.toList := by
      unfold Np.isWild
      rw [head_list s h0]
      have := u8_eq s[0] 42 (by decide)
      rw [Bool.eq_iff_iff] at this ⊢
      simp only [beq_iff_eq, decide_eq_true_eq, Option.some.injEq] at this ⊢
      exact this.symm
    have HE := Lib.hid he
    clear he
    go_enter Tryz.func45, Tryz.ntmps45
    go_wp2
    all_goals
      go_ret
      exact ⟨ret_bool HE.out, rfl⟩
  · have he : Np.isWild s.data.toList = false := by
      have : s.data.toList = [] := List.eq_nil_of_length_eq_zero (by rw [size_list]; omega)
      rw [this]; rfl
    have HE := Lib.hid he
    clear he
    go_enter Tryz.func45, Tryz.ntmps45
    go_wp2
    all_goals
      go_ret
      exact ⟨ret_bool HE.out.symm, rfl⟩
theorem refWithin_any (x lo hi : Int) (w : World) :
    Calls Tryz.prog 48 #[.int .i64 x, .int .i64 lo, .int .i64 hi] w fun e w' => e = .returned (.bool (decide (lo ≤ x) && decide (x ≤ hi))) ∧ w = w' := by
  by_cases h1 : lo ≤ x
  all_goals
    go_enter Tryz.func48, Tryz.ntmps48
    go_wp2
    go_ret
    exact ⟨ret_bool (by simp; omega), rfl⟩
theorem refSingle_any (x : Int) (w : World) :
    Calls Tryz.prog 49 #[.int .i64 x] w fun e w' => e = .returned (.bool (decide (x = 3) || decide (x = 4))) ∧ w = w' := by
  by_cases h1 : x = 3
  · subst h1
    go_enter Tryz.func49, Tryz.ntmps49
    go_wp2
    go_ret
    exact ⟨rfl, rfl⟩
  · have h2 : (x == 3) = false := by simpa using h1
    go_enter Tryz.func49, Tryz.ntmps49
    go_wp2
    go_ret
    refine ⟨ret_bool ?_, rfl⟩
    rw [decide_eq_false h1, Bool.false_or]
    rfl
set_option maxHeartbeats 1000000 in
theorem refLess_any (s t : ByteArray) (n1 m1 n2 m2 : Int) (w : World) :
    Calls Tryz.prog 51 #[.agg #[.string s, .int .i64 n1, .int .i64 m1], .agg #[.string t, .int .i64 n2, .int .i64 m2]] w
      fun e w' => e = .returned (.bool (decide (Np.cmpD ⟨s.data.toList, n1, m1⟩ ⟨t.data.toList, n2, m2⟩ < 0))) ∧ Below w.heap.size w w' := by
  rw [← Np.lessD_cmp]
  have hw : ∀ o o', Below w.heap.size w ((w.alloc o).alloc o') := fun o o' => ((Below.refl _ w).alloc (Nat.le_refl _) _).alloc (by simp) _
  have HW := Lib.hid hw
  clear hw
  go_enter Tryz.func51, Tryz.ntmps51
  go_wp2
  all_goals
    go_ret
    refine ⟨ret_bool ?_, HW.out _ _⟩
    go_light
    simp_all [Np.lessD, ByteArray.toList_eq]
end Go.Proofs.YtnbolgdccdnjeaaGreatDoor
