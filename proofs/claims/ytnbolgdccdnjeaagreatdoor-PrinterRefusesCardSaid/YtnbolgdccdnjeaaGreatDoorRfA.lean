/- Joined by program from: Rf1, Rf3, Rf4, Rf5. -/
import Derived.Test.YtnbolgdccdnjeaaGreatDoorRec
import Derived.Test.YtnbolgdccdnjeaaGreatDoorRefName
import Derived.Test.YtnbolgdccdnjeaaGreatDoorRf2
import Derived.Test.YtnbolgdccdnjeaaGreatDoorRec3
import Derived.Deep.DeepCutAuto
/- Contracts of the references of layers 1 and 2 that make no rows: labels, texts, data before each other. -/
namespace Go.Proofs.YtnbolgdccdnjeaaGreatDoor
open Go.RowKit
def okAt (l : List UInt8) (j : Nat) : Prop := ∃ c, l[j]? = some c ∧ (Np.isLow c = true ∨ Np.isDig c = true ∨ (c = 45 ∧ 0 < j ∧ j + 1 < l.length))
theorem ne45 {c : UInt8} (h : Np.isLow c = true ∨ Np.isDig c = true) : c ≠ 45 := by rintro rfl; revert h; decide
theorem isLabel_ok {l : List UInt8} (h : ∀ j, j < l.length → okAt l j) : Np.isLabel l = (decide (1 ≤ l.length) && decide (l.length ≤ 12)) := by
  have hall : l.all Np.labelByte = true := by
    rw [List.all_eq_true]
    intro c hc
    obtain ⟨j, hj, rfl⟩ := List.mem_iff_getElem.1 hc
    obtain ⟨c, e, ho⟩ := h j hj
    rw [List.getElem?_eq_getElem hj] at e
    simp only [Option.some.injEq] at e
    rw [e]
    unfold Np.labelByte
    rcases ho with ho | ho | ⟨ho, _⟩ <;> simp [ho]
  unfold Np.isLabel
  rw [hall, Bool.and_true]
  by_cases h1 : 1 ≤ l.length
  · have hh : ∀ j, j < l.length → j = 0 ∨ j + 1 = l.length → l[j]? ≠ some 45 := by
      intro j hj he hc
      obtain ⟨c, e, ho⟩ := h j hj
      rw [hc] at e
      simp only [Option.some.injEq] at e
      subst e
      rcases ho with ho | ho | ⟨_, h2, h3⟩
      · exact ne45 (.inl ho) rfl
      · exact ne45 (.inr ho) rfl
      · omega
    have h2 : (l.head? == some 45) = false := by rw [List.head?_eq_getElem?]; simpa using hh 0 (by omega) (.inl rfl)
    have h3 : (l.getLast? == some 45) = false := by rw [List.getLast?_eq_getElem?]; simpa using hh (l.length - 1) (by omega) (.inr (by omega))
    rw [h2, h3]; simp
  · rw [decide_eq_false h1]; rfl
theorem isLabel_no {l : List UInt8} {j : Nat} (hj : j < l.length) (h : ¬ okAt l j) : Np.isLabel l = false := by
  cases hl : Np.isLabel l with
  | false => rfl
  | true =>
    exfalso
    unfold Np.isLabel at hl
    simp only [Bool.and_eq_true, decide_eq_true_eq, Bool.not_eq_true', beq_eq_false_iff_ne] at hl
    obtain ⟨⟨⟨_, h2⟩, h3⟩, h4⟩ := hl
    have hb := List.all_eq_true.1 h4 l[j] (List.getElem_mem hj)
    refine h ⟨l[j], List.getElem?_eq_getElem hj, ?_⟩
    simp only [Np.labelByte, Bool.or_eq_true, beq_iff_eq] at hb
    rcases hb with (hb | hb) | hb
    · exact .inl hb
    · exact .inr (.inl hb)
    · refine .inr (.inr ⟨hb, ?_, ?_⟩)
      · refine Nat.pos_of_ne_zero fun e => ?_
        subst e
        rw [List.head?_eq_getElem?, List.getElem?_eq_getElem hj, hb] at h2
        exact h2 rfl
      · refine Nat.lt_of_not_le fun e => ?_
        have : j = l.length - 1 := by omega
        rw [List.getLast?_eq_getElem?, ← this, List.getElem?_eq_getElem hj, hb] at h3
        exact h3 rfl
theorem okAt_num (s : ByteArray) (k : Nat) (hk : k < s.size) : okAt s.data.toList k ↔ ((97 ≤ (s[k].toNat : Int) ∧ (s[k].toNat : Int) ≤ 122) ∨ (48 ≤ (s[k].toNat : Int) ∧ (s[k].toNat : Int) ≤ 57) ∨ ((s[k].toNat : Int) = 45 ∧ 0 < k ∧ k + 1 < s.size)) := by
  unfold okAt
  rw [get_list s k hk]
  simp only [Option.some.injEq, exists_eq_left']
  have h45 : s[k] = 45 ↔ (s[k].toNat : Int) = 45 := by
    constructor
    · intro h; rw [h]; rfl
    · intro h; apply UInt8.toNat_inj.1; have : s[k].toNat = 45 := by omega
      rw [this]; rfl
  rw [h45, size_list]
  unfold Np.isLow Np.isDig
  simp only [Bool.and_eq_true, decide_eq_true_eq, UInt8.le_iff_toNat_le]
  have e1 : (97 : UInt8).toNat = 97 := rfl
  have e2 : (122 : UInt8).toNat = 122 := rfl
  have e3 : (48 : UInt8).toNat = 48 := rfl
  have e4 : (57 : UInt8).toNat = 57 := rfl
  rw [e1, e2, e3, e4]
  omega
set_option maxHeartbeats 1000000 in
theorem refLabel_any (s : ByteArray) (hs : s.size ≤ 140737488355328) (w : World) :
    Calls Tryz.prog 78 #[.string s] w fun e w' => e = .returned (.bool (Np.isLabel s.data.toList)) ∧ w = w' := by
  go_enter Tryz.func78, Tryz.ntmps78
  go_wp2
  go_loop [3] (fun i => ∃ k : Nat, k ≤ s.size ∧ i = .int .i64 k ∧ Hid (∀ j, j < k → okAt s.data.toList j)) (fun i => s.size - (intOf i).toNat)
  case atStart => exact ⟨0, Nat.zero_le _, rfl, Lib.hid (fun j h => by omega)⟩
  case round =>
    obtain ⟨k, hk, rfl, HA⟩ := hrel
    by_cases hlt : k < s.size
    · have hb := u8_bd s[k]
      have HN := Lib.hid (okAt_num s k hlt)
      have hnext : okAt s.data.toList k → ∀ j, j < k + 1 → okAt s.data.toList j := fun h j hj => by
        by_cases e : j = k
        · subst e; exact h
        · exact HA.out j (by omega)
      have HX := Lib.hid hnext
      clear hnext
      have hk0 : (0 : Int) ≤ k := by omega
      by_cases h45 : (s[k].toNat : Int) = 45
      · have hE : ((s[k].toNat : Int) == 45) = true := by simp [h45]
        have H45 := Lib.hid h45
        have hlo : (s[k].toNat : Int) < 48 := by omega
        have hlo2 : (s[k].toNat : Int) < 97 := by omega
        clear h45
        by_cases hin : 0 < k ∧ k + 1 < s.size
        · obtain ⟨h1, h2⟩ := hin
          have h3 : (0 : Int) < k := by omega
          have h4 : (k : Int) < (s.size : Int) - 1 := by omega
          go_wp2
          go_round
          case rel => exact ⟨k + 1, by omega, by go_num, Lib.hid (HX.out (HN.out.2 (.inr (.inr ⟨H45.out, h1, h2⟩))))⟩
          case measure => simp [intOf] <;> omega
        · have HI := Lib.hid hin
          clear hin
          go_wp2
          all_goals first
            | (go_ret
               exact ⟨ret_bool (isLabel_no (by rw [size_list]; exact hlt) (fun h => by have := HN.out.1 h; have := HI.out; omega)).symm, rfl⟩)
            | (exfalso; have := HI.out; omega)
      · have hE : ((s[k].toNat : Int) == 45) = false := by simp [h45]
        have H45 := Lib.hid h45
        clear h45
        go_wp2
        all_goals first
          | (go_ret
             exact ⟨ret_bool (isLabel_no (by rw [size_list]; exact hlt) (fun h => by have := HN.out.1 h; have := H45.out; omega)).symm, rfl⟩)
          | (go_round
             case rel => exact ⟨k + 1, by omega, by go_num, Lib.hid (HX.out (HN.out.2 (by omega)))⟩
             case measure => simp [intOf] <;> omega)
    · have hf : Np.isLabel s.data.toList = (decide (1 ≤ s.size) && decide (s.size ≤ 12)) := isLabel_ok (fun j hj => HA.out j (by rw [size_list] at hj; omega))
      have HF := Lib.hid hf
      clear hf
      go_wp2
      all_goals
        go_ret
        exact ⟨ret_bool (by rw [HF.out, Bool.eq_iff_iff]; simp; omega), rfl⟩
set_option maxHeartbeats 1000000 in
theorem refText_any (s : ByteArray) (hs : s.size ≤ 140737488355328) (w : World) :
    Calls Tryz.prog 81 #[.string s] w fun e w' => e = .returned (.bool (Np.isFree s.data.toList)) ∧ w = w' := by
  go_enter Tryz.func81, Tryz.ntmps81
  go_wp2
  all_goals first
    | (go_ret; exact ⟨ret_bool (isFree_1 s ‹_›).symm, rfl⟩)
    | (go_ret; exact ⟨ret_bool (isFree_2 s ‹_›).symm, rfl⟩)
    | (go_ret; exact ⟨ret_bool (isFree_3 s (by omega) ‹_›).symm, rfl⟩)
    | (have h : ((s[s.size - 1].toNat : Int) == 32) = true := by assumption
       go_ret
       exact ⟨ret_bool (isFree_4 s (by omega) (by simpa using h)).symm, rfl⟩)
    | skip
  · have h2 : (s.size : Int) ≤ 40 := by assumption
    have h3 : ¬ (s[0].toNat : Int) = 32 := by assumption
    have h4 : ((s[s.size - 1].toNat : Int) == 32) = false := by assumption
    have H4 := Lib.hid h4
    clear h4
    have H3 := Lib.hid h3
    go_loop [4] (fun i => ∃ k : Nat, k ≤ s.size ∧ i = .int .i64 k ∧ (s.data.toList.take k).all Np.freeByte = true) (fun i => s.size - (intOf i).toNat)
    case atStart => exact ⟨0, Nat.zero_le _, rfl, rfl⟩
    case round =>
      obtain ⟨k, hk, rfl, ha⟩ := hrel
      have HA := Lib.hid ha
      clear ha
      by_cases hlt : k < s.size
      · have hb := u8_bd s[k]
        by_cases hf : (97 ≤ (s[k].toNat : Int) ∧ (s[k].toNat : Int) ≤ 122) ∨ (48 ≤ (s[k].toNat : Int) ∧ (s[k].toNat : Int) ≤ 57) ∨ (s[k].toNat : Int) = 32
        · have hl : Np.freeByte s[k] = true := by rw [freeByte_eq]; exact decide_eq_true hf
          have HL := Lib.hid hl
          clear hl
          go_wp2
          all_goals first
            | (go_round
               case rel => exact ⟨k + 1, by omega, by go_num, all_snoc s k hlt _ HA.out HL.out⟩
               case measure => simp [intOf] <;> omega)
            | (exfalso
               have hne : ((s[k].toNat : Int) != 32) = true := by assumption
               have hne' := bne_iff_ne.1 hne
               omega)
        · have hl : Np.freeByte s[k] = false := by rw [freeByte_eq]; exact decide_eq_false hf
          have HL := Lib.hid hl
          clear hl
          go_wp2
          all_goals first
            | (go_ret; exact ⟨ret_bool (isFree_5 s k hlt HL.out).symm, rfl⟩)
            | (exfalso; omega)
            | (exfalso
               have hne : ((s[k].toNat : Int) != 32) = false := by assumption
               have hne' : (s[k].toNat : Int) = 32 := by simpa using hne
               omega)
      · go_wp2
        go_ret
        exact ⟨ret_bool (isFree_6 s (by omega) (by omega) H3.out (by simpa using H4.out) (by have := HA.out; rwa [take_all s k (by omega)] at this)).symm, rfl⟩
theorem refWild_any (s : ByteArray) (hs : s.size ≤ 140737488355328) (w : World) :
    Calls Tryz.prog 45 #[.string s] w fun e w' => e = .returned (.bool (Np.isWild s.data.toList)) ∧ w = w' := by
  by_cases h0 : 0 < s.size
  · have he : ((s[0].toNat : Int) == 42) = Np.isWild s.data.toList := by
      unfold Np.isWild
      rw [head_list s h0]
      have := u8_eq s[0] 42 (by decide)
      rw [Bool.eq_iff_iff] at this ⊢
      simp only [beq_iff_eq, decide_eq_true_eq, Option.some.injEq] at this ⊢
      exact this.symm
    have HE := Lib.hid he
    clear he
    go_enter Tryz.func45, Tryz.ntmps45
    go_wp2
    all_goals
      go_ret
      exact ⟨ret_bool HE.out, rfl⟩
  · have he : Np.isWild s.data.toList = false := by
      have : s.data.toList = [] := List.eq_nil_of_length_eq_zero (by rw [size_list]; omega)
      rw [this]; rfl
    have HE := Lib.hid he
    clear he
    go_enter Tryz.func45, Tryz.ntmps45
    go_wp2
    all_goals
      go_ret
      exact ⟨ret_bool HE.out.symm, rfl⟩
theorem refWithin_any (x lo hi : Int) (w : World) :
    Calls Tryz.prog 48 #[.int .i64 x, .int .i64 lo, .int .i64 hi] w fun e w' => e = .returned (.bool (decide (lo ≤ x) && decide (x ≤ hi))) ∧ w = w' := by
  by_cases h1 : lo ≤ x
  all_goals
    go_enter Tryz.func48, Tryz.ntmps48
    go_wp2
    go_ret
    exact ⟨ret_bool (by simp; omega), rfl⟩
theorem refSingle_any (x : Int) (w : World) :
    Calls Tryz.prog 49 #[.int .i64 x] w fun e w' => e = .returned (.bool (decide (x = 3) || decide (x = 4))) ∧ w = w' := by
  by_cases h1 : x = 3
  · subst h1
    go_enter Tryz.func49, Tryz.ntmps49
    go_wp2
    go_ret
    exact ⟨rfl, rfl⟩
  · have h2 : (x == 3) = false := by simpa using h1
    go_enter Tryz.func49, Tryz.ntmps49
    go_wp2
    go_ret
    refine ⟨ret_bool ?_, rfl⟩
    rw [decide_eq_false h1, Bool.false_or]
    rfl
set_option maxHeartbeats 1000000 in
theorem refLess_any (s t : ByteArray) (n1 m1 n2 m2 : Int) (w : World) :
    Calls Tryz.prog 51 #[.agg #[.string s, .int .i64 n1, .int .i64 m1], .agg #[.string t, .int .i64 n2, .int .i64 m2]] w
      fun e w' => e = .returned (.bool (decide (Np.cmpD ⟨s.data.toList, n1, m1⟩ ⟨t.data.toList, n2, m2⟩ < 0))) ∧ Below w.heap.size w w' := by
  rw [← Np.lessD_cmp]
  have hw : ∀ o o', Below w.heap.size w ((w.alloc o).alloc o') := fun o o' => ((Below.refl _ w).alloc (Nat.le_refl _) _).alloc (by simp) _
  have HW := Lib.hid hw
  clear hw
  go_enter Tryz.func51, Tryz.ntmps51
  go_wp2
  all_goals
    go_ret
    refine ⟨ret_bool ?_, HW.out _ _⟩
    go_light
    simp_all [Np.lessD, ByteArray.toList_eq]
end Go.Proofs.YtnbolgdccdnjeaaGreatDoor
/- Contracts of the reference of layer 1: which texts are names, which are under others, and their order. -/
namespace Go.Proofs.YtnbolgdccdnjeaaGreatDoor
open Go.RowKit
theorem refLabel_l (x : List UInt8) (hx : x.length ≤ 140737488355328) (w : World) : Calls Tryz.prog 78 #[strs x] w fun e w' => e = .returned (.bool (Np.isLabel x)) ∧ w = w' := by
  have := refLabel_any ⟨x.toArray⟩ (by rw [← size_list]; simpa using hx) w
  simpa using this
def okLab (l : List (List UInt8)) (j : Nat) : Prop := ∃ x, l[j]? = some x ∧ (Np.isLabel x = true ∨ (j = 0 ∧ x = [42]))
theorem labelsOk_yes {l : List (List UInt8)} (h : ∀ j, j < l.length → okLab l j) : Np.labelsOk l = true := by
  cases l with
  | nil => rfl
  | cons a t =>
    unfold Np.labelsOk
    rw [Bool.and_eq_true]
    constructor
    · obtain ⟨x, hx, ho⟩ := h 0 (by simp)
      simp at hx; subst hx
      rcases ho with ho | ⟨_, ho⟩ <;> simp [ho]
    · rw [List.all_eq_true]
      intro y hy
      obtain ⟨j, hj, rfl⟩ := List.mem_iff_getElem.1 hy
      obtain ⟨x, hx, ho⟩ := h (j + 1) (by simpa using hj)
      simp only [List.getElem?_cons_succ, List.getElem?_eq_getElem hj, Option.some.injEq] at hx
      rcases ho with ho | ⟨h0, _⟩
      · rw [hx]; exact ho
      · omega
theorem labelsOk_no {l : List (List UInt8)} {j : Nat} {x : List UInt8} (hx : l[j]? = some x) (h1 : Np.isLabel x = false) (h2 : j = 0 → x ≠ [42]) : Np.labelsOk l = false := by
  cases l with
  | nil => simp at hx
  | cons a t =>
    unfold Np.labelsOk
    cases j with
    | zero => simp at hx; subst hx; simp [h1, h2 rfl]
    | succ j =>
      have : t.all Np.isLabel = false := by
        rw [List.all_eq_false]
        exact ⟨x, List.mem_of_getElem? (by simpa using hx), by simp [h1]⟩
      show ((Np.isLabel a || a == [42]) && t.all Np.isLabel) = false
      rw [this, Bool.and_false]
theorem split_count : ∀ l : List UInt8, (Np.splitDots l).length ≤ l.length + 1 := by
  intro l
  induction l with
  | nil => simp [Np.splitDots]
  | cons c r ih =>
    rw [Np.splitDots]
    split
    · simp; omega
    · split
      · rename_i x xs hx; rw [hx] at ih; simp at ih ⊢; omega
      · simp
set_option maxRecDepth 100000 in
set_option maxHeartbeats 2000000 in
theorem refValid_any (s : ByteArray) (hs : s.size ≤ 140737488355328) (w : World) :
    Calls Tryz.prog 44 #[.string s] w fun e w' => e = .returned (.bool (Np.validName s.data.toList)) ∧ Below w.heap.size w w' := by
  rw [Np.validName_ref]
  by_cases h : s.data.toList = [46]
  · have he : (s.toList == [46]) = true := by rw [ByteArray.toList_eq, h]; rfl
    rw [if_pos h]
    clear h
    go_enter Tryz.func44, Tryz.ntmps44
    go_wp2_with fail
    go_ret
    exact ⟨rfl, Below.refl _ _⟩
  · have he : (s.toList == [46]) = false := by rw [ByteArray.toList_eq]; simpa using h
    rw [if_neg h]
    clear h
    by_cases h60 : 60 < s.size
    · rw [if_pos (by rw [size_list]; exact h60)]
      have h6 : 60 < (s.size : Int) := by omega
      go_enter Tryz.func44, Tryz.ntmps44
      go_wp2_with fail
      go_ret
      exact ⟨rfl, Below.refl _ _⟩
    · rw [if_neg (by rw [size_list]; exact h60)]
      have h6 : (s.size : Int) ≤ 60 := by omega
      have hlen := split_count s.data.toList
      have hmem : ∀ y ∈ Np.splitDots s.data.toList, y.length ≤ 60 := fun y hy => by have := Np.splitDots_len hy; rw [size_list] at this; omega
      rw [size_list] at hlen
      generalize hL : Np.splitDots s.data.toList = l at *
      have HM := Lib.hid hmem
      have HLL := Lib.hid hL
      clear hmem hL
      go_enter Tryz.func44, Tryz.ntmps44
      go_wp2_with fail
      refine (refSplit_any s (by omega) _).mono ?_
      rw [HLL.out]
      rintro e w1 ⟨v, rfl, hv, hb⟩
      have HV := Lib.hid hv
      have HB := Lib.hid hb
      obtain ⟨A, c, rfl, hc, _, _⟩ := hv
      clear hb
      go_wp2_with fail
      go_loop [4] (fun i => ∃ k : Nat, k ≤ l.length ∧ i = .int .i64 k ∧ Hid (∀ j, j < k → okLab l j)) (fun i => l.length - (intOf i).toNat)
      case atStart => exact ⟨0, Nat.zero_le _, rfl, Lib.hid (fun j h => by omega)⟩
      case round =>
        obtain ⟨k, hk, rfl, HA⟩ := hrel
        by_cases hlt : k < l.length
        · obtain ⟨b, o, c', hA, _, _, hcell⟩ := str_at HV.out (List.getElem?_eq_getElem hlt)
          cases hA
          have hx := HM.out _ (List.getElem_mem hlt)
          have hget : l[k]? = some l[k] := List.getElem?_eq_getElem hlt
          generalize l[k] = x at *
          have HG := Lib.hid hget
          clear hget
          have hnext : okLab l k → ∀ j, j < k + 1 → okLab l j := fun h j hj => by
            by_cases e : j = k
            · subst e; exact h
            · exact HA.out j (by omega)
          have HX := Lib.hid hnext
          clear hnext
          cases hl : Np.isLabel x with
          | true =>
            have HL := Lib.hid hl
            go_wp2_with (go_at_call 78; refine (refLabel_l _ (by omega) _).mono ?_; rintro e w' ⟨rfl, rfl⟩)
            go_round
            case rel => exact ⟨k + 1, by omega, by go_num, Lib.hid (HX.out ⟨_, HG.out, .inl HL.out⟩)⟩
            case measure => simp [intOf] <;> omega
          | false =>
            have HL := Lib.hid hl
            by_cases hk0 : k = 0
            · subst hk0
              simp only [Nat.add_zero] at hcell
              by_cases h42 : x = [42]
              · subst h42
                go_wp2_with (go_at_call 78; refine (refLabel_l _ (by simp) _).mono ?_; rintro e w' ⟨rfl, rfl⟩)
                go_round
                case rel => exact ⟨1, by omega, by go_num, Lib.hid (HX.out ⟨_, HG.out, .inr ⟨rfl, rfl⟩⟩)⟩
                case measure => simp [intOf] <;> omega
              · have hne : (x == [42]) = false := by simpa using h42
                go_wp2_with (go_at_call 78; refine (refLabel_l _ (by omega) _).mono ?_; rintro e w' ⟨rfl, rfl⟩)
                go_ret
                exact ⟨ret_bool (by rw [labelsOk_no HG.out HL.out (fun _ => h42)]; rfl), HB.out⟩
            · have hkp : (0 : Int) < k := by omega
              go_wp2_with (go_at_call 78; refine (refLabel_l _ (by omega) _).mono ?_; rintro e w' ⟨rfl, rfl⟩)
              go_ret
              exact ⟨ret_bool (by rw [labelsOk_no HG.out HL.out (fun e => absurd e hk0)]; rfl), HB.out⟩
        · have hok : Np.labelsOk l = true := labelsOk_yes (fun j hj => HA.out j (by omega))
          have HOK := Lib.hid hok
          clear hok
          go_wp2_with fail
          go_ret
          exact ⟨ret_bool (by rw [HOK.out, Bool.true_and, Bool.eq_iff_iff]; simp; omega), HB.out⟩
set_option maxRecDepth 100000 in
set_option maxHeartbeats 2000000 in
theorem refIn_any (s z : ByteArray) (hs : s.size ≤ 1000) (hz : z.size ≤ 1000) (w : World) :
    Calls Tryz.prog 46 #[.string s, .string z] w fun e w' => e = .returned (.bool (Np.inL (Np.parts s.data.toList) (Np.parts z.data.toList))) ∧ Below w.heap.size w w' := by
  have hcount : ∀ t : ByteArray, t.size ≤ 1000 → (Np.parts t.data.toList).length ≤ 1001 := fun t ht => by
    unfold Np.parts
    split
    · simp
    · have := split_count t.data.toList; rw [size_list] at this; omega
  have hl1 := hcount s hs
  have hl2 := hcount z hz
  clear hcount
  generalize hL1 : Np.parts s.data.toList = l at *
  generalize hL2 : Np.parts z.data.toList = m at *
  have HL1 := Lib.hid hL1
  have HL2 := Lib.hid hL2
  clear hL1 hL2
  go_enter Tryz.func46, Tryz.ntmps46
  go_wp2_with fail
  refine (refParts_any s (by omega) _).mono ?_
  rw [HL1.out]
  rintro e w1 ⟨v, rfl, hv, hb⟩
  have HV := Lib.hid hv
  have HB := Lib.hid hb
  obtain ⟨A, c, rfl, hc, _, _⟩ := hv
  clear hb
  go_wp2_with fail
  refine (refParts_any z (by omega) _).mono ?_
  rw [HL2.out]
  rintro e w2 ⟨v2, rfl, hv2, hb2⟩
  have HV1 := Lib.hid ((HV.out.keep rst_kept hb2).more rst_more hb2.size)
  have HV2 := Lib.hid hv2
  have HB2 := Lib.hid (HB.out.trans (hb2.mono HB.out.size))
  obtain ⟨A2, c2, rfl, hc2, _, _⟩ := hv2
  clear hb2 HV
  by_cases hlen : m.length ≤ l.length
  · have hle : (m.length : Int) ≤ (l.length : Int) := by omega
    go_wp2_with fail
    go_loopw [7] (fun i wr => ∃ k : Nat, k ≤ m.length ∧ i = .int .i64 k ∧ Hid (∀ j, j < k → l[l.length - m.length + j]? = m[j]?) ∧ Hid (Below w2.heap.size w2 wr)) (fun i _ => m.length - (intOf i).toNat)
    case atStart => exact ⟨0, Nat.zero_le _, rfl, Lib.hid (fun j h => by omega), Lib.hid (Below.refl _ _)⟩
    case round =>
      obtain ⟨k, hk, rfl, HA, HW⟩ := hrel
      by_cases hlt : k < m.length
      · obtain ⟨b, o, c', hA, _, _, hcell⟩ := str_at (HV1.out.keep rst_kept HW.out) (List.getElem?_eq_getElem (show l.length - m.length + k < l.length by omega))
        cases hA
        obtain ⟨b2, o2, c2', hA2, _, _, hcell2⟩ := str_at (HV2.out.keep rst_kept HW.out) (List.getElem?_eq_getElem hlt)
        cases hA2
        have hget1 : l[l.length - m.length + k]? = some l[l.length - m.length + k] := List.getElem?_eq_getElem _
        have hget2 : m[k]? = some m[k] := List.getElem?_eq_getElem hlt
        generalize l[l.length - m.length + k] = x at *
        generalize m[k] = y at *
        have HG1 := Lib.hid hget1
        have HG2 := Lib.hid hget2
        clear hget1 hget2
        have hw1 : IntKind.i64.wrap ((l.length : Int) - (m.length : Int)) = (l.length : Int) - m.length := IntWalk.i64_in _ (by omega)
        have hw2 : IntKind.i64.wrap ((l.length : Int) - (m.length : Int) + k) = (l.length : Int) - m.length + k := IntWalk.i64_in _ (by omega)
        have e1 : (0 : Int) ≤ (l.length : Int) - m.length + k := by omega
        have e2 : (l.length : Int) - m.length + k < l.length := by omega
        have e3 : ((l.length : Int) - m.length + k).toNat = l.length - m.length + k := by omega
        have e4 : (0 : Int) ≤ k := by omega
        have e5 : (k : Int) < m.length := by omega
        by_cases hxy : x = y
        · have hne : (!x == y) = false := by simp [hxy]
          have HXY := Lib.hid hxy
          clear hxy
          go_wp2_with fail
          go_quiet (fail)
          go_wp2_with fail
          go_roundw
          case rel =>
            refine ⟨k + 1, by omega, by go_num, Lib.hid (fun j hj => ?_), Lib.hid (below_drewN HW.out _)⟩
            by_cases e : j = k
            · subst e; rw [HG1.out, HG2.out, HXY.out]
            · exact HA.out j (by omega)
          case measure => simp [intOf] <;> omega
        · have hne : (!x == y) = true := by simp [hxy]
          have HXY := Lib.hid hxy
          clear hxy
          go_wp2_with fail
          go_quiet (fail)
          go_wp2_with fail
          go_ret
          refine ⟨ret_bool ?_, HB2.out.trans ((below_drewN HW.out _).mono HB2.out.size)⟩
          symm
          unfold Np.inL
          rw [decide_eq_true hlen, Bool.true_and, beq_eq_false_iff_ne]
          intro h
          have h1 := congrArg (·[k]?) h
          simp only [List.getElem?_drop] at h1
          rw [HG1.out, HG2.out] at h1
          exact HXY.out (Option.some.inj h1)
      · go_wp2_with fail
        go_ret
        refine ⟨ret_bool ?_, HB2.out.trans (HW.out.mono HB2.out.size)⟩
        symm
        unfold Np.inL
        rw [decide_eq_true hlen, Bool.true_and, beq_iff_eq]
        apply List.ext_getElem?
        intro j
        rw [List.getElem?_drop]
        by_cases hj : j < m.length
        · exact HA.out j (by omega)
        · rw [List.getElem?_eq_none (by omega), List.getElem?_eq_none (by omega)]
  · have hle : (l.length : Int) < (m.length : Int) := by omega
    go_wp2_with fail
    go_ret
    exact ⟨ret_bool (by unfold Np.inL; rw [decide_eq_false hlen]; rfl), HB2.out⟩
theorem rev_nil {l : List (List UInt8)} {k : Nat} (h : l.length ≤ k) : l.reverse.drop k = [] := List.drop_eq_nil_of_le (by simpa using h)
theorem rev_cons {l : List (List UInt8)} {k : Nat} (h : k < l.length) : ∃ x r, l.reverse.drop k = x :: r := ⟨_, _, List.drop_eq_getElem_cons (by simpa using h)⟩
set_option maxRecDepth 100000 in
set_option maxHeartbeats 2000000 in
theorem refOrder_any (s z : ByteArray) (hs : s.size ≤ 1000) (hz : z.size ≤ 1000) (w : World) :
    Calls Tryz.prog 129 #[.string s, .string z] w fun e w' => e = .returned (.int .i64 (Np.cmpName s.data.toList z.data.toList)) ∧ Below w.heap.size w w' := by
  rw [Np.cmpName_ref, ← Np.parts_back, ← Np.parts_back]
  have hcount : ∀ t : ByteArray, t.size ≤ 1000 → (Np.parts t.data.toList).length ≤ 1001 := fun t ht => by
    unfold Np.parts
    split
    · simp
    · have := split_count t.data.toList; rw [size_list] at this; omega
  have hl1 := hcount s hs
  have hl2 := hcount z hz
  clear hcount
  generalize hL1 : Np.parts s.data.toList = l at *
  generalize hL2 : Np.parts z.data.toList = m at *
  have HL1 := Lib.hid hL1
  have HL2 := Lib.hid hL2
  clear hL1 hL2
  go_enter Tryz.func129, Tryz.ntmps129
  go_wp2_with fail
  refine (refParts_any s (by omega) _).mono ?_
  rw [HL1.out]
  rintro e w1 ⟨v, rfl, hv, hb⟩
  have HV := Lib.hid hv
  have HB := Lib.hid hb
  obtain ⟨A, c, rfl, hc, _, _⟩ := hv
  clear hb
  go_wp2_with fail
  refine (refParts_any z (by omega) _).mono ?_
  rw [HL2.out]
  rintro e w2 ⟨v2, rfl, hv2, hb2⟩
  have HV1 := Lib.hid ((HV.out.keep rst_kept hb2).more rst_more hb2.size)
  have HV2 := Lib.hid hv2
  have HB2 := Lib.hid (HB.out.trans (hb2.mono HB.out.size))
  obtain ⟨A2, c2, rfl, hc2, _, _⟩ := hv2
  clear hb2 HV
  go_wp2_with fail
  go_loop [7] (fun i => ∃ k : Nat, k ≤ l.length ∧ k ≤ m.length ∧ i = .int .i64 ((k : Int) + 1) ∧ Hid (Np.ordR l.reverse m.reverse = Np.ordR (l.reverse.drop k) (m.reverse.drop k))) (fun i => l.length + 1 - (intOf i).toNat)
  case atStart => exact ⟨0, Nat.zero_le _, Nat.zero_le _, rfl, Lib.hid rfl⟩
  case round =>
    obtain ⟨k, hk1, hk2, rfl, HA⟩ := hrel
    by_cases hlt1 : k < l.length
    · by_cases hlt2 : k < m.length
      · obtain ⟨b, o, c', hA, _, _, hcell⟩ := str_at HV1.out (List.getElem?_eq_getElem (show l.length - (k + 1) < l.length by omega))
        cases hA
        obtain ⟨b2, o2, c2', hA2, _, _, hcell2⟩ := str_at HV2.out (List.getElem?_eq_getElem (show m.length - (k + 1) < m.length by omega))
        cases hA2
        have hget1 : l.reverse.drop k = l[l.length - (k + 1)] :: l.reverse.drop (k + 1) := by
          rw [List.drop_eq_getElem_cons (by simpa using hlt1), List.getElem_reverse]
          congr 2; omega
        have hget2 : m.reverse.drop k = m[m.length - (k + 1)] :: m.reverse.drop (k + 1) := by
          rw [List.drop_eq_getElem_cons (by simpa using hlt2), List.getElem_reverse]
          congr 2; omega
        generalize l[l.length - (k + 1)] = x at *
        generalize m[m.length - (k + 1)] = y at *
        have hstep : Np.ordR (l.reverse.drop k) (m.reverse.drop k) = if Np.cmpS x y ≠ 0 then Np.cmpS x y else Np.ordR (l.reverse.drop (k + 1)) (m.reverse.drop (k + 1)) := by rw [hget1, hget2, Np.ordR]
        have HS := Lib.hid hstep
        clear hget1 hget2 hstep
        have g1 : ((l.length : Int) - ((k : Int) + 1)).toNat = l.length - (k + 1) := by omega
        have g2 : ((m.length : Int) - ((k : Int) + 1)).toNat = m.length - (k + 1) := by omega
        have f1 : (k : Int) + 1 ≤ l.length := by omega
        have f2 : (k : Int) + 1 ≤ m.length := by omega
        rcases Np.cmpS_eqs x y with ⟨h1, h2⟩ | ⟨h1, h2, hn, h3⟩ | ⟨h1, h2, hn, h3⟩
        · have H2 := Lib.hid h2
          clear h2
          go_wp2_with fail
          go_ret
          exact ⟨ret_int (by rw [HA.out, HS.out, H2.out]; rfl), HB2.out⟩
        · have H3 := Lib.hid h3
          have hne : (!x == y) = true := by simp [hn]
          clear h3 hn
          go_wp2_with fail
          go_ret
          exact ⟨ret_int (by rw [HA.out, HS.out, H3.out]; rfl), HB2.out⟩
        · have H3 := Lib.hid h3
          have hne : (!x == y) = false := by simp [hn]
          clear h3 hn
          go_wp2_with fail
          go_round
          case rel => exact ⟨k + 1, by omega, by omega, by go_num, Lib.hid (by rw [HA.out, HS.out, H3.out]; rfl)⟩
          case measure => simp [intOf] <;> omega
      · have hm : k = m.length := by omega
        have hn2 : (m.length : Int) < (k : Int) + 1 := by omega
        have hn1 : (k : Int) + 1 ≤ l.length := by omega
        have hn3 : (m.length : Int) < (l.length : Int) := by omega
        have hv : Np.ordR l.reverse m.reverse = 1 := by
          obtain ⟨x, r, e⟩ := rev_cons hlt1
          rw [HA.out, rev_nil (l := m) (by omega), e]; rfl
        have HVV := Lib.hid hv
        clear hv hm
        go_wp2_with fail
        go_ret
        exact ⟨ret_int HVV.out.symm, HB2.out⟩
    · have hl : k = l.length := by omega
      have hn1 : (l.length : Int) < (k : Int) + 1 := by omega
      by_cases hlt2 : k < m.length
      · have hn3 : (l.length : Int) < (m.length : Int) := by omega
        have hv : Np.ordR l.reverse m.reverse = -1 := by
          obtain ⟨x, r, e⟩ := rev_cons hlt2
          rw [HA.out, rev_nil (l := l) (by omega), e]; rfl
        have HVV := Lib.hid hv
        clear hv hl
        go_wp2_with fail
        go_ret
        exact ⟨ret_int HVV.out.symm, HB2.out⟩
      · have hn3 : (l.length : Int) ≤ (m.length : Int) := by omega
        have hn4 : (m.length : Int) ≤ (l.length : Int) := by omega
        have hv : Np.ordR l.reverse m.reverse = 0 := by
          rw [HA.out, rev_nil (l := l) (by omega), rev_nil (l := m) (by omega)]; rfl
        have HVV := Lib.hid hv
        clear hv hl
        go_wp2_with fail
        go_ret
        exact ⟨ret_int HVV.out.symm, HB2.out⟩
/-- What Compare hands back of two names. -/
theorem refCompare_any (s z : ByteArray) (hs : s.size ≤ 1000) (hz : z.size ≤ 1000) (h1 : Np.validName s.data.toList = true) (h2 : Np.validName z.data.toList = true) (w : World) :
    Calls Tryz.prog 80 #[.string s, .string z] w fun e w' => e = .returned (.tuple #[.int .i64 (Np.cmpName s.data.toList z.data.toList), .int .i64 0]) ∧ Below w.heap.size w w' := by
  have H1 := Lib.hid h1
  have H2 := Lib.hid h2
  clear h1 h2
  go_enter Tryz.func80, Tryz.ntmps80
  go_wp2_with fail
  refine (refValid_any s (by omega) _).mono ?_
  rintro e w1 ⟨rfl, hb1⟩
  have HB1 := Lib.hid hb1
  clear hb1
  rw [H1.out]
  go_wp2_with fail
  refine (refValid_any z (by omega) _).mono ?_
  rintro e w2 ⟨rfl, hb2⟩
  have HB2 := Lib.hid (HB1.out.trans (hb2.mono HB1.out.size))
  clear hb2
  rw [H2.out]
  go_wp2_with fail
  refine (refOrder_any s z hs hz _).mono ?_
  rintro e w3 ⟨rfl, hb3⟩
  have HB3 := Lib.hid (HB2.out.trans (hb3.mono HB2.out.size))
  clear hb3
  go_wp2_with fail
  go_ret2
  exact ⟨rfl, HB3.out⟩
end Go.Proofs.YtnbolgdccdnjeaaGreatDoor
/- Contracts of the reference of layer 2: which data and sets are valid; the order of sets. -/
namespace Go.Proofs.YtnbolgdccdnjeaaGreatDoor
open Go.RowKit
set_option maxRecDepth 100000 in
set_option maxHeartbeats 4000000 in
theorem refDatum_any (k : Nat) (h1 : 1 ≤ k) (h8 : k ≤ 8) (s : ByteArray) (hs : s.size ≤ 140737488355328) (n m : Int) (w : World) :
    Calls Tryz.prog 50 #[.int .i64 k, .agg #[.string s, .int .i64 n, .int .i64 m]] w
      fun e w' => e = .returned (.bool (Np.validDatum (Np.ruleOf k) ⟨s.data.toList, n, m⟩)) ∧ Below w.heap.size w w' := by
  have hk : k = 1 ∨ k = 2 ∨ k = 3 ∨ k = 4 ∨ k = 5 ∨ k = 6 ∨ k = 7 ∨ k = 8 := by omega
  rcases hk with rfl | rfl | rfl | rfl | rfl | rfl | rfl | rfl
  all_goals
    go_enter Tryz.func50, Tryz.ntmps50
    go_wp2_with (first
      | (go_at_call 48; refine (refWithin_any _ _ _ _).mono ?_; rintro e w' ⟨rfl, rfl⟩)
      | (go_at_call 44; refine (refValid_any _ hs _).mono ?_; rintro e w' ⟨rfl, hb⟩; obtain ⟨hc, hf⟩ := bcell hb)
      | (go_at_call 45; refine (refWild_any _ hs _).mono ?_; rintro e w' ⟨rfl, rfl⟩)
      | (go_at_call 81; refine (refText_any _ hs _).mono ?_; rintro e w' ⟨rfl, rfl⟩))
    all_goals
      go_ret
      go_light
      refine ⟨ret_bool ?_, ?_⟩
      · simp_all [Np.validDatum, Np.validText, Np.ruleOf, Np.rules, ByteArray.toList_eq] <;> (intros; first | omega | (rw [Bool.eq_iff_iff]; simp; omega) | (rw [Bool.eq_iff_iff]; simp; intros; omega) | (rw [Int.tmod_eq_emod_of_nonneg (by omega)]; first | omega | (rw [Bool.eq_iff_iff]; simp; omega)) | show False)
      · first
          | exact (Below.refl _ w).alloc (Nat.le_refl _) _
          | exact ((Below.refl _ w).alloc (Nat.le_refl _) _).trans (hb.mono (by simp))
end Go.Proofs.YtnbolgdccdnjeaaGreatDoor
/- Contracts of the reference of layer 2: which sets are valid; the order of sets. -/
namespace Go.Proofs.YtnbolgdccdnjeaaGreatDoor
open Go.RowKit
theorem rule_single (k : Nat) (h1 : 1 ≤ k) (h8 : k ≤ 8) : (Np.ruleOf k).single = (decide ((k : Int) = 3) || decide ((k : Int) = 4)) := by
  have hk : k = 1 ∨ k = 2 ∨ k = 3 ∨ k = 4 ∨ k = 5 ∨ k = 6 ∨ k = 7 ∨ k = 8 := by omega
  rcases hk with rfl | rfl | rfl | rfl | rfl | rfl | rfl | rfl <;> rfl
theorem rule_wild (k : Nat) (h1 : 1 ≤ k) (h8 : k ≤ 8) : (Np.ruleOf k).wild = (decide ((k : Int) = 1) || decide ((k : Int) = 5) || decide ((k : Int) = 8)) := by
  have hk : k = 1 ∨ k = 2 ∨ k = 3 ∨ k = 4 ∨ k = 5 ∨ k = 6 ∨ k = 7 ∨ k = 8 := by omega
  rcases hk with rfl | rfl | rfl | rfl | rfl | rfl | rfl | rfl <;> rfl
theorem refDatum_bool (k : Nat) (h1 : 1 ≤ k) (h8 : k ≤ 8) (s : ByteArray) (hs : s.size ≤ 140737488355328) (n m : Int) (w : World) (t : Bool) (ht : Np.validDatum (Np.ruleOf k) ⟨s.data.toList, n, m⟩ = t) :
    Calls Tryz.prog 50 #[.int .i64 k, .agg #[.string s, .int .i64 n, .int .i64 m]] w fun e w' => e = .returned (.bool t) ∧ Below w.heap.size w w' := by
  subst ht
  exact refDatum_any k h1 h8 s hs n m w
theorem refLess_bool (s t : ByteArray) (n1 m1 n2 m2 : Int) (w : World) (r : Bool) (hr : decide (Np.cmpD ⟨s.data.toList, n1, m1⟩ ⟨t.data.toList, n2, m2⟩ < 0) = r) :
    Calls Tryz.prog 51 #[.agg #[.string s, .int .i64 n1, .int .i64 m1], .agg #[.string t, .int .i64 n2, .int .i64 m2]] w fun e w' => e = .returned (.bool r) ∧ Below w.heap.size w w' := by
  subst hr
  exact refLess_any s t n1 m1 n2 m2 w
def RefValidRel (w1 : World) (r : Np.Rule) (ds : List Np.Datum) (i : Value) (wr : World) : Prop :=
  ∃ j : Nat, j ≤ ds.length ∧ i = .int .i64 j ∧ Below w1.heap.size w1 wr ∧ Np.goodData r none ds = Np.goodData r (ds.take j).getLast? (ds.drop j)
def refHd1 (s : List UInt8) (ty life : Int) (n : Nat) : Bool := Np.validName s && (decide (1 ≤ ty) && decide (ty ≤ 8)) && (decide (0 ≤ life) && decide (life ≤ 100000)) && (decide ((1 : Int) ≤ n) && decide ((n : Int) ≤ 8)) && !((decide (ty = 3) || decide (ty = 4)) && decide ((1 : Int) < n))
def RefHead (w : World) (s : ByteArray) (ty life : Int) (sl : Value) (wx : World) : Prop :=
  Below w.heap.size w wx ∧ w.heap.size < wx.heap.size ∧ wx.cell? ⟨w.heap.size, 0, none⟩ = some (.string s) ∧ wx.cell? ⟨w.heap.size, 1, none⟩ = some (.int .i64 ty) ∧ wx.cell? ⟨w.heap.size, 2, none⟩ = some (.int .i64 life) ∧ wx.cell? ⟨w.heap.size, 3, none⟩ = some sl
set_option maxRecDepth 100000 in
set_option maxHeartbeats 4000000 in
theorem refSetValid_any (s : ByteArray) (hs : s.size ≤ 140737488355328) (ty life : Int) (v : Value) (ds : List Np.Datum) (w : World) (hd : SlR RDatum 3 w w.heap.size v ds) :
    Calls Tryz.prog 19 #[.agg #[.string s, .int .i64 ty, .int .i64 life, v]] w
      fun e w' => e = .returned (.bool (Np.validSet ⟨s.data.toList, ty, life, ds⟩)) ∧ Below w.heap.size w w' := by
  have HD := Lib.hid hd
  obtain ⟨A, c, rfl, hc1, hl1, he1⟩ := hd
  clear he1
  have hno : ¬ (Np.validName s.data.toList = true ∧ (1 ≤ ty ∧ ty ≤ 8) ∧ (0 ≤ life ∧ life ≤ 100000) ∧ (1 ≤ ds.length ∧ ds.length ≤ 8) ∧ ((ty = 3 ∨ ty = 4) → ds.length ≤ 1) ∧ (Np.isWild s.data.toList = true → ty = 1 ∨ ty = 5 ∨ ty = 8)) → Np.validSet ⟨s.data.toList, ty, life, ds⟩ = false := fun hin => by
    cases hq : Np.validSet ⟨s.data.toList, ty, life, ds⟩ with
    | false => rfl
    | true =>
      exfalso
      unfold Np.validSet at hq
      simp only [Bool.and_eq_true, decide_eq_true_eq, Bool.not_eq_true'] at hq
      obtain ⟨⟨⟨⟨⟨⟨h1, h2⟩, h3⟩, h4⟩, h5⟩, h6⟩, _⟩ := hq
      obtain ⟨k, rfl⟩ := Int.eq_ofNat_of_zero_le (by omega : 0 ≤ ty)
      rw [rule_single k (by omega) (by omega)] at h5
      rw [rule_wild k (by omega) (by omega)] at h6
      refine hin ⟨h1, h2, h3, h4, fun ht => ?_, fun hw => ?_⟩
      · simp at h5; omega
      · rw [hw] at h6; simp at h6; omega
  have HNO := Lib.hid hno
  clear hno
  go_enter Tryz.func19, Tryz.ntmps19
  go_upto_region 2 with fail
  go_cut [37] (fun t wx => RefHead w s ty life (.slice A ds.length c) wx ∧ t = .bool (!refHd1 s.data.toList ty life ds.length))
  case first =>
    go_wp2_with fail
    refine (refValid_any _ hs _).mono ?_
    rintro e w1 ⟨rfl, hb⟩
    have hb0 : Below w.heap.size w w1 := ((Below.refl _ w).alloc (Nat.le_refl _) _).trans (hb.mono (by simp))
    have hlt1 : w.heap.size < w1.heap.size := by have := hb.size; simp at this; omega
    have c0 : w1.cell? ⟨w.heap.size, 0, none⟩ = some (.string s) := by rw [hb.cell (by simp)]; go_simp
    have c1 : w1.cell? ⟨w.heap.size, 1, none⟩ = some (.int .i64 ty) := by rw [hb.cell (by simp)]; go_simp
    have c2 : w1.cell? ⟨w.heap.size, 2, none⟩ = some (.int .i64 life) := by rw [hb.cell (by simp)]; go_simp
    have c3 : w1.cell? ⟨w.heap.size, 3, none⟩ = some (.slice A ds.length c) := by rw [hb.cell (by simp)]; go_simp
    have HH := Lib.hid (show RefHead w s ty life (.slice A ds.length c) w1 from ⟨hb0, hlt1, c0, c1, c2, c3⟩)
    clear hb hb0
    go_wp2_with (first
      | (go_at_call 48; refine (refWithin_any _ _ _ _).mono ?_; rintro e w' ⟨rfl, rfl⟩)
      | (go_at_call 49; refine (refSingle_any _ _).mono ?_; rintro e w' ⟨rfl, rfl⟩))
    all_goals
      go_meet
      case rel =>
        refine ⟨HH.out, ?_⟩
        clear HH HNO HD
        go_light
        first
          | (simp_all [refHd1]; done)
          | (simp_all [refHd1]; omega)
          | (congr 1; rw [Bool.eq_iff_iff]; simp_all [refHd1] <;> omega)
  case rest =>
    obtain ⟨⟨hb0, hlt0, c0, c1, c2, c3⟩, rfl⟩ := hcut
    have HB0 := Lib.hid hb0
    clear hb0
    cases hq : refHd1 s.data.toList ty life ds.length with
    | false =>
      have HQ := Lib.hid hq
      clear hq
      go_wp2_with fail
      go_ret
      refine ⟨ret_bool (HNO.out fun ⟨a1, a2, a3, a4, a5, _⟩ => ?_).symm, HB0.out⟩
      have := HQ.out
      simp [refHd1, a1, a2, a3] at this
      omega
    | true =>
      have HQ := Lib.hid hq
      clear hq
      go_upto_region 4 with fail
      go_cut [55] (fun t wy => wy = wc ∧ t = .bool (Np.isWild s.data.toList && (decide (ty ≠ 1) && (decide (ty ≠ 5) && decide (ty ≠ 8)))))
      case first =>
        go_wp2_with (go_at_call 45; refine (refWild_any _ hs _).mono ?_; rintro e w' ⟨rfl, rfl⟩)
        all_goals
          go_meet
          case rel =>
            refine ⟨rfl, ?_⟩
            clear HNO HD HQ
            go_light
            first
              | (simp_all; done)
              | (simp_all; omega)
              | (congr 1; rw [Bool.eq_iff_iff]; simp_all; done)
              | (congr 1; rw [Bool.eq_iff_iff]; simp_all; omega)
      case rest =>
        obtain ⟨rfl, rfl⟩ := hcut
        cases hq2 : (Np.isWild s.data.toList && (decide (ty ≠ 1) && (decide (ty ≠ 5) && decide (ty ≠ 8)))) with
        | true =>
          have HQ2 := Lib.hid hq2
          clear hq2
          go_wp2_with fail
          go_ret
          refine ⟨ret_bool (HNO.out fun ⟨_, _, _, _, _, a6⟩ => ?_).symm, HB0.out⟩
          have := HQ2.out
          simp at this
          have := a6 this.1
          omega
        | false =>
          have hin : Np.validName s.data.toList = true ∧ (1 ≤ ty ∧ ty ≤ 8) ∧ (0 ≤ life ∧ life ≤ 100000) ∧ (1 ≤ ds.length ∧ ds.length ≤ 8) ∧ ((ty = 3 ∨ ty = 4) → ds.length ≤ 1) ∧ (Np.isWild s.data.toList = true → ty = 1 ∨ ty = 5 ∨ ty = 8) := by
            have h := HQ.out
            simp [refHd1] at h
            obtain ⟨⟨⟨⟨h1, h2⟩, h3⟩, h4⟩, h5⟩ := h
            refine ⟨h1, h2, h3, by omega, by omega, fun hw => ?_⟩
            rw [hw] at hq2
            simp at hq2
            omega
          obtain ⟨i1, ⟨i2, i3⟩, ⟨i4, i5⟩, ⟨i6, i7⟩, i8, i9⟩ := hin
          obtain ⟨k, rfl⟩ := Int.eq_ofNat_of_zero_le (by omega : 0 ≤ ty)
          have hv : Np.validSet ⟨s.data.toList, k, life, ds⟩ = Np.goodData (Np.ruleOf k) none ds := by
            unfold Np.validSet
            simp only [rule_single k (by omega) (by omega), rule_wild k (by omega) (by omega), i1, decide_eq_true i2, decide_eq_true i3, decide_eq_true i4, decide_eq_true i5, decide_eq_true i6, decide_eq_true i7, Bool.true_and]
            have e1 : ((decide ((k : Int) = 3) || decide ((k : Int) = 4)) && decide (ds.length ≠ 1)) = false := by
              rw [Bool.eq_false_iff]; simp; omega
            have e2 : (Np.isWild s.data.toList && !(decide ((k : Int) = 1) || decide ((k : Int) = 5) || decide ((k : Int) = 8))) = false := by
              cases hw : Np.isWild s.data.toList with
              | false => rfl
              | true => have := i9 hw; simp; omega
            rw [e1, e2]; rfl
          have HV := Lib.hid hv
          have hbw1 : 1 ≤ k := by omega
          have hbw8 : k ≤ 8 := by omega
          clear hv i8 i9 hq2 i1 c0 c2 HNO HQ
          go_wp2_with fail
          go_loopw [4] (fun i wr => RefValidRel wc (Np.ruleOf k) ds i wr) (fun i _ => ds.length - (intOf i).toNat)
          case atStart => exact ⟨0, Nat.zero_le _, rfl, Below.refl _ _, rfl⟩
          case round =>
            obtain ⟨j, hj, rfl, hbw, hg⟩ := hrel
            have HG := Lib.hid hg
            clear hg
            by_cases hlt : j < ds.length
            · have hwz := hbw.size
              have hbw0 : Below w.heap.size w wr := HB0.out.trans (hbw.mono (by omega))
              have hw0 : w.heap.size < wr.heap.size := by omega
              have d1 : wr.cell? ⟨w.heap.size, 1, none⟩ = some (.int .i64 k) := by rw [hbw.cell (by simpa using hlt0)]; exact c1
              have d3 : wr.cell? ⟨w.heap.size, 3, none⟩ = some (.slice A ds.length c) := by rw [hbw.cell (by simpa using hlt0)]; exact c3
              obtain ⟨A', c', hA', _, _, hel⟩ := HD.out.keep rdatum_kept hbw0
              cases hA'
              obtain ⟨b, o, e, rfl, hbB, _, hce, sd, hsd, hsds, rfl⟩ := hel j _ (List.getElem?_eq_getElem hlt)
              have e0 : wr.cell? ⟨b, o + j * 3, none⟩ = some (.string sd) := hce 0 _ rfl
              have e1 : wr.cell? ⟨b, o + j * 3 + 1, none⟩ = some (.int .i64 ds[j].n) := hce 1 _ rfl
              have e2 : wr.cell? ⟨b, o + j * 3 + 2, none⟩ = some (.int .i64 ds[j].m) := hce 2 _ rfl
              have hbr : b < wr.heap.size := by omega
              have hgc : ∀ (g : Grow wr) (p : Addr), p.block < wr.heap.size → g.w.cell? p = wr.cell? p := fun g p h => g.cell p h
              have HBW := Lib.hid hbw
              have HBW0 := Lib.hid hbw0
              have HEL := Lib.hid hel
              have HSD := Lib.hid hsd
              have hdj : (⟨sd.data.toList, ds[j].n, ds[j].m⟩ : Np.Datum) = ds[j] := by rw [HSD.out]
              have HDJ := Lib.hid hdj
              clear hce hbw hbw0 hel hsd c1 c3 hdj hwz
              by_cases hvd : Np.validDatum (Np.ruleOf k) ⟨sd.data.toList, ds[j].n, ds[j].m⟩ = true
              · have HVD := Lib.hid hvd
                clear hvd
                by_cases hj0 : j = 0
                · subst hj0
                  simp only [Nat.zero_mul, Nat.add_zero] at e0 e1 e2
                  go_wp2_with fail
                  refine wp_region_grow (by kernel_rfl) (by kernel_rfl) ?_
                  repeat (go_big_quiet_step ((go_at_call 50; exact Calls.grow_of (refDatum_bool _ hbw1 hbw8 _ hsds _ _ _ true HVD.out))))
                  refine wpQuiet_nil ?_
                  rintro _ ⟨g, rfl⟩
                  go_wp2_with fail
                  go_roundw
                  case rel =>
                    go_light
                    have h1 := Np.goodData_first (r := Np.ruleOf k) (List.getElem?_eq_getElem hlt) (by rw [← HDJ.out]; exact HVD.out)
                    exact ⟨1, hlt, by go_num, HBW.out.trans (g.below.mono HBW.out.size), by rw [← h1]; exact HG.out⟩
                  case measure => simp [intOf] <;> omega
                · obtain ⟨i, rfl⟩ : ∃ i, j = i + 1 := ⟨j - 1, by omega⟩
                  obtain ⟨b', o', e', hA2, hbB', _, hce', sq, hsq, hsqs, rfl⟩ := HEL.out i _ (List.getElem?_eq_getElem (by omega))
                  cases hA2
                  have f0 : wr.cell? ⟨b, o + i * 3, none⟩ = some (.string sq) := hce' 0 _ rfl
                  have f1 : wr.cell? ⟨b, o + i * 3 + 1, none⟩ = some (.int .i64 (ds[i]'(by omega)).n) := hce' 1 _ rfl
                  have f2 : wr.cell? ⟨b, o + i * 3 + 2, none⟩ = some (.int .i64 (ds[i]'(by omega)).m) := hce' 2 _ rfl
                  have hdi : (⟨sq.data.toList, (ds[i]'(by omega)).n, (ds[i]'(by omega)).m⟩ : Np.Datum) = ds[i]'(by omega) := by rw [hsq]
                  have HDI := Lib.hid hdi
                  clear hce' hsq hdi
                  have hi0 : (0 : Int) < ((i + 1 : Nat) : Int) := by omega
                  have h1 := Np.goodData_next (r := Np.ruleOf k) (List.getElem?_eq_getElem (by omega : i < ds.length)) (List.getElem?_eq_getElem hlt) (by rw [← HDJ.out]; exact HVD.out)
                  rw [← HDJ.out, ← HDI.out] at h1
                  have H1 := Lib.hid h1
                  clear h1
                  by_cases hcm : Np.cmpD ⟨sq.data.toList, (ds[i]'(by omega)).n, (ds[i]'(by omega)).m⟩ ⟨sd.data.toList, ds[i + 1].n, ds[i + 1].m⟩ < 0
                  · have HCM := Lib.hid hcm
                    have HCD := Lib.hid (decide_eq_true hcm)
                    clear hcm
                    go_wp2_with fail
                    refine wp_region_grow (by kernel_rfl) (by kernel_rfl) ?_
                    repeat (go_big_quiet_step (first
                      | (go_at_call 50; exact Calls.grow_of (refDatum_bool _ hbw1 hbw8 _ hsds _ _ _ true HVD.out))
                      | (go_at_call 51; exact Calls.grow_of (refLess_bool _ _ _ _ _ _ _ true HCD.out))))
                    refine wpQuiet_nil ?_
                    rintro _ ⟨g, rfl⟩
                    go_wp2_with fail
                    go_roundw
                    case rel =>
                      go_light
                      exact ⟨i + 1 + 1, hlt, by go_num, HBW.out.trans (g.below.mono HBW.out.size), by rw [HG.out, H1.out, if_pos HCM.out]⟩
                    case measure => simp [intOf] <;> omega
                  · have HCM := Lib.hid hcm
                    have HCD := Lib.hid (decide_eq_false hcm)
                    clear hcm
                    go_wp2_with fail
                    refine wp_region_grow (by kernel_rfl) (by kernel_rfl) ?_
                    repeat (go_big_quiet_step (first
                      | (go_at_call 50; exact Calls.grow_of (refDatum_bool _ hbw1 hbw8 _ hsds _ _ _ true HVD.out))
                      | (go_at_call 51; exact Calls.grow_of (refLess_bool _ _ _ _ _ _ _ false HCD.out))))
                    refine wpQuiet_nil ?_
                    rintro _ ⟨g, rfl⟩
                    go_wp2_with fail
                    go_ret
                    refine ⟨ret_bool ?_, HBW0.out.trans (g.below.mono (by omega))⟩
                    rw [HV.out, HG.out, H1.out, if_neg (by have := HCM.out; omega)]
              · have hvd' : Np.validDatum (Np.ruleOf k) ⟨sd.data.toList, ds[j].n, ds[j].m⟩ = false := by simpa using hvd
                have HVD := Lib.hid hvd'
                clear hvd hvd'
                go_wp2_with fail
                refine wp_region_grow (by kernel_rfl) (by kernel_rfl) ?_
                repeat (go_big_quiet_step ((go_at_call 50; exact Calls.grow_of (refDatum_bool _ hbw1 hbw8 _ hsds _ _ _ false HVD.out))))
                refine wpQuiet_nil ?_
                rintro _ ⟨g, rfl⟩
                go_wp2_with fail
                go_ret
                refine ⟨ret_bool ?_, HBW0.out.trans (g.below.mono (by omega))⟩
                rw [HV.out, HG.out, Np.goodData_bad (List.getElem?_eq_getElem hlt) (by rw [← HDJ.out]; exact HVD.out)]
            · go_wp2_with fail
              go_ret
              refine ⟨ret_bool ?_, HB0.out.trans (hbw.mono (by omega))⟩
              rw [HV.out, HG.out, List.drop_eq_nil_of_le (by omega)]
              rfl
theorem name_size {s : ByteArray} (h : Np.validName s.data.toList = true) : s.size ≤ 60 := by
  rw [Np.validName_ref] at h
  split at h
  · rename_i e; rw [← size_list, e]; decide
  · split at h
    · cases h
    · rename_i h6; rw [size_list] at h6; omega
set_option maxRecDepth 100000 in
set_option maxHeartbeats 1000000 in
theorem refSetOrder_any (s1 s2 : ByteArray) (t1 l1 t2 l2 : Int) (v1 v2 : Value) (d1 d2 : List Np.Datum) (n1 : Np.validName s1.data.toList = true) (n2 : Np.validName s2.data.toList = true) (w : World) :
    Calls Tryz.prog 47 #[.agg #[.string s1, .int .i64 t1, .int .i64 l1, v1], .agg #[.string s2, .int .i64 t2, .int .i64 l2, v2]] w
      fun e w' => e = .returned (.int .i64 (Np.cmpSet ⟨s1.data.toList, t1, l1, d1⟩ ⟨s2.data.toList, t2, l2, d2⟩)) ∧ Below w.heap.size w w' := by
  have hw : ∀ o o', Below w.heap.size w ((w.alloc o).alloc o') := fun o o' => ((Below.refl _ w).alloc (Nat.le_refl _) _).alloc (by simp) _
  have HW := Lib.hid hw
  clear hw
  have hz1 := name_size n1
  have hz2 := name_size n2
  have N1 := Lib.hid n1
  have N2 := Lib.hid n2
  have hc := Np.cmpSet_ref ⟨s1.data.toList, t1, l1, d1⟩ ⟨s2.data.toList, t2, l2, d2⟩
  simp only at hc
  rw [hc]
  clear n1 n2 hc
  generalize hQ : Np.cmpName s1.data.toList s2.data.toList = q
  have HQ := Lib.hid hQ
  clear hQ
  have key : ∀ r : Int, (q ≠ 0 → r = q) → (q = 0 → r = Np.cmpI t1 t2) → (if q ≠ 0 then q else Np.cmpI t1 t2) = r := fun r h1 h2 => by
    by_cases h : q = 0
    · rw [if_neg (fun e => e h), h2 h]
    · rw [if_pos h, h1 h]
  have KEY := Lib.hid key
  clear key
  by_cases hq : q = 0
  · have KQ := Lib.hid hq
    subst hq
    by_cases h1 : t1 < t2
    · rw [KEY.out (-1) (fun e => absurd rfl e) (fun _ => by rw [Np.cmpI, if_pos h1])]
      go_enter Tryz.func47, Tryz.ntmps47
      go_wp2_with fail
      refine (refCompare_any s1 s2 (by omega) (by omega) N1.out N2.out _).mono ?_
      rw [HQ.out]
      rintro e w1 ⟨rfl, hb⟩
      obtain ⟨hc1, hf1⟩ := bcell hb
      have HB := Lib.hid ((HW.out _ _).trans (hb.mono (by simp; omega)))
      clear hb
      go_wp2_with fail
      go_ret
      exact ⟨rfl, HB.out⟩
    · by_cases h2 : t2 < t1
      · rw [KEY.out 1 (fun e => absurd rfl e) (fun _ => by rw [Np.cmpI, if_neg h1, if_pos h2])]
        go_enter Tryz.func47, Tryz.ntmps47
        go_wp2_with fail
        refine (refCompare_any s1 s2 (by omega) (by omega) N1.out N2.out _).mono ?_
        rw [HQ.out]
        rintro e w1 ⟨rfl, hb⟩
        obtain ⟨hc1, hf1⟩ := bcell hb
        have HB := Lib.hid ((HW.out _ _).trans (hb.mono (by simp; omega)))
        clear hb
        go_wp2_with fail
        go_ret
        exact ⟨rfl, HB.out⟩
      · rw [KEY.out 0 (fun e => absurd rfl e) (fun _ => by rw [Np.cmpI, if_neg h1, if_neg h2])]
        go_enter Tryz.func47, Tryz.ntmps47
        go_wp2_with fail
        refine (refCompare_any s1 s2 (by omega) (by omega) N1.out N2.out _).mono ?_
        rw [HQ.out]
        rintro e w1 ⟨rfl, hb⟩
        obtain ⟨hc1, hf1⟩ := bcell hb
        have HB := Lib.hid ((HW.out _ _).trans (hb.mono (by simp; omega)))
        clear hb
        go_wp2_with fail
        go_ret
        exact ⟨rfl, HB.out⟩
  · have hq2 : (q != 0) = true := by simpa using hq
    rw [KEY.out q (fun _ => rfl) (fun e => absurd e hq)]
    clear hq
    go_enter Tryz.func47, Tryz.ntmps47
    go_wp2_with fail
    refine (refCompare_any s1 s2 (by omega) (by omega) N1.out N2.out _).mono ?_
    rw [HQ.out]
    rintro e w1 ⟨rfl, hb⟩
    obtain ⟨hc1, hf1⟩ := bcell hb
    have HB := Lib.hid ((HW.out _ _).trans (hb.mono (by simp; omega)))
    clear hb
    go_wp2_with fail
    go_ret
    exact ⟨rfl, HB.out⟩
end Go.Proofs.YtnbolgdccdnjeaaGreatDoor
