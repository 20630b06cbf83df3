/- Contracts of the reference of layer 1: which texts are names, which are under others, and their order. -/
import Derived.Test.YtnbolgdccdnjeaaGreatDoorRf1
import Derived.Test.YtnbolgdccdnjeaaGreatDoorRf2
namespace Go.Proofs.YtnbolgdccdnjeaaGreatDoor
open Go.RowKit
theorem refLabel_l (x : List UInt8) (hx : x.length ≤ 140737488355328) (w : World) : Calls Tryz.prog 78 #[strs x] w fun e w' => e = .returned (.bool (Np.isLabel x)) ∧ w = w' := by
  have := refLabel_any ⟨x.toArray⟩ (by rw [← size_list]; simpa using hx) w
  simpa using this
def okLab (l : List (List UInt8)) (j : Nat) : Prop := ∃ x, l[j]? = some x ∧ (Np.isLabel x = true ∨ (j = 0 ∧ x = [42]))
theorem labelsOk_yes {l : List (List UInt8)} (h : ∀ j, j < l.length → okLab l j) : Np.labelsOk l = true := by
  cases l with
  | nil => rfl
  | cons a t =>
    unfold Np.labelsOk
    rw [Bool.and_eq_true]
    constructor
    · obtain ⟨x, hx, ho⟩ := h 0 (by simp)
      simp at hx; subst hx
      rcases ho with ho | ⟨_, ho⟩ <;> simp [ho]
    · rw [List.all_eq_true]
      intro y hy
      obtain ⟨j, hj, rfl⟩ := List.mem_iff_getElem.1 hy
      obtain ⟨x, hx, ho⟩ := h (j + 1) (by simpa using hj)
      simp only [List.getElem?_cons_succ, List.getElem?_eq_getElem hj, Option.some.injEq] at hx
      rcases ho with ho | ⟨h0, _⟩
      · rw [hx]; exact ho
      · omega
theorem labelsOk_no {l : List (List UInt8)} {j : Nat} {x : List UInt8} (hx : l[j]? = some x) (h1 : Np.isLabel x = false) (h2 : j = 0 → x ≠ [42]) : Np.labelsOk l = false := by
  cases l with
  | nil => simp at hx
  | cons a t =>
    unfold Np.labelsOk
    cases j with
    | zero => simp at hx; subst hx; simp [h1, h2 rfl]
    | succ j =>
      have : t.all Np.isLabel = false := by
        rw [List.all_eq_false]
        exact ⟨x, List.mem_of_getElem? (by simpa using hx), by simp [h1]⟩
      show ((Np.isLabel a || a == [42]) && t.all Np.isLabel) = false
      rw [this, Bool.and_false]
theorem split_count : ∀ l : List UInt8, (Np.splitDots l).length ≤ l.length + 1 := by
  intro l
  induction l with
  | nil => simp [Np.splitDots]
  | cons c r ih =>
    rw [Np.splitDots]
    split
    · simp; omega
    · split
      · rename_i x xs hx; rw [hx] at ih; simp at ih ⊢; omega
      · simp
set_option maxRecDepth 100000 in
set_option maxHeartbeats 2000000 in
theorem refValid_any (s : ByteArray) (hs : s.size ≤ 140737488355328) (w : World) :
    Calls Tryz.prog 44 #[.string s] w fun e w' => e = .returned (.bool (Np.validName s.data.toList)) ∧ Below w.heap.size w w' := by
  rw [Np.validName_ref]
  by_cases h : s.data.toList = [46]
  · have he : (s.toList == [46]) = true := by rw [ByteArray.toList_eq, h]; rfl
    rw [if_pos h]
    clear h
    go_enter Tryz.func44, Tryz.ntmps44
    go_wp2_with fail
    go_ret
    exact ⟨rfl, Below.refl _ _⟩
  · have he : (s.toList == [46]) = false := by rw [ByteArray.toList_eq]; simpa using h
    rw [if_neg h]
    clear h
    by_cases h60 : 60 < s.size
    · rw [if_pos (by rw [size_list]; exact h60)]
      have h6 : 60 < (s.size : Int) := by omega
      go_enter Tryz.func44, Tryz.ntmps44
      go_wp2_with fail
      go_ret
      exact ⟨rfl, Below.refl _ _⟩
    · rw [if_neg (by rw [size_list]; exact h60)]
      have h6 : (s.size : Int) ≤ 60 := by omega
      have hlen := split_count s.data.toList
      have hmem : ∀ y ∈ Np.splitDots s.data.toList, y.length ≤ 60 := fun y hy => by have := Np.splitDots_len hy; rw [size_list] at this; omega
      rw [size_list] at hlen
      generalize hL : Np.splitDots s.data.toList = l at *
      have HM := Lib.hid hmem
      have HLL := Lib.hid hL
      clear hmem hL
      go_enter Tryz.func44, Tryz.ntmps44
      go_wp2_with fail
      refine (refSplit_any s (by omega) _).mono ?_
      rw [HLL.out]
      rintro e w1 ⟨v, rfl, hv, hb⟩
      have HV := Lib.hid hv
      have HB := Lib.hid hb
      obtain ⟨A, c, rfl, hc, _, _⟩ := hv
      clear hb
      go_wp2_with fail
      go_loop [4] (fun i => ∃ k : Nat, k ≤ l.length ∧ i = .int .i64 k ∧ Hid (∀ j, j < k → okLab l j)) (fun i => l.length - (intOf i).toNat)
      case atStart => exact ⟨0, Nat.zero_le _, rfl, Lib.hid (fun j h => by omega)⟩
      case round =>
        obtain ⟨k, hk, rfl, HA⟩ := hrel
        by_cases hlt : k < l.length
        · obtain ⟨b, o, c', hA, _, _, hcell⟩ := str_at HV.out (List.getElem?_eq_getElem hlt)
          cases hA
          have hx := HM.out _ (List.getElem_mem hlt)
          have hget : l[k]? = some l[k] := List.getElem?_eq_getElem hlt
          generalize l[k] = x at *
          have HG := Lib.hid hget
          clear hget
          have hnext : okLab l k → ∀ j, j < k + 1 → okLab l j := fun h j hj => by
            by_cases e : j = k
            · subst e; exact h
            · exact HA.out j (by omega)
          have HX := Lib.hid hnext
          clear hnext
          cases hl : Np.isLabel x with
          | true =>
            have HL := Lib.hid hl
            go_wp2_with (go_at_call 78; refine (refLabel_l _ (by omega) _).mono ?_; rintro e w' ⟨rfl, rfl⟩)
            go_round
            case rel => exact ⟨k + 1, by omega, by go_num, Lib.hid (HX.out ⟨_, HG.out, .inl HL.out⟩)⟩
            case measure => simp [intOf] <;> omega
          | false =>
            have HL := Lib.hid hl
            by_cases hk0 : k = 0
            · subst hk0
              simp only [Nat.add_zero] at hcell
              by_cases h42 : x = [42]
              · subst h42
                go_wp2_with (go_at_call 78; refine (refLabel_l _ (by simp) _).mono ?_; rintro e w' ⟨rfl, rfl⟩)
                go_round
                case rel => exact ⟨1, by omega, by go_num, Lib.hid (HX.out ⟨_, HG.out, .inr ⟨rfl, rfl⟩⟩)⟩
                case measure => simp [intOf] <;> omega
              · have hne : (x == [42]) = false := by simpa using h42
                go_wp2_with (go_at_call 78; refine (refLabel_l _ (by omega) _).mono ?_; rintro e w' ⟨rfl, rfl⟩)
                go_ret
                exact ⟨ret_bool (by rw [labelsOk_no HG.out HL.out (fun _ => h42)]; rfl), HB.out⟩
            · have hkp : (0 : Int) < k := by omega
              go_wp2_with (go_at_call 78; refine (refLabel_l _ (by omega) _).mono ?_; rintro e w' ⟨rfl, rfl⟩)
              go_ret
              exact ⟨ret_bool (by rw [labelsOk_no HG.out HL.out (fun e => absurd e hk0)]; rfl), HB.out⟩
        · have hok : Np.labelsOk l = true := labelsOk_yes (fun j hj => HA.out j (by omega))
          have HOK := Lib.hid hok
          clear hok
          go_wp2_with fail
          go_ret
          exact ⟨ret_bool (by rw [HOK.out, Bool.true_and, Bool.eq_iff_iff]; simp; omega), HB.out⟩
end Go.Proofs.YtnbolgdccdnjeaaGreatDoor
