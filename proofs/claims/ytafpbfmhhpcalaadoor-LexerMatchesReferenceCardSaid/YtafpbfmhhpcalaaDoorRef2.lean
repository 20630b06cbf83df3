/- The reference lexer: digits, ends of tokens. -/
import Derived.Test.YtafpbfmhhpcalaaDoorRef
namespace Go.Proofs.YtafpbfmhhpcalaaDoor
open Go.RowKit
theorem byte_eq {c : UInt8} {n : Nat} (hn : n < 256) (h : c = UInt8.ofNat n) : ((c.toNat : Int) == (n : Int)) = true := by
  subst h; simp; omega
theorem byte_ne {c : UInt8} {n : Nat} (hn : n < 256) (h : ¬ c = UInt8.ofNat n) : ((c.toNat : Int) == (n : Int)) = false := by
  simp only [beq_eq_false_iff_ne, ne_eq]
  intro e
  exact h (UInt8.toNat_inj.1 (by simp; omega))
set_option maxRecDepth 100000 in
set_option maxHeartbeats 1000000 in
theorem refDigits_any (s : ByteArray) (hs : s.size ≤ 100000) (h0 : 0 < s.size) (w : World) :
    Calls Tryd.prog 91 #[.string s] w fun e w' => e = .returned (.bool (s.data.toList.all Np.isDig)) ∧ w = w' := by
  generalize hres : s.data.toList.all Np.isDig = b
  have HR := Lib.hid hres
  clear hres
  have h0I : (0 : Int) < (s.size : Int) := by omega
  go_enter Tryd.func91, Tryd.ntmps91
  go_wp2_with fail
  go_loop [3] (fun i => ∃ k : Nat, k ≤ s.size ∧ i = .int .i64 k ∧ Hid ((s.data.toList.take k).all Np.isDig = true)) (fun i => s.size - (intOf i).toNat)
  case atStart => exact ⟨0, by omega, rfl, Lib.hid (by simp)⟩
  case round =>
    obtain ⟨k, hk, rfl, HA⟩ := hrel
    by_cases hlt : k < s.size
    · cases hd : Np.isDig s[k]
      · have HD := Lib.hid hd
        clear hd
        go_wp2_with (go_at_call 122; refine (refDigit_any s[k] _).mono ?_; rintro e w' ⟨rfl, rfl⟩; rw [HD.out])
        go_ret
        refine ⟨ret_bool ?_, rfl⟩
        rw [← HR.out]
        symm
        rw [List.all_eq_false]
        exact ⟨s[k], List.mem_of_getElem? (get_list s k hlt), by rw [HD.out]; simp⟩
      · have HD := Lib.hid hd
        clear hd
        go_wp2_with (go_at_call 122; refine (refDigit_any s[k] _).mono ?_; rintro e w' ⟨rfl, rfl⟩; rw [HD.out])
        go_round
        case rel => exact ⟨k + 1, by omega, by go_num, Lib.hid (all_snoc s k hlt _ HA.out HD.out)⟩
        case measure => simp [intOf]; omega
    · go_wp2_with fail
      go_ret
      refine ⟨ret_bool ?_, rfl⟩
      rw [← HR.out]
      have := HA.out
      rw [take_all s k (by omega)] at this
      exact this.symm
theorem text_snoc {l : List UInt8} {p k : Nat} {c : UInt8} (hc : l[k]? = some c) (h : ∀ j b, p ≤ j → j < k → l[j]? = some b → Np.inText b = true) (hr : Np.inText c = true) : ∀ j b, p ≤ j → j < k + 1 → l[j]? = some b → Np.inText b = true := fun j b hj hj2 hb => by
  rcases Nat.lt_or_ge j k with h1 | h1
  · exact h j b hj h1 hb
  · obtain rfl : j = k := by omega
    rw [hc] at hb; cases hb; exact hr
theorem text_len {l : List UInt8} {p k : Nat} (hk : k ≤ l.length) (hp : p ≤ k) (h : ∀ j b, p ≤ j → j < k → l[j]? = some b → Np.inText b = true) (hs : ∀ b, l[k]? = some b → Np.inText b = false) : ((l.drop p).takeWhile Np.inText).length = k - p := by
  rw [takeWhile_at (k := k - p) (by simp; omega) (fun j b hj hb => h (p + j) b (by omega) (by omega) (by simpa using hb)) (fun b hb => hs b (by rw [List.getElem?_drop] at hb; rwa [show p + (k - p) = k by omega] at hb))]
theorem quote_none {l : List UInt8} {p k : Nat} (hk : k ≤ l.length) (hp : p ≤ k) (h : ∀ j b, p ≤ j → j < k → l[j]? = some b → Np.inText b = true) (hs : ∀ b, l[k]? = some b → b = 10) : Np.quoteW (l.drop p) = 0 := by
  have hl := text_len hk hp h (fun b hb => by rw [hs b hb]; rfl)
  unfold Np.quoteW
  rw [hl, if_neg]
  rintro ⟨_, h2⟩
  rw [List.getElem?_drop, show p + (k - p) = k by omega] at h2
  have := hs 34 h2
  cases this
theorem quote_at {l : List UInt8} {p k : Nat} (hp : p ≤ k) (h : ∀ j b, p ≤ j → j < k → l[j]? = some b → Np.inText b = true) (hs : l[k]? = some 34) : Np.quoteW (l.drop p) = if p < k then k - p + 2 else 0 := by
  have hk := (List.getElem?_eq_some_iff.1 hs).1
  have hl := text_len (by omega) hp h (fun b hb => by rw [hs] at hb; cases hb; rfl)
  unfold Np.quoteW
  rw [hl, List.getElem?_drop, show p + (k - p) = k by omega, hs]
  by_cases hpk : p < k
  · rw [if_pos ⟨by omega, rfl⟩, if_pos hpk]
  · rw [if_neg (by omega), if_neg hpk]
set_option maxRecDepth 100000 in
set_option maxHeartbeats 2000000 in
theorem refEnd_any (s : ByteArray) (hs : s.size ≤ 100000) (p : Nat) (hp : p < s.size) (hg : Np.cls s[p] ≠ 1 ∧ Np.cls s[p] ≠ 2) (w : World) :
    Calls Tryd.prog 56 #[.string s, .int .i64 p] w fun e w' => e = .returned (.int .i64 ((p + Np.width (s.data.toList.drop p) : Nat) : Int)) ∧ w = w' := by
  have hd : s.data.toList.drop p = s[p] :: s.data.toList.drop (p + 1) := List.drop_eq_getElem_cons (by rw [size_list]; exact hp)
  have HD := Lib.hid hd
  have hpI : (p : Int) < (s.size : Int) := by omega
  by_cases h7 : Np.cls s[p] = 7
  · have HW : Hid (Np.width (s.data.toList.drop p) = 1) := Lib.hid (by rw [hd]; simp [Np.width, h7])
    have H7 : Hid ((Np.cls s[p] == 7) = true) := Lib.hid (by simp [h7])
    generalize Np.width (s.data.toList.drop p) = n at *
    clear hd h7 hg
    go_enter Tryd.func56, Tryd.ntmps56
    go_wp2_with (go_at_call 89; refine (refSign_any s[p] _).mono ?_; rintro e w' ⟨rfl, rfl⟩; rw [H7.out])
    go_ret
    exact ⟨ret_int (by rw [HW.out]; omega), rfl⟩
  · have H7 : Hid ((Np.cls s[p] == 7) = false) := Lib.hid (by simp [h7])
    by_cases hq : s[p] = 34
    · have HW : Hid (Np.width (s.data.toList.drop p) = Np.quoteW (s.data.toList.drop (p + 1))) := Lib.hid (by rw [hd, Np.width, hq]; rfl)
      have hqb : (((s[p]).toNat : Int) == 34) = true := by rw [hq]; rfl
      generalize Np.width (s.data.toList.drop p) = n at *
      clear hd h7 hg hq
      go_enter Tryd.func56, Tryd.ntmps56
      go_wp2_with (go_at_call 89; refine (refSign_any s[p] _).mono ?_; rintro e w' ⟨rfl, rfl⟩; rw [H7.out])
      go_loop [6] (fun i => ∃ k : Nat, p + 1 ≤ k ∧ k ≤ s.size ∧ i = .int .i64 k ∧ Hid (∀ j b, p + 1 ≤ j → j < k → s.data.toList[j]? = some b → Np.inText b = true)) (fun i => s.size - (intOf i).toNat)
      case atStart => exact ⟨p + 1, Nat.le_refl _, by omega, by go_num, Lib.hid (fun j b h1 h2 => by omega)⟩
      case round =>
        obtain ⟨k, hpk, hk, rfl, HA⟩ := hrel
        by_cases hlt : k < s.size
        · have HG := Lib.hid (get_list s k hlt)
          by_cases h10 : s[k] = 10
          · have h10b : (((s[k]).toNat : Int) != 10) = false := by rw [h10]; rfl
            have HZ : Hid (n = 0) := Lib.hid (HW.out.trans (quote_none (by rw [size_list]; omega) hpk HA.out (fun b hb => by rw [HG.out] at hb; cases hb; exact h10)))
            clear h10
            go_wp2_with fail
            go_ret
            exact ⟨ret_int (by rw [HZ.out]; omega), rfl⟩
          · have h10b : (((s[k]).toNat : Int) != 10) = true := by
              have := byte_ne (n := 10) (by decide) h10
              simpa [bne] using this
            by_cases h34 : s[k] = 34
            · have h34b : (((s[k]).toNat : Int) == 34) = true := by rw [h34]; rfl
              have HZ := Lib.hid (HW.out.trans (quote_at hpk HA.out (by rw [HG.out, h34])))
              clear h10 h34
              by_cases hkp : p + 1 < k
              · have HZ' := Lib.hid (HZ.out.trans (if_pos hkp))
                have hkpI : (p : Int) + 1 < (k : Int) := by omega
                clear HZ
                go_wp2_with fail
                go_ret
                exact ⟨ret_int (by rw [HZ'.out]; omega), rfl⟩
              · have HZ' := Lib.hid (HZ.out.trans (if_neg hkp))
                have hkpI : (k : Int) ≤ (p : Int) + 1 := by omega
                clear HZ
                go_wp2_with fail
                go_ret
                exact ⟨ret_int (by rw [HZ'.out]; omega), rfl⟩
            · have h34b : (((s[k]).toNat : Int) == 34) = false := byte_ne (n := 34) (by decide) h34
              have HT : Hid (Np.inText s[k] = true) := Lib.hid (by simp [Np.inText, h10, h34])
              clear h10 h34
              go_wp2_with fail
              go_round
              case rel => exact ⟨k + 1, by omega, by omega, by go_num, Lib.hid (text_snoc HG.out HA.out HT.out)⟩
              case measure => simp [intOf]; omega
        · have HZ : Hid (n = 0) := Lib.hid (HW.out.trans (quote_none (by rw [size_list]; omega) hpk HA.out (fun b hb => by rw [List.getElem?_eq_none (by rw [size_list]; omega)] at hb; cases hb)))
          go_wp2_with fail
          go_ret
          exact ⟨ret_int (by rw [HZ.out]; omega), rfl⟩
    · have hqb : (((s[p]).toNat : Int) == 34) = false := byte_ne (n := 34) (by decide) hq
      have HQ := Lib.hid hq
      have H77 := Lib.hid h7
      have HGG := Lib.hid hg
      generalize hn : Np.width (s.data.toList.drop p) = n
      have HN := Lib.hid hn
      clear hd h7 hg hq hn
      go_enter Tryd.func56, Tryd.ntmps56
      go_wp2_with (go_at_call 89; refine (refSign_any s[p] _).mono ?_; rintro e w' ⟨rfl, rfl⟩; rw [H7.out])
      go_loop [7] (fun i => ∃ k : Nat, p ≤ k ∧ k ≤ s.size ∧ i = .int .i64 k ∧ Hid (∀ j b, p ≤ j → j < k → s.data.toList[j]? = some b → Np.isRun b = true)) (fun i => s.size - (intOf i).toNat)
      case atStart => exact ⟨p, Nat.le_refl _, by omega, rfl, Lib.hid (fun j b h1 h2 => by omega)⟩
      case round =>
        obtain ⟨k, hpk, hk, rfl, HA⟩ := hrel
        by_cases hrun : k < s.size ∧ ∀ h : k < s.size, Np.isRun s[k] = true
        · obtain ⟨hlt, hr⟩ := hrun
          have HG := Lib.hid (get_list s k hlt)
          have HR := Lib.hid (hr hlt)
          clear hr
          go_wp2_with (go_at_call 90; refine (refRun_any s[k] _).mono ?_; rintro e w' ⟨rfl, rfl⟩; rw [HR.out])
          go_round
          case rel => exact ⟨k + 1, by omega, by omega, by go_num, Lib.hid (runs_snoc HG.out hpk HA.out HR.out)⟩
          case measure => simp [intOf]; omega
        · have HK : Hid (p + ((s.data.toList.drop p).takeWhile Np.isRun).length = k) := Lib.hid (run_len (by rw [size_list]; omega) hpk HA.out (fun b hb => by
            have hlt := (List.getElem?_eq_some_iff.1 hb).1
            rw [size_list] at hlt
            rw [get_list s k hlt] at hb
            cases hb
            cases h : Np.isRun s[k]
            · rfl
            · exact absurd ⟨hlt, fun _ => h⟩ hrun))
          have hrl : ((s.data.toList.drop p).takeWhile Np.isRun).length = k - p := by have := HK.out; omega
          have HNN : Hid (n = if s[p] = 45 then 0 else if s[p] = 46 then (if k - p = 1 then 1 else 0) else k - p) := Lib.hid (by
            rw [← HN.out]
            have hc6 : Np.cls s[p] ≠ 6 := fun e => HQ.out (all_bytes (P := fun c => Np.cls c = 6 → c = 34) (by decide +kernel) s[p] e)
            have h03 : ¬ s[p] = 45 → ¬ s[p] = 46 → Np.cls s[p] = 0 ∨ Np.cls s[p] = 3 := fun h1 h2 => by
              have h7 := Np.cls_lt s[p]
              have a4 : Np.cls s[p] ≠ 4 := fun e => h1 (all_bytes (P := fun c => Np.cls c = 4 → c = 45) (by decide +kernel) s[p] e)
              have a5 : Np.cls s[p] ≠ 5 := fun e => h2 (all_bytes (P := fun c => Np.cls c = 5 → c = 46) (by decide +kernel) s[p] e)
              have := HGG.out
              have := H77.out
              omega
            have h0r : Np.cls s[p] = 0 → k - p = 0 := fun e => by
              rw [← hrl, HD.out, List.takeWhile_cons, if_neg]
              · rfl
              · simp [Np.isRun, e]
            by_cases h45 : s[p] = 45
            · rw [if_pos h45, HD.out, h45]; rfl
            · rw [if_neg h45]
              by_cases h46 : s[p] = 46
              · rw [if_pos h46, HD.out, Np.width, show Np.cls s[p] = 5 by rw [h46]; rfl, ← HD.out, hrl]; rfl
              · rw [if_neg h46]
                rcases h03 h45 h46 with e | e
                · rw [h0r e, HD.out]; simp [Np.width, e]
                · rw [← hrl]
                  rw [show Np.width (s.data.toList.drop p) = Np.width (s[p] :: s.data.toList.drop (p + 1)) by rw [HD.out], Np.width, e, ← HD.out]; rfl)
          have HR1 : Hid (s[p] = 46 → p + 1 ≤ k) := Lib.hid (fun e => by
            have : 1 ≤ ((s.data.toList.drop p).takeWhile Np.isRun).length := by rw [HD.out]; exact Np.takeWhile_ge (by rw [e]; decide)
            omega)
          have HRU : Hid (∀ h : k < s.size, Np.isRun s[k] = false) := Lib.hid (fun h => by
            cases h' : Np.isRun s[k]
            · rfl
            · exact absurd ⟨h, fun _ => h'⟩ hrun)
          clear hrun hrl HK HN
          by_cases h45 : s[p] = 45
          · have HZ := Lib.hid (HNN.out.trans (if_pos h45))
            have b45 : (((s[p]).toNat : Int) == 45) = true := by rw [h45]; rfl
            clear h45 HNN
            by_cases hlt : k < s.size
            · have HRk := Lib.hid (HRU.out hlt)
              go_wp2_with (go_at_call 90; refine (refRun_any s[k] _).mono ?_; rintro e w' ⟨rfl, rfl⟩; rw [HRk.out])
              go_ret
              exact ⟨ret_int (by rw [HZ.out]; omega), rfl⟩
            · go_wp2_with fail
              go_ret
              exact ⟨ret_int (by rw [HZ.out]; omega), rfl⟩
          · have b45 : (((s[p]).toNat : Int) == 45) = false := byte_ne (n := 45) (by decide) h45
            by_cases h46 : s[p] = 46
            · have HZ := Lib.hid (HNN.out.trans ((if_neg h45).trans (if_pos h46)))
              have b46 : (((s[p]).toNat : Int) == 46) = true := by rw [h46]; rfl
              have hp1 := HR1.out h46
              clear h45 h46 HNN
              by_cases hkp : p + 1 < k
              all_goals
                have hkI : (p : Int) + 1 < (k : Int) ∨ (k : Int) = (p : Int) + 1 := by omega
                by_cases hlt : k < s.size
                all_goals
                  (try have HRk := Lib.hid (HRU.out hlt))
                  (try have hkJ : (p : Int) + 1 < (k : Int) := by omega)
                  (try have hkJ : (k : Int) ≤ (p : Int) + 1 := by omega)
                  clear hkI
                  go_wp2_with (go_at_call 90; refine (refRun_any s[k] _).mono ?_; rintro e w' ⟨rfl, rfl⟩; rw [HRk.out])
                  go_ret
                  exact ⟨ret_int (by rw [HZ.out]; split <;> omega), rfl⟩
            · have HZ := Lib.hid (HNN.out.trans ((if_neg h45).trans (if_neg h46)))
              have b46 : (((s[p]).toNat : Int) == 46) = false := byte_ne (n := 46) (by decide) h46
              clear h45 h46 HNN
              by_cases hlt : k < s.size
              · have HRk := Lib.hid (HRU.out hlt)
                go_wp2_with (go_at_call 90; refine (refRun_any s[k] _).mono ?_; rintro e w' ⟨rfl, rfl⟩; rw [HRk.out])
                go_ret
                exact ⟨ret_int (by rw [HZ.out]; omega), rfl⟩
              · go_wp2_with fail
                go_ret
                exact ⟨ret_int (by rw [HZ.out]; omega), rfl⟩
end Go.Proofs.YtafpbfmhhpcalaaDoor
