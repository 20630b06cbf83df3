/- The reference lexer: bytes, gaps, ends. -/
import Derived.Test.YtafpbfmhhpcalaaDoorLex
namespace Go.Proofs.YtafpbfmhhpcalaaDoor
open Go.RowKit
theorem all_bytes {P : UInt8 → Prop} (h : ∀ n : Fin 256, P (UInt8.ofNat n.val)) (c : UInt8) : P c := by
  have := h ⟨c.toNat, UInt8.toNat_lt c⟩
  simpa using this
theorem sign_int (c : UInt8) : (Np.cls c == 7) = decide ((c.toNat : Int) = 123 ∨ (c.toNat : Int) = 125 ∨ (c.toNat : Int) = 59 ∨ (c.toNat : Int) = 44 ∨ (c.toNat : Int) = 61 ∨ (c.toNat : Int) = 64) := all_bytes (P := fun c => (Np.cls c == 7) = decide ((c.toNat : Int) = 123 ∨ (c.toNat : Int) = 125 ∨ (c.toNat : Int) = 59 ∨ (c.toNat : Int) = 44 ∨ (c.toNat : Int) = 61 ∨ (c.toNat : Int) = 64)) (by decide +kernel) c
theorem run_int (c : UInt8) : Np.isRun c = (Np.isLow c || (Np.isDig c || decide ((c.toNat : Int) = 45 ∨ (c.toNat : Int) = 42 ∨ (c.toNat : Int) = 46))) := all_bytes (P := fun c => Np.isRun c = (Np.isLow c || (Np.isDig c || decide ((c.toNat : Int) = 45 ∨ (c.toNat : Int) = 42 ∨ (c.toNat : Int) = 46)))) (by decide +kernel) c
theorem low_int (c : UInt8) : Np.isLow c = decide (97 ≤ (c.toNat : Int) ∧ (c.toNat : Int) ≤ 122) := all_bytes (P := fun c => Np.isLow c = decide (97 ≤ (c.toNat : Int) ∧ (c.toNat : Int) ≤ 122)) (by decide +kernel) c
theorem dig_int (c : UInt8) : Np.isDig c = decide (48 ≤ (c.toNat : Int) ∧ (c.toNat : Int) ≤ 57) := all_bytes (P := fun c => Np.isDig c = decide (48 ≤ (c.toNat : Int) ∧ (c.toNat : Int) ≤ 57)) (by decide +kernel) c
theorem refSign_any (c : UInt8) (w : World) :
    Calls Tryd.prog 89 #[.int .u8 (c.toNat : Int)] w fun e w' => e = .returned (.bool (Np.cls c == 7)) ∧ w = w' := by
  have HS := Lib.hid (sign_int c)
  generalize (Np.cls c == 7) = b at *
  go_enter Tryd.func89, Tryd.ntmps89
  go_wp2
  all_goals
    go_ret
    refine ⟨ret_bool ?_, rfl⟩
    rw [HS.out]
    go_light
    first
      | (simp_all; done)
      | (rw [Bool.eq_iff_iff]; simp at *; omega)
      | (simp_all <;> omega)
theorem refLetter_any (c : UInt8) (w : World) :
    Calls Tryd.prog 121 #[.int .u8 (c.toNat : Int)] w fun e w' => e = .returned (.bool (Np.isLow c)) ∧ w = w' := by
  have HS := Lib.hid (low_int c)
  generalize Np.isLow c = b at *
  go_enter Tryd.func121, Tryd.ntmps121
  go_wp2
  all_goals
    go_ret
    refine ⟨ret_bool ?_, rfl⟩
    rw [HS.out]
    go_light
    first
      | (simp_all; done)
      | (rw [Bool.eq_iff_iff]; simp at *; omega)
      | (simp_all <;> omega)
theorem refDigit_any (c : UInt8) (w : World) :
    Calls Tryd.prog 122 #[.int .u8 (c.toNat : Int)] w fun e w' => e = .returned (.bool (Np.isDig c)) ∧ w = w' := by
  have HS := Lib.hid (dig_int c)
  generalize Np.isDig c = b at *
  go_enter Tryd.func122, Tryd.ntmps122
  go_wp2
  all_goals
    go_ret
    refine ⟨ret_bool ?_, rfl⟩
    rw [HS.out]
    go_light
    first
      | (simp_all; done)
      | (rw [Bool.eq_iff_iff]; simp at *; omega)
      | (simp_all <;> omega)
set_option maxRecDepth 100000 in
set_option maxHeartbeats 1000000 in
theorem refRun_any (c : UInt8) (w : World) :
    Calls Tryd.prog 90 #[.int .u8 (c.toNat : Int)] w fun e w' => e = .returned (.bool (Np.isRun c)) ∧ w = w' := by
  have HS := Lib.hid (run_int c)
  generalize Np.isRun c = b at *
  cases hl : Np.isLow c <;> cases hd : Np.isDig c
  all_goals
    have HLo := Lib.hid hl
    have HDi := Lib.hid hd
    clear hl hd
    go_enter Tryd.func90, Tryd.ntmps90
    go_wp2_with (first
      | (go_at_call 121; refine (refLetter_any c _).mono ?_; rintro e w' ⟨rfl, rfl⟩; rw [HLo.out])
      | (go_at_call 122; refine (refDigit_any c _).mono ?_; rintro e w' ⟨rfl, rfl⟩; rw [HDi.out]))
    all_goals
      go_ret
      refine ⟨ret_bool ?_, rfl⟩
      rw [HS.out, HLo.out, HDi.out]
      go_light
      first
      | (simp_all; done)
      | (rw [Bool.eq_iff_iff]; simp at *; omega)
      | (simp_all <;> omega)
/-- The same tokens from here on. -/
def SameFrom (l : List UInt8) (p q : Nat) : Prop := ∀ n, Np.lexFrom (l.drop p) p n = Np.lexFrom (l.drop q) q n
theorem SameFrom.gap {l : List UInt8} {p k : Nat} {c : UInt8} (h : SameFrom l p k) (hc : l[k]? = some c) (hg : Np.cls c = 1) : SameFrom l p (k + 1) := fun n => by
  have hk := (List.getElem?_eq_some_iff.1 hc)
  rw [h n, List.drop_eq_getElem_cons hk.1, hk.2, Np.lexFrom_gap k n (.inl hg)]
  simp [Np.width, hg]
theorem SameFrom.comment {l : List UInt8} {p k j : Nat} (h : SameFrom l p k) (hc : l[k]? = some 35) (hk : k ≤ j) (hj : j ≤ l.length) (h1 : ∀ i b, k ≤ i → i < j → l[i]? = some b → b ≠ 10) (h2 : ∀ b, l[j]? = some b → b = 10) : SameFrom l p j := fun n => by
  have hkl := (List.getElem?_eq_some_iff.1 hc)
  have hd : l.drop k = 35 :: l.drop (k + 1) := by rw [List.drop_eq_getElem_cons hkl.1, hkl.2]
  have hw : Np.width (35 :: l.drop (k + 1)) = j - k := by
    rw [← hd]
    have : Np.width (l.drop k) = ((l.drop k).takeWhile Np.notEnd).length := by rw [hd]; rfl
    rw [this]
    refine takeWhile_at (by simp; omega) (fun i b hi hb => ?_) (fun b hb => ?_)
    · rw [List.getElem?_drop] at hb
      have := h1 (k + i) b (by omega) (by omega) hb
      simp [Np.notEnd, this]
    · rw [List.getElem?_drop, show k + (j - k) = j by omega] at hb
      rw [h2 b hb]; rfl
  rw [h n, hd, Np.lexFrom_gap k n (.inr rfl), hw, ← hd, List.drop_drop, show k + (j - k) = j by omega]
def GivesGap (s : ByteArray) (p : Nat) (w : World) (e : Ending) (w' : World) : Prop :=
  ∃ q : Nat, p ≤ q ∧ q ≤ s.size ∧ SameFrom s.data.toList p q ∧ (∀ c, s.data.toList[q]? = some c → Np.cls c ≠ 1 ∧ Np.cls c ≠ 2) ∧ e = .returned (.int .i64 q) ∧ w = w'
set_option maxRecDepth 100000 in
set_option maxHeartbeats 1000000 in
theorem refGap_any (s : ByteArray) (hs : s.size ≤ 100000) (p : Nat) (hp : p ≤ s.size) (w : World) :
    Calls Tryd.prog 55 #[.string s, .int .i64 p] w (GivesGap s p w) := by
  go_enter Tryd.func55, Tryd.ntmps55
  go_wp2_with fail
  go_loop [1] (fun i => ∃ k : Nat, p ≤ k ∧ k ≤ s.size ∧ i = .int .i64 k ∧ Hid (SameFrom s.data.toList p k)) (fun i => s.size - (intOf i).toNat)
  case atStart => exact ⟨p, Nat.le_refl _, hp, rfl, Lib.hid (fun _ => rfl)⟩
  case round =>
    obtain ⟨k, hpk, hk, rfl, HS⟩ := hrel
    by_cases hlt : k < s.size
    · have HG := Lib.hid (get_list s k hlt)
      by_cases hc : s[k] = 35
      · have HC := Lib.hid hc
        have hcb : (((s[k]).toNat : Int) == 35) = true := by rw [hc]; rfl
        clear hc
        go_wp2_with fail
        go_loop [1] (fun i => ∃ j : Nat, k ≤ j ∧ j ≤ s.size ∧ i = .int .i64 j ∧ Hid (∀ i b, k ≤ i → i < j → s.data.toList[i]? = some b → b ≠ 10)) (fun i => s.size - (intOf i).toNat)
        case atStart => exact ⟨k, Nat.le_refl _, by omega, rfl, Lib.hid (fun i b h1 h2 => by omega)⟩
        case round =>
          obtain ⟨j, hkj, hj, rfl, HA⟩ := hrel
          by_cases hjl : j < s.size
          · have HJ := Lib.hid (get_list s j hjl)
            by_cases h10 : s[j] = 10
            · have h10b : (((s[j]).toNat : Int) != 10) = false := by rw [h10]; rfl
              have H10 := Lib.hid h10
              clear h10
              have hne : j ≠ k := fun e => by subst e; have h1 := HC.out; rw [H10.out] at h1; cases h1
              go_wp2_with fail
              go_round
              case rel =>
                refine ⟨j, by omega, hj, rfl, Lib.hid (HS.out.comment (by rw [HG.out, HC.out]) hkj (by rw [size_list]; exact hj) HA.out (fun b hb => by rw [HJ.out] at hb; cases hb; exact H10.out))⟩
              case measure => simp [intOf]; omega
            · have h10b : (((s[j]).toNat : Int) != 10) = true := by
                simp only [bne_iff_ne, ne_eq]
                intro e
                have e2 : (s[j]).toNat = 10 := by omega
                exact h10 (UInt8.toNat_inj.1 (by rw [e2]; rfl))
              have H10 := Lib.hid h10
              clear h10
              go_wp2_with fail
              go_round
              case rel =>
                refine ⟨j + 1, by omega, by omega, by go_num, Lib.hid (fun i b h1 h2 hb => ?_)⟩
                rcases Nat.lt_or_ge i j with h | h
                · exact HA.out i b h1 h hb
                · obtain rfl : i = j := by omega
                  rw [HJ.out] at hb; cases hb; exact H10.out
              case measure => simp [intOf]; omega
          · have hje : j = s.size := by omega
            subst hje
            go_wp2_with fail
            go_round
            case rel =>
              refine ⟨s.size, by omega, hj, rfl, Lib.hid (HS.out.comment (by rw [HG.out, HC.out]) hkj (by rw [size_list]; exact hj) HA.out (fun b hb => by rw [List.getElem?_eq_none (by rw [size_list]; omega)] at hb; cases hb))⟩
            case measure => simp [intOf]; omega
      · have hcb : (((s[k]).toNat : Int) == 35) = false := by
          simp only [beq_eq_false_iff_ne, ne_eq]
          intro e
          have e2 : (s[k]).toNat = 35 := by omega
          exact hc (UInt8.toNat_inj.1 (by rw [e2]; rfl))
        have HC := Lib.hid hc
        clear hc
        by_cases hg : Np.cls s[k] = 1
        · have hg3 : (((s[k]).toNat : Int) == 32) = true ∨ ((((s[k]).toNat : Int) == 32) = false ∧ (((s[k]).toNat : Int) == 9) = true) ∨ ((((s[k]).toNat : Int) == 32) = false ∧ (((s[k]).toNat : Int) == 9) = false ∧ (((s[k]).toNat : Int) == 10) = true) :=
            all_bytes (P := fun c => Np.cls c = 1 → ((c.toNat : Int) == 32) = true ∨ (((c.toNat : Int) == 32) = false ∧ ((c.toNat : Int) == 9) = true) ∨ (((c.toNat : Int) == 32) = false ∧ ((c.toNat : Int) == 9) = false ∧ ((c.toNat : Int) == 10) = true)) (by decide +kernel) s[k] hg
          have HG1 := Lib.hid hg
          clear hg
          rcases hg3 with g | ⟨g1, g2⟩ | ⟨g1, g2, g3⟩
          all_goals
            go_wp2_with fail
            go_round
            case rel => exact ⟨k + 1, by omega, by omega, by go_num, Lib.hid (HS.out.gap HG.out HG1.out)⟩
            case measure => simp [intOf]; omega
        · obtain ⟨g1, g2, g3⟩ : (((s[k]).toNat : Int) == 32) = false ∧ (((s[k]).toNat : Int) == 9) = false ∧ (((s[k]).toNat : Int) == 10) = false :=
            all_bytes (P := fun c => Np.cls c ≠ 1 → ((c.toNat : Int) == 32) = false ∧ ((c.toNat : Int) == 9) = false ∧ ((c.toNat : Int) == 10) = false) (by decide +kernel) s[k] hg
          have HG1 := Lib.hid hg
          clear hg
          go_wp2_with fail
          go_ret
          exact ⟨k, hpk, by omega, HS.out, (fun c h => by
            rw [HG.out] at h
            cases h
            exact ⟨HG1.out, fun e => HC.out (Np.cls2 e)⟩), rfl, rfl⟩
    · have : k = s.size := by omega
      subst this
      go_wp2_with fail
      go_ret
      exact ⟨s.size, hpk, Nat.le_refl _, HS.out, (fun c h => by rw [List.getElem?_eq_none (by rw [size_list]; omega)] at h; cases h), rfl, rfl⟩
end Go.Proofs.YtafpbfmhhpcalaaDoor
