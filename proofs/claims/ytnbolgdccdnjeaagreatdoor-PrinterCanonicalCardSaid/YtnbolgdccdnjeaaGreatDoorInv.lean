/- PrinterInverse and PrinterCanonical: the walks. -/
import Derived.Test.YtnbolgdccdnjeaaGreatDoorHead05
import Derived.Test.YtnbolgdccdnjeaaGreatDoorQG
import Derived.Test.YtnbolgdccdnjeaaGreatDoorCB
namespace Go.Proofs.YtnbolgdccdnjeaaGreatDoor
open Go.RowKit
theorem print_bad {l : List Np.Zone} {t : List UInt8} {n : Int} (h : Np.print l = (t, n)) (hn : n ≠ 0) : t = [] := by
  unfold Np.print at h
  repeat' (split at h)
  all_goals simp only [Prod.mk.injEq] at h
  all_goals first
    | exact h.1.symm
    | exact absurd h.2.symm hn
theorem plain0_of {z : Np.Zone} (h : Np.plainZ z = true) : Plain0 z.sets := fun x hx => by
  unfold Np.plainZ at h
  rw [Bool.and_eq_true, List.all_eq_true] at h
  have := h.2 x hx
  unfold Np.plainS at this
  simp only [Bool.and_eq_true] at this
  simpa using this.1.1.1
theorem plain0_print {l : List Np.Zone} {t : List UInt8} (h : Np.print l = (t, 0)) : ∀ z ∈ l, Plain0 z.sets := fun z hz => by
  have := (Np.print_ok h).2.2.1
  rw [List.all_eq_true] at this
  exact plain0_of (this z hz)
theorem plain0_parse {s : List UInt8} {l : List Np.Zone} (h : Np.parse s = (l, [])) : ∀ z ∈ l, Plain0 z.sets := fun z hz => plain0_of ((Np.parse_right h).1 z hz).2
theorem PrintIn.parse {w : World} (h : PrintIn w) (s : ByteArray) (hs : s.size ≤ 140737488355328) {x : List Np.Zone × List Np.Diag} (hx : Np.parse s.data.toList = x) : Calls Tryz.prog 23 #[.string s] w (GivesParse w x) := by
  rw [← hx]; exact parse_any s hs w h.err h.rules
theorem strs_data (t : List UInt8) : (⟨t.toArray⟩ : ByteArray).data.toList = t := by simp
set_option maxRecDepth 100000 in
set_option maxHeartbeats 2000000 in
theorem inverse_walk (v1 : Value) (z1 : List Np.Zone) (w : World) (hI : PrintIn w) (h1 : SlR RZone 2 w w.heap.size v1 z1) :
    Calls Tryz.prog 12 #[v1] w fun e w' => e = .returned (.bool true) ∧ Below w.heap.size w w' := by
  have HI := Lib.hid hI
  have HZ1 := Lib.hid h1
  obtain ⟨A1, c1, rfl, hc1, hl1⟩ := slr_form h1
  clear hI h1
  go_enter Tryz.func12, Tryz.ntmps12
  go_wp2_with fail
  refine (head05_any _ HI.out).mono ?_
  rintro e wa ⟨rfl, hba⟩
  have HBA := Lib.hid hba
  have HA1 := Lib.hid (HZ1.out.later rzone_kept rzone_more hba)
  clear hba
  go_wp2_with fail
  refine (few_any _ z1 _ HA1.out).mono ?_
  rintro e wa' ⟨b1, rfl, rfl, hb1⟩
  clear hb1
  cases b1 with
  | false =>
    go_wp2_with fail
    go_ret
    exact ⟨rfl, HBA.out⟩
  | true =>
    rcases hp : Np.print z1 with ⟨t, n⟩
    have HIA := Lib.hid (HI.out.keep HBA.out)
    have HP := Lib.hid hp
    go_wp2_with fail
    refine (print_at _ z1 wa HIA.out HA1.out hp).mono ?_
    rintro e wb ⟨rfl, hbb⟩
    have HBB := Lib.hid (HBA.out.trans (hbb.mono HBA.out.size))
    have HBb := Lib.hid hbb
    clear hbb hp
    by_cases hn : n = 0
    · subst hn
      have hnn : ((0 : Int) != 0) = false := rfl
      have hpp := Np.print_parse HP.out
      have hpl := plain0_print HP.out
      have hlen := (Np.print_ok HP.out).2.2.2.2.1
      have HPL := Lib.hid hpl
      have hparse := (HIA.out.keep HBb.out).parse ⟨t.toArray⟩ (by show t.length ≤ _; omega) (x := (z1, [])) (by rw [strs_data]; exact hpp)
      have HPA := Lib.hid hparse
      have HB1 := Lib.hid (HA1.out.later rzone_kept rzone_more HBb.out)
      clear hpp hpl hlen hparse hnn
      simp only [strs]
      go_wp2_with fail
      refine HPA.out.mono ?_
      rintro e wc ⟨zv, dv, rfl, hzv, hdv, hbc⟩
      obtain ⟨Ad, cd, rfl, -, -⟩ := slr_form hdv
      obtain ⟨Az, cz, rfl, -, -⟩ := slr_form hzv
      have HZV := Lib.hid hzv
      have HC1 := Lib.hid (HB1.out.later rzone_kept rzone_more hbc)
      have HBC := Lib.hid (HBB.out.trans (hbc.mono HBB.out.size))
      clear hzv hdv hbc
      simp only [List.length_nil]
      go_wp2_with fail
      refine (sameZones_yes _ _ z1 _ HPL.out HC1.out HZV.out).mono ?_
      rintro e wd ⟨rfl, hbd⟩
      have HBD := Lib.hid (HBC.out.trans (hbd.mono HBC.out.size))
      clear hbd
      go_wp2_with fail
      go_ret
      exact ⟨rfl, HBD.out⟩
    · have ht : t = [] := print_bad HP.out hn
      subst ht
      have hnn : (n != 0) = true := by simpa using hn
      simp only [strs]
      go_wp2_with fail
      go_ret
      exact ⟨rfl, HBB.out⟩
set_option maxRecDepth 100000 in
set_option maxHeartbeats 2000000 in
theorem canonical_walk (s : ByteArray) (w : World) (hI : PrintIn w) :
    Calls Tryz.prog 13 #[.string s] w fun e w' => e = .returned (.bool true) ∧ Below w.heap.size w w' := by
  have HI := Lib.hid hI
  clear hI
  go_enter Tryz.func13, Tryz.ntmps13
  go_wp2_with fail
  refine (head05_any _ HI.out).mono ?_
  rintro e wa ⟨rfl, hba⟩
  have HBA := Lib.hid hba
  have HIA := Lib.hid (HI.out.keep hba)
  clear hba
  by_cases h81 : 8100 < s.size
  · have h81I : (8100 : Int) < (s.size : Int) := by omega
    go_wp2_with fail
    go_ret
    exact ⟨rfl, HBA.out⟩
  · have h81I : ¬ (8100 : Int) < (s.size : Int) := by omega
    rcases hp : Np.parse s.data.toList with ⟨l, d⟩
    have HPA := Lib.hid (HIA.out.parse s (by omega) hp)
    have HP := Lib.hid hp
    clear hp
    go_wp2_with fail
    refine HPA.out.mono ?_
    rintro e wb ⟨zv, dv, rfl, hzv, hdv, hbb⟩
    obtain ⟨Ad, cd, rfl, -, -⟩ := slr_form hdv
    obtain ⟨Az, cz, rfl, -, -⟩ := slr_form hzv
    dsimp only at hzv hdv ⊢
    have HZV := Lib.hid hzv
    have HBb := Lib.hid hbb
    have HIB := Lib.hid (HIA.out.keep hbb)
    have HBB := Lib.hid (HBA.out.trans (hbb.mono HBA.out.size))
    clear hzv hdv hbb HPA
    obtain ⟨nl, hnl⟩ : ∃ nl, nl = l.length := ⟨_, rfl⟩
    rw [← hnl] at HZV ⊢
    by_cases hd : d = []
    · subst hd
      rcases hq : Np.print l with ⟨t, n⟩
      have HQ := Lib.hid hq
      have HPR := Lib.hid (print_at _ l wb HIB.out HZV.out hq)
      have hpp := Np.parse_print HP.out
      rw [hq] at hpp
      clear hq hnl
      simp only [List.length_nil]
      go_wp2_with fail
      refine HPR.out.mono ?_
      rintro e wc ⟨rfl, hbc⟩
      have HBc := Lib.hid hbc
      have HIC := Lib.hid (HIB.out.keep hbc)
      have HZC := Lib.hid (HZV.out.later rzone_kept rzone_more hbc)
      have HBC := Lib.hid (HBB.out.trans (hbc.mono HBB.out.size))
      clear hbc HPR
      by_cases hn : n = 0
      · subst hn
        have ht : Np.parse t = (l, []) := by
          rcases hpp with h | ⟨t', h, h'⟩
          · simp at h
          · simp only [Prod.mk.injEq, and_true] at h; rw [h]; exact h'
        have hlen := (Np.print_ok HQ.out).2.2.2.2.1
        have HPT := Lib.hid (HIC.out.parse ⟨t.toArray⟩ (by show t.length ≤ _; omega) (x := (l, [])) (by rw [strs_data]; exact ht))
        clear hpp ht hlen
        simp only [strs]
        go_wp2_with fail
        refine HPT.out.mono ?_
        rintro e wd ⟨zv2, dv2, rfl, hzv2, hdv2, hbd⟩
        obtain ⟨Ad2, cd2, rfl, -, -⟩ := slr_form hdv2
        obtain ⟨Az2, cz2, rfl, -, -⟩ := slr_form hzv2
        have HZ2 := Lib.hid hzv2
        have HID := Lib.hid (HIC.out.keep hbd)
        have HZD := Lib.hid (HZC.out.later rzone_kept rzone_more hbd)
        have HBD := Lib.hid (HBC.out.trans (hbd.mono HBC.out.size))
        clear hzv2 hdv2 hbd HPT
        simp only [List.length_nil]
        go_wp2_with fail
        refine (print_at _ l wd HID.out HZ2.out HQ.out).mono ?_
        rintro e we ⟨rfl, hbe⟩
        have HZE := Lib.hid (HZD.out.later rzone_kept rzone_more hbe)
        have HZ2E := Lib.hid (HZ2.out.later rzone_kept rzone_more hbe)
        have HBE := Lib.hid (HBD.out.trans (hbe.mono HBD.out.size))
        clear hbe
        simp only [strs]
        go_wp2_with fail
        refine (sameZones_yes _ _ l _ (plain0_parse HP.out) HZE.out HZ2E.out).mono ?_
        rintro e wf ⟨rfl, hbf⟩
        have HBF := Lib.hid (HBE.out.trans (hbf.mono HBE.out.size))
        clear hbf
        go_wp2_with fail
        go_ret
        exact ⟨rfl, HBF.out⟩
      · have hn2 : n = 2 := by
          rcases hpp with h | ⟨t', h, h'⟩
          · simp only [Prod.mk.injEq] at h; exact h.2
          · simp only [Prod.mk.injEq] at h; exact absurd h.2 hn
        subst hn2
        go_wp2_with fail
        go_ret
        exact ⟨rfl, HBC.out⟩
    · have h0 : (0 : Int) < (d.length : Int) := by
        have := List.length_pos_iff.2 hd; omega
      obtain ⟨nd, hnd⟩ : ∃ nd, nd = d.length := ⟨_, rfl⟩
      rw [← hnd] at h0 ⊢
      clear hnd hnl
      go_wp2_with fail
      go_ret
      exact ⟨rfl, HBB.out⟩
end Go.Proofs.YtnbolgdccdnjeaaGreatDoor
