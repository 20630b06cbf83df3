/- PrinterParts: the walk. -/
import Derived.Test.YtnbolgdccdnjeaaGreatDoorHead05
import Derived.Test.YtnbolgdccdnjeaaGreatDoorAppSl
import Derived.Test.YtnbolgdccdnjeaaGreatDoorShelf5
namespace Go.Proofs.YtnbolgdccdnjeaaGreatDoor
open Go.RowKit
theorem Tryz.infoZone : (Tryz.prog.info? 32).map (fun i => (i.zero, i.size, i.bytes)) = some (some (.agg #[.string ⟨#[]⟩, .slice none 0 0]), 2, 40) := by kernel_rfl
theorem rzone_one {w : World} {B : Nat} {r : List Value} {y : Np.Zone} (h : RZone w B r y) : ∀ u ∈ r, u.oneCell' = true := by
  obtain ⟨s, v, _, _, hv, rfl⟩ := h
  obtain ⟨A, c, rfl, _, _⟩ := slr_form hv
  intro u hu
  simp only [List.mem_cons, List.not_mem_nil, or_false] at hu
  rcases hu with rfl | rfl <;> rfl
theorem suffix_end (u : List UInt8) : Np.suffix ⟨(u ++ [125, 10]).toArray⟩ ⟨#[125, 10]⟩ = true := by
  have h : (⟨(u ++ [125, 10]).toArray⟩ : ByteArray).size = u.length + 2 := by show (u ++ [125, 10]).toArray.size = _; simp
  unfold Np.suffix
  rw [h, ByteArray.toList_eq, ByteArray.toList_eq, show (⟨#[125, 10]⟩ : ByteArray).size = 2 from rfl]
  rw [ByteArray.data_extract]
  simp
def PartsRel (w : World) (zs : List Np.Zone) (n i : Value) (wr : World) : Prop :=
  ∃ k : Nat, k ≤ zs.length ∧ i = .int .i64 k ∧ n = .int .i64 (Np.linesOf (zs.take k)) ∧ Np.linesOf (zs.take k) ≤ k * 302 ∧ Hid (Below w.heap.size w wr)
set_option maxRecDepth 100000 in
set_option maxHeartbeats 2000000 in
theorem parts_walk (v1 v2 : Value) (z1 z2 : List Np.Zone) (w : World) (hI : PrintIn w) (h1 : SlR RZone 2 w w.heap.size v1 z1) (h2 : SlR RZone 2 w w.heap.size v2 z2) :
    Calls Tryz.prog 6 #[v1, v2] w fun e w' => e = .returned (.bool true) ∧ Below w.heap.size w w' := by
  have HI := Lib.hid hI
  have HZ1 := Lib.hid h1
  have HZ2 := Lib.hid h2
  obtain ⟨A1, c1, rfl, hc1, hl1⟩ := slr_form h1
  obtain ⟨A2, c2, rfl, hc2, hl2⟩ := slr_form h2
  obtain ⟨i0, hi, hz⟩ := Option.map_eq_some_iff.1 Tryz.infoZone
  simp only [Prod.mk.injEq] at hz
  obtain ⟨hz0, hz1, hz2⟩ := hz
  clear hI h1 h2
  go_enter Tryz.func6, Tryz.ntmps6
  go_wp2_with fail
  refine (head05_any _ HI.out).mono ?_
  rintro e wa ⟨rfl, hba⟩
  have HBA := Lib.hid hba
  have hsa := hba.size
  have HA1 := Lib.hid (HZ1.out.later rzone_kept rzone_more hba)
  have HA2 := Lib.hid (HZ2.out.later rzone_kept rzone_more hba)
  clear hba
  go_wp2_with fail
  refine (few_any _ z1 _ HA1.out).mono ?_
  rintro e wa' ⟨b1, rfl, rfl, hb1⟩
  cases b1 with
  | false =>
    go_wp2_with fail
    go_ret
    exact ⟨rfl, HBA.out⟩
  | true =>
    have hf1 := hb1 rfl
    have HF1 := Lib.hid hf1
    have hn1 := hf1.1
    clear hb1 hf1
    go_wp2_with fail
    refine (few_any _ z2 _ HA2.out).mono ?_
    rintro e wa' ⟨b2, rfl, rfl, hb2⟩
    cases b2 with
    | false =>
      go_wp2_with fail
      go_ret
      exact ⟨rfl, HBA.out⟩
    | true =>
      have hf2 := hb2 rfl
      have HF2 := Lib.hid hf2
      have hn2 := hf2.1
      clear hb2 hf2
      have hal : Below wa.heap.size wa (wa.alloc (.cells #[] 32)) := (Below.refl _ _).alloc (Nat.le_refl _) _
      have HAL := Lib.hid hal
      clear hal
      go_wp2_with (first
        | (at_builtin; refine wpList_append_R _ rfl _ _ 22 rfl wa.heap.size wa.heap.size 32 i0 (.agg #[.string ⟨#[]⟩, .slice none 0 0]) 40 Tryz.underlying22 hi hz0 hz1 hz2 rfl (by decide) _ [] rfl (OwnR.empty (R := RZone) (sz := 2) wa (Nat.le_refl _)) A1 c1 wa.heap.size z1 rfl (HA1.out.keep rzone_kept HAL.out) (fun _ _ h => rzone_one h) (by simp [maxLen]; omega) (by simp; omega) (by simp) (Nat.le_refl _) (Nat.le_refl _) rzone_kept rzone_more ?_; intro v3 w3 ho3 hb3 hg3; have H3 := Lib.hid (And.intro ho3 (And.intro (HAL.out.trans hb3) (show wa.heap.size ≤ w3.heap.size from (HAL.out.trans hb3).size))); clear ho3 hb3 hg3)
        | (at_builtin; refine wpList_append_R _ rfl _ _ 22 rfl wa.heap.size wa.heap.size 32 i0 (.agg #[.string ⟨#[]⟩, .slice none 0 0]) 40 Tryz.underlying22 hi hz0 hz1 hz2 rfl (by decide) _ _ rfl H3.out.1 A2 c2 wa.heap.size z2 rfl (HA2.out.keep rzone_kept H3.out.2.1) (fun _ _ h => rzone_one h) (by simp [maxLen]; omega) (by simp; omega) H3.out.2.2 (Nat.le_refl _) (Nat.le_refl _) rzone_kept rzone_more ?_; intro v4 w4 ho4 hb4 hg4; have H4 := Lib.hid (And.intro ho4 (H3.out.2.1.trans hb4)); clear ho4 hb4 hg4))
      have h41 := OwnR.slr H4.out.1 rzone_more H4.out.2.size (by simp; omega)
      have HS := Lib.hid h41
      have HBB := Lib.hid (HBA.out.trans (H4.out.2.mono hsa))
      obtain ⟨A4, c4, rfl, hc4, hl4⟩ := slr_form h41
      clear h41
      have hnz : (([] ++ z1 : List Np.Zone) ++ z2) = z1 ++ z2 := by simp
      rw [hnz] at hc4 hl4
      have HSB : Hid (SlR RZone 2 w4 w4.heap.size (.slice A4 (z1 ++ z2).length c4) (z1 ++ z2)) := Lib.hid (by have := HS.out; rw [hnz] at this; exact this)
      have HFZ : Hid (∀ z ∈ z1 ++ z2, z.sets.length ≤ 300) := Lib.hid (fun z hz => by
        rcases List.mem_append.1 hz with h | h
        · exact (HF1.out.2 z h).1
        · exact (HF2.out.2 z h).1)
      rw [hnz]
      have hzl : (z1 ++ z2).length ≤ 20 := by simp; omega
      have HAPP : Hid (∀ t, Np.print (z1 ++ z2) = (t, 0) → Np.print z1 = (z1.flatMap Np.zoneText, 0) ∧ Np.print z2 = (z2.flatMap Np.zoneText, 0) ∧ t = z1.flatMap Np.zoneText ++ z2.flatMap Np.zoneText) := Lib.hid (fun t h => Np.print_app h)
      clear hnz HS
      generalize hzs : z1 ++ z2 = zs at *
      clear hzs
      obtain ⟨p1, n1, hp1⟩ : ∃ p n, Np.print z1 = (p, n) := ⟨_, _, rfl⟩
      obtain ⟨p2, n2, hp2⟩ : ∃ p n, Np.print z2 = (p, n) := ⟨_, _, rfl⟩
      obtain ⟨p0, n0, hp0⟩ : ∃ p n, Np.print zs = (p, n) := ⟨_, _, rfl⟩
      have HP1 := Lib.hid hp1
      have HP2 := Lib.hid hp2
      have HP0 := Lib.hid hp0
      clear hp1 hp2 hp0
      refine (print_at _ z1 _ (HI.out.keep HBB.out) (HZ1.out.later rzone_kept rzone_more HBB.out) HP1.out).mono ?_
      rintro e w5 ⟨rfl, hb5⟩
      have HB5 := Lib.hid (HBB.out.trans (hb5.mono HBB.out.size))
      have HS5 := Lib.hid (HSB.out.later rzone_kept rzone_more hb5)
      clear hb5
      go_wp2_with fail
      refine (print_at _ z2 _ (HI.out.keep HB5.out) (HZ2.out.later rzone_kept rzone_more HB5.out) HP2.out).mono ?_
      rintro e w6 ⟨rfl, hb6⟩
      have HB6 := Lib.hid (HB5.out.trans (hb6.mono HB5.out.size))
      have HS6 := Lib.hid (HS5.out.later rzone_kept rzone_more hb6)
      clear hb6
      go_wp2_with fail
      refine (print_at _ zs _ (HI.out.keep HB6.out) HS6.out HP0.out).mono ?_
      rintro e w7 ⟨rfl, hb7⟩
      have HB7 := Lib.hid (HB6.out.trans (hb7.mono HB6.out.size))
      have HS7 := Lib.hid (HS6.out.later rzone_kept rzone_more hb7)
      clear hb7 HS6 HS5 HSB HBB H4 H3
      by_cases hn0 : n0 = 0
      · subst hn0
        obtain ⟨q1, q2, q3⟩ := HAPP.out p0 HP0.out
        rw [HP1.out, Prod.mk.injEq] at q1
        rw [HP2.out, Prod.mk.injEq] at q2
        obtain ⟨q1, rfl⟩ := q1
        obtain ⟨q2, rfl⟩ := q2
        obtain ⟨r1, _, _, r4, r5, _⟩ := Np.print_ok HP0.out
        have hfd := Np.text_feeds r1
        have hte := Np.text_end zs
        rw [← r4] at hfd hte
        rw [← q1, ← q2] at q3
        have HFD := Lib.hid hfd
        have HTE := Lib.hid hte
        have HQ3 := Lib.hid q3
        clear hfd hte r1 r4 q1 q2 q3 HAPP
        go_wp2_with fail
        go_loopw [13, 55] (fun n i wr => PartsRel w7 zs n i wr) (fun _ i _ => zs.length - (intOf i).toNat)
        case atStart => exact ⟨0, Nat.zero_le _, rfl, rfl, by simp [Np.linesOf], Lib.hid (Below.refl _ _)⟩
        case round =>
          obtain ⟨k, hk, rfl, rfl, hln, HBr⟩ := hrel
          by_cases hlt : k < zs.length
          · have hget := List.getElem?_eq_getElem hlt
            obtain ⟨b, o, c', sn, sv, hA, hbB, _, hsn, hsz, hsv, e0, e1⟩ := zone_at (HS7.out.keep rzone_kept HBr.out) hget
            cases hA
            have hz300 := HFZ.out _ (List.getElem_mem hlt)
            have htk : Np.linesOf (zs.take (k + 1)) = Np.linesOf (zs.take k) + (zs[k].sets.length + 2) := by
              rw [List.take_add_one, hget]
              simp only [Np.linesOf, Option.toList_some, List.map_append, List.sum_append, List.map_cons, List.map_nil, List.sum_cons, List.sum_nil, Nat.add_zero]
            have HTK := Lib.hid htk
            generalize hx : zs[k] = z at *
            clear hx htk
            obtain ⟨As, cs, rfl, hcs, hls⟩ := slr_form hsv
            have hwr := HBr.out.size
            have hba : ∀ o, Below wr.heap.size wr (wr.alloc o) := fun o => (Below.refl _ _).alloc (Nat.le_refl _) _
            have HBAr := Lib.hid hba
            clear hba hget hsn hsv
            generalize hL : Np.linesOf (zs.take k) = L at *
            go_wp2_with fail
            go_roundw
            case rel => exact ⟨k + 1, by omega, by go_num, by rw [HTK.out]; go_num, by rw [HTK.out]; omega, Lib.hid (HBr.out.trans ((HBAr.out _).mono hwr))⟩
            case measure => simp [intOf] <;> omega
          · have hke : k = zs.length := by omega
            subst hke
            rw [List.take_length]
            have hp12 : p1.length + p2.length ≤ 8000 := by rw [HQ3.out, List.length_append] at r5; exact r5
            have hov : ¬ 9223372036854775807 < p1.length + p2.length := by omega
            have hcnt : ∀ w, Calls Tryz.prog 20 #[strs p0, .string ⟨#[10]⟩] w (fun e w' => e = .returned (.int .i64 (Np.linesOf zs)) ∧ w' = w) := fun w => by
              refine (Tryz.strings_Count_one ⟨p0.toArray⟩ 10 w).mono ?_
              rintro e w' ⟨rfl, rfl⟩
              refine ⟨?_, rfl⟩
              rw [← HFD.out]
              rfl
            have HCNT := Lib.hid hcnt
            clear hcnt
            generalize Np.linesOf zs = L at *
            have heq : (p0 == ((⟨p1.toArray⟩ : ByteArray) ++ ⟨p2.toArray⟩).toList) = true := by
              rw [beq_iff_eq, ByteArray.toList_eq, HQ3.out]
              simp
            rcases HTE.out with he | ⟨u, he⟩
            · have hnil : (p0 == []) = true := by rw [he]; rfl
              have HE := Lib.hid he
              clear he
              go_wp2_with (go_at_call 20; refine (HCNT.out _).mono ?_; rintro e w9 ⟨rfl, rfl⟩)
              go_ret
              exact ⟨rfl, HB7.out.trans (HBr.out.mono HB7.out.size)⟩
            · have hnil : (p0 == []) = false := by rw [he]; simp
              have hsuf : ∀ w, Calls Tryz.prog 21 #[strs p0, .string ⟨#[125, 10]⟩] w (fun e w' => e = .returned (.bool true) ∧ w' = w) := fun w => by
                refine (hasSuffix_any ⟨p0.toArray⟩ ⟨#[125, 10]⟩ (show p0.length ≤ _ by omega) (by decide) w).mono ?_
                rintro e w' ⟨rfl, rfl⟩
                refine ⟨?_, rfl⟩
                rw [he, suffix_end u]
              have HSUF := Lib.hid hsuf
              have HE := Lib.hid he
              clear he hsuf
              go_wp2_with (first
                | (go_at_call 20; refine (HCNT.out _).mono ?_; rintro e w9 ⟨rfl, rfl⟩)
                | (go_at_call 21; refine (HSUF.out _).mono ?_; rintro e w9 ⟨rfl, rfl⟩))
              go_ret
              exact ⟨rfl, HB7.out.trans (HBr.out.mono HB7.out.size)⟩
      · have hpe : p0 = [] := by have := Np.print_bad (l := zs) (by rw [HP0.out]; exact hn0); rw [HP0.out] at this; exact this
        subst hpe
        go_wp2_with fail
        go_ret
        exact ⟨rfl, HB7.out⟩
end Go.Proofs.YtnbolgdccdnjeaaGreatDoor
