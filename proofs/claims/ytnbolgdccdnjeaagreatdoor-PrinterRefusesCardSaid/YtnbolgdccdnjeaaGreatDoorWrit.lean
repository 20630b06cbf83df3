/- Contracts of package printer: what can be written. -/
import Derived.Test.YtnbolgdccdnjeaaGreatDoorToken
import Derived.Test.YtnbolgdccdnjeaaGreatDoorShape
import Derived.Test.YtnbolgdccdnjeaaGreatDoorPrintBd
namespace Go.Proofs.YtnbolgdccdnjeaaGreatDoor
open Go.RowKit
theorem isDigits_any (s : ByteArray) (hs : s.size ≤ 100000) (w : World) (r : Bool) (hr : s.data.toList.all Np.isDig = r) :
    Calls Tryz.prog 72 #[.string s] w fun e w' => e = .returned (.bool r) ∧ Below w.heap.size w w' := by
  have hi : (Lib.trimS s.data.toList digits = []) ↔ s.data.toList.all Np.isDig = true := trim_nil _
  generalize hts : Lib.trimS s.data.toList digits = ts at hi
  have HTS := Lib.hid hts
  clear hts
  cases r with
  | true =>
    have h0 : ts = [] := hi.2 hr
    subst h0
    clear hi hr
    go_enter Tryz.func72, Tryz.ntmps72
    go_wp2_with fail
    refine (trim_digits s hs _).mono ?_
    rw [HTS.out, show bytesOf [] = ⟨#[]⟩ from rfl]
    rintro e w1 ⟨rfl, hb⟩
    have HB := Lib.hid hb
    clear hb
    go_wp2_with fail
    go_ret
    exact ⟨rfl, HB.out⟩
  | false =>
    have h0 : ts ≠ [] := fun e => by rw [hi.1 e] at hr; cases hr
    have hte := bytesOf_nil h0
    clear hi hr
    generalize hbs : bytesOf ts = bs at hte
    have HBS := Lib.hid hbs
    clear hbs
    go_enter Tryz.func72, Tryz.ntmps72
    go_wp2_with fail
    refine (trim_digits s hs _).mono ?_
    rw [HTS.out, HBS.out]
    rintro e w1 ⟨rfl, hb⟩
    have HB := Lib.hid hb
    clear hb
    go_wp2_with fail
    go_ret
    exact ⟨by simp, HB.out⟩
def WritRel (w1 : World) (l : List Np.Signed) (i : Value) (wr : World) : Prop :=
  ∃ k : Nat, k ≤ l.length ∧ i = .int .i64 k ∧ Hid (Below w1.heap.size w1 wr) ∧ Hid (∀ j x, j < k → l[j]? = some x → Np.plainS x = true)
theorem plainZ_yes {a : List UInt8} {l : List Np.Signed} (ha : a.all Np.isDig = false) (h : ∀ j x, j < l.length → l[j]? = some x → Np.plainS x = true) : Np.plainZ ⟨a, l⟩ = true := by
  unfold Np.plainZ
  simp only [ha, Bool.not_false, Bool.true_and, List.all_eq_true]
  intro x hx
  obtain ⟨j, hj, rfl⟩ := List.mem_iff_getElem.1 hx
  exact h j _ hj (List.getElem?_eq_getElem hj)
theorem plainZ_no {a : List UInt8} {l : List Np.Signed} {j : Nat} {x : Np.Signed} (hx : l[j]? = some x) (h : Np.plainS x = false) : Np.plainZ ⟨a, l⟩ = false := by
  unfold Np.plainZ
  have : l.all Np.plainS = false := by rw [List.all_eq_false]; exact ⟨x, List.mem_of_getElem? hx, by simp [h]⟩
  simp only [this, Bool.and_false]
def WritIn (wo : World) (ds : List Np.Datum) (i : Value) (wr : World) : Prop :=
  ∃ k : Nat, k ≤ ds.length ∧ i = .int .i64 k ∧ Hid (Below wo.heap.size wo wr) ∧ Hid (∀ j d, j < k → ds[j]? = some d → d.text.all Np.isDig = false)
set_option maxRecDepth 100000 in
set_option maxHeartbeats 4000000 in
theorem isWritable_any (a : ByteArray) (v : Value) (l : List Np.Signed) (w : World) (hr : Np.rightZ ⟨a.data.toList, l⟩ = true) (hd : SlR RSigned 5 w w.heap.size v l) :
    Calls Tryz.prog 37 #[.agg #[.string a, v]] w fun e w' => e = .returned (.bool (Np.plainZ ⟨a.data.toList, l⟩)) ∧ Below w.heap.size w w' := by
  unfold Np.rightZ at hr
  simp only [Bool.and_eq_true] at hr
  have hsa : a.size ≤ 60 := by have := (Np.name_form hr.1.1).1; rwa [size_list] at this
  have HVS := Lib.hid (Np.goodSets_valid hr.2)
  have HD := Lib.hid hd
  obtain ⟨A, c, rfl, hc1, hl1, -⟩ := hd
  clear hr
  have HW : Hid (∀ o, Below w.heap.size w (w.alloc o)) := Lib.hid (fun o => (Below.refl _ w).alloc (Nat.le_refl _) _)
  cases hda : a.data.toList.all Np.isDig with
  | true =>
    have hf : Np.plainZ ⟨a.data.toList, l⟩ = false := by unfold Np.plainZ; rw [hda]; rfl
    rw [hf]
    have HDA := Lib.hid hda
    clear hf hda
    go_enter Tryz.func37, Tryz.ntmps37
    go_wp2_with fail
    refine (isDigits_any a (by omega) _ true HDA.out).mono ?_
    rintro e w1 ⟨rfl, hb⟩
    have HB := Lib.hid ((HW.out _).trans (hb.mono (by simp)))
    clear hb
    go_wp2_with fail
    go_ret
    exact ⟨rfl, HB.out⟩
  | false =>
    have HDA := Lib.hid hda
    clear hda
    go_enter Tryz.func37, Tryz.ntmps37
    go_wp2_with fail
    refine (isDigits_any a (by omega) _ false HDA.out).mono ?_
    rintro e w1 ⟨rfl, hb⟩
    have c1 : w1.cell? ⟨w.heap.size, 1, none⟩ = some (.slice A l.length c) := by rw [hb.cell (by simp)]; go_simp
    have hlt1 : w.heap.size < w1.heap.size := by have := hb.size; simp at this; omega
    have HB1 := Lib.hid ((HW.out _).trans (hb.mono (by simp)))
    clear hb
    go_wp2_with fail
    go_loopw [13] (fun i wr => WritRel w1 l i wr) (fun i _ => l.length - (intOf i).toNat)
    case atStart => exact ⟨0, Nat.zero_le _, rfl, Lib.hid (Below.refl _ _), Lib.hid (fun j x hj => by omega)⟩
    case round =>
      obtain ⟨k, hk, rfl, HBr, HA⟩ := hrel
      by_cases hlt : k < l.length
      · have hbw0 : Below w.heap.size w wr := HB1.out.trans (HBr.out.mono (by omega))
        have hget := List.getElem?_eq_getElem hlt
        obtain ⟨b, o, c', sn, dv, sv, hA, hbB, _, hsn, hsz, hdv, hsv, e0, e1, e2, e3, e4⟩ := signed_at (HD.out.keep rsigned_kept hbw0) hget
        cases hA
        have hvs := HVS.out _ (List.getElem_mem hlt)
        generalize hx : l[k] = x at *
        clear hx
        obtain ⟨Ad, cd, rfl, hcd, hld⟩ := slr_form hdv
        obtain ⟨As, cs, rfl, hcs, hls⟩ := slr_form hsv
        obtain ⟨v1, v2, v3, _, _, _, _, v8⟩ := Np.valid_parts hvs
        have hnl : sn.size ≤ 60 := by have := (Np.name_form v1).1; rw [← hsn, size_list] at this; exact this
        have hwr : w.heap.size < wr.heap.size := by have := HBr.out.size; omega
        have HX := Lib.hid hget
        have HSN := Lib.hid hsn
        have HDV := Lib.hid hdv
        have HBW0 := Lib.hid hbw0
        have HGD := Lib.hid (Np.goodData_all v8)
        have hnext : Np.plainS x = true → ∀ j y, j < k + 1 → l[j]? = some y → Np.plainS y = true := fun h j y hj hy => by
          by_cases e : j = k
          · subst e; rw [HX.out] at hy; cases hy; exact h
          · exact HA.out j y (by omega) hy
        have HN := Lib.hid hnext
        clear hdv hsv hget hsn hbw0 hvs v1 v8 hnext c1
        have hba : ∀ o, Below wr.heap.size wr (wr.alloc o) := fun o => (Below.refl _ _).alloc (Nat.le_refl _) _
        have HBA := Lib.hid hba
        clear hba
        by_cases hsg : x.sigs.length = 0
        · have hsg0 : x.sigs = [] := List.eq_nil_of_length_eq_zero hsg
          have hsi : (x.sigs.length : Int) ≤ 0 := by omega
          by_cases h8 : x.set.type = 8
          · have hp : Np.plainS x = false := by unfold Np.plainS; rw [decide_eq_false (by simp [h8])]; simp
            have HP := Lib.hid hp
            clear hp
            go_wp2_with fail
            go_ret
            exact ⟨ret_bool (plainZ_no HX.out HP.out).symm, HBW0.out.trans ((HBA.out _).mono (by omega))⟩
          · have h8b : (x.set.type == 8) = false := by simpa using h8
            cases hdn : sn.data.toList.all Np.isDig with
            | true =>
              have hp : Np.plainS x = false := by unfold Np.plainS; rw [← HSN.out, hdn]; simp
              have HP := Lib.hid hp
              have HDN := Lib.hid hdn
              clear hp hdn
              go_wp2_with fail
              refine (isDigits_any sn (by omega) _ true HDN.out).mono ?_
              rintro e w2 ⟨rfl, hb2⟩
              have HB2 := Lib.hid (HBW0.out.trans (((HBA.out _).trans (hb2.mono (by simp))).mono (by omega)))
              clear hb2
              go_wp2_with fail
              go_ret
              exact ⟨ret_bool (plainZ_no HX.out HP.out).symm, HB2.out⟩
            | false =>
              have HDN := Lib.hid hdn
              clear hdn
              go_wp2_with fail
              refine (isDigits_any sn (by omega) _ false HDN.out).mono ?_
              rintro e w2 ⟨rfl, hb2⟩
              have p1 : w2.cell? ⟨wr.heap.size, 1, none⟩ = some (.int .i64 x.set.type) := by rw [hb2.cell (by simp)]; exact World.cell?_alloc_new _ _ _ _
              have p3 : w2.cell? ⟨wr.heap.size, 3, none⟩ = some (.slice Ad x.set.data.length cd) := by rw [hb2.cell (by simp)]; exact World.cell?_alloc_new _ _ _ _
              have hz2 : wr.heap.size < w2.heap.size := by have := hb2.size; simp at this; omega
              have HB2 := Lib.hid ((HBA.out _).trans (hb2.mono (by simp)))
              clear hb2 e0 e1 e2 e3 e4
              by_cases h23 : x.set.type = 2 ∨ x.set.type = 3
              · have h2a : ((x.set.type != 2) && (x.set.type != 3)) = false := by
                  rcases h23 with h | h <;> simp [h]
                have hspl : Np.plainS x = x.set.data.all fun d => !d.text.all Np.isDig := by
                  unfold Np.plainS
                  rw [← HSN.out, HDN.out, hsg0, decide_eq_true h8]
                  have : (decide (x.set.type = 2) || decide (x.set.type = 3)) = true := by simpa using h23
                  rw [this]; simp
                have HSPL := Lib.hid hspl
                have hdt : ∀ d ∈ x.set.data, d.text.length ≤ 60 := fun d hd => (Np.datum_bd (by omega) (by omega) (HGD.out d hd)).2.2.2.2.2
                have HDT := Lib.hid hdt
                have HB2r := Lib.hid (HBr.out.trans (HB2.out.mono HBr.out.size))
                have HB20 := Lib.hid (HBW0.out.trans (HB2.out.mono (by omega)))
                have HD2 := Lib.hid (HDV.out.keep rdatum_kept (HB2.out.mono (by omega)))
                clear hspl hdt HDV HBW0 HB2 hsg0 hsg
                generalize hty : x.set.type = ty at *
                clear hty
                rcases h23 with rfl | rfl
                all_goals
                  go_wp2_with fail
                  obtain ⟨wo, rfl⟩ : ∃ wo : World, wo = w2 := ⟨_, rfl⟩
                  go_loopw [47] (fun i wr => WritIn wo x.set.data i wr) (fun i _ => x.set.data.length - (intOf i).toNat)
                  case atStart => exact ⟨0, Nat.zero_le _, rfl, Lib.hid (Below.refl _ _), Lib.hid (fun j d hj => by omega)⟩
                  case round =>
                    obtain ⟨i, hi, rfl, HBi, HAi⟩ := hrel
                    by_cases hlti : i < x.set.data.length
                    · have hgeti := List.getElem?_eq_getElem hlti
                      obtain ⟨bd, od, cd', sd, hAd, hbd, _, hsd, hsdz, f0, f1, f2⟩ := datum_at (HD2.out.keep rdatum_kept (HBi.out.mono (by omega))) hgeti
                      cases hAd
                      have hdl := HDT.out _ (List.getElem_mem hlti)
                      generalize hxd : x.set.data[i] = d at *
                      clear hxd
                      have hsd60 : sd.size ≤ 60 := by rw [← size_list, hsd]; exact hdl
                      have HGI := Lib.hid hgeti
                      have HSD := Lib.hid hsd
                      clear hgeti hsd hdl
                      have hbai : ∀ o, Below wr.heap.size wr (wr.alloc o) := fun o => (Below.refl _ _).alloc (Nat.le_refl _) _
                      have HBAI := Lib.hid hbai
                      clear hbai
                      cases hdd : sd.data.toList.all Np.isDig with
                      | true =>
                        have hp : Np.plainS x = false := by
                          rw [HSPL.out, List.all_eq_false]
                          exact ⟨d, List.mem_of_getElem? HGI.out, by rw [← HSD.out, hdd]; simp⟩
                        have HP := Lib.hid hp
                        have HDD := Lib.hid hdd
                        clear hp hdd
                        go_wp2_with fail
                        refine (isDigits_any sd (by omega) _ true HDD.out).mono ?_
                        rintro e w5 ⟨rfl, hb5⟩
                        have HB5 := Lib.hid (HB20.out.trans ((HBi.out.trans (((HBAI.out _).trans (hb5.mono (by simp))).mono HBi.out.size)).mono (by omega)))
                        clear hb5
                        go_wp2_with fail
                        go_ret
                        exact ⟨ret_bool (plainZ_no HX.out HP.out).symm, HB5.out⟩
                      | false =>
                        have HDD := Lib.hid hdd
                        clear hdd
                        go_wp2_with fail
                        refine (isDigits_any sd (by omega) _ false HDD.out).mono ?_
                        rintro e w5 ⟨rfl, hb5⟩
                        have HB5 := Lib.hid (HBi.out.trans (((HBAI.out _).trans (hb5.mono (by simp))).mono HBi.out.size))
                        clear hb5
                        go_wp2_with fail
                        go_roundw
                        case rel =>
                          refine ⟨i + 1, by omega, by go_num, HB5, Lib.hid (fun j y hj hy => ?_)⟩
                          by_cases e : j = i
                          · subst e; rw [HGI.out] at hy; cases hy; rw [← HSD.out]; exact HDD.out
                          · exact HAi.out j y (by omega) hy
                        case measure => simp [intOf] <;> omega
                    · have hp : Np.plainS x = true := by
                        rw [HSPL.out, List.all_eq_true]
                        intro d hd
                        obtain ⟨j, hj, rfl⟩ := List.mem_iff_getElem.1 hd
                        rw [HAi.out j _ (by omega) (List.getElem?_eq_getElem hj)]; rfl
                      have HP := Lib.hid hp
                      clear hp
                      go_wp2_with fail
                      go_roundw
                      case rel => exact ⟨k + 1, by omega, by go_num, Lib.hid (HB2r.out.trans (HBi.out.mono (by have := HBr.out.size; omega))), Lib.hid (HN.out HP.out)⟩
                      case measure => simp [intOf] <;> omega
              · have h2 : (x.set.type != 2) = true := by simp; omega
                have h3 : (x.set.type != 3) = true := by simp; omega
                have hp : Np.plainS x = true := by
                  unfold Np.plainS
                  rw [← HSN.out, HDN.out, hsg0, decide_eq_true h8]
                  have : (decide (x.set.type = 2) || decide (x.set.type = 3)) = false := by simp; omega
                  rw [this]; rfl
                have HP := Lib.hid hp
                clear hp h23
                go_wp2_with fail
                go_roundw
                case rel => exact ⟨k + 1, by omega, by go_num, Lib.hid (HBr.out.trans (HB2.out.mono HBr.out.size)), Lib.hid (HN.out HP.out)⟩
                case measure => simp [intOf] <;> omega
        · have hsi : (0 : Int) < (x.sigs.length : Int) := by omega
          have hsn0 : 0 < x.sigs.length := by omega
          have hsd0 : decide (0 < x.sigs.length) = true := decide_eq_true hsn0
          have hp : Np.plainS x = false := by
            unfold Np.plainS
            have : x.sigs.isEmpty = false := by cases hs : x.sigs with
              | nil => rw [hs] at hsg; simp at hsg
              | cons => rfl
            rw [this]; rfl
          have HP := Lib.hid hp
          clear hp
          go_wp2_with fail
          go_ret
          exact ⟨ret_bool (plainZ_no HX.out HP.out).symm, HBW0.out.trans ((HBA.out _).mono (by omega))⟩
      · go_wp2_with fail
        go_ret
        refine ⟨ret_bool ?_, HB1.out.trans (HBr.out.mono (by omega))⟩
        exact (plainZ_yes HDA.out (fun j x hj hx => HA.out j x (by omega) hx)).symm
end Go.Proofs.YtnbolgdccdnjeaaGreatDoor
