/- Contract of printer.isOrdered. -/
import Derived.Test.YtnbolgdccdnjeaaGreatDoorShape
import Derived.Test.YtnbolgdccdnjeaaGreatDoorUnder2
import Derived.IntWalk
namespace Go.Proofs.YtnbolgdccdnjeaaGreatDoor
open Go.RowKit
theorem hasPrefixStar (s : ByteArray) (hs : s.size ≤ 140737488355328) (w : World) :
    Calls Tryz.prog 25 #[.string s, .string ⟨#[42]⟩] w fun e w' => e = .returned (.bool (Np.isWild s.data.toList)) ∧ w = w' := by
  have h1 : 1 ≤ s.size → ((s.extract 0 1).toList == [42]) = Np.isWild s.data.toList := isWild_eq s
  have h2 : s.size < 1 → Np.isWild s.data.toList = false := fun h => by
    have : s.data.toList = [] := List.eq_nil_of_length_eq_zero (by rw [size_list]; omega)
    rw [this]; rfl
  have H1 := Lib.hid h1
  have H2 := Lib.hid h2
  clear h1 h2
  go_enter Tryz.func25, Tryz.ntmps25
  go_wp2
  · go_ret
    exact ⟨ret_bool (H1.out (by omega)), rfl⟩
  · go_ret
    exact ⟨ret_bool (H2.out (by omega)).symm, rfl⟩
/-- The set before a place. -/
def prevSet (l : List Np.Signed) (k : Nat) : Option Np.DSet := (l.take k).getLast?.map (·.set)
theorem prev_succ {l : List Np.Signed} {k : Nat} {x : Np.Signed} (h : l[k]? = some x) : prevSet l (k + 1) = some x.set := by
  obtain ⟨hl, rfl⟩ := List.getElem?_eq_some_iff.1 h
  unfold prevSet
  rw [List.take_succ_eq_append_getElem hl, List.getLast?_append]; rfl
theorem goodSets_at {apex : List UInt8} {l : List Np.Signed} {k : Nat} {x : Np.Signed} (h : l[k]? = some x) (p : Option Np.DSet) :
    Np.goodSets apex p (l.drop k) = ((Np.validName x.set.name && Np.underL x.set.name apex) && Np.validSet x.set && (match p with | none => true | some q => decide (Np.cmpSet q x.set < 0)) && Np.goodSets apex (some x.set) (l.drop (k + 1))) := by
  obtain ⟨hl, rfl⟩ := List.getElem?_eq_some_iff.1 h
  rw [List.drop_eq_getElem_cons hl]
  cases p <;> rfl
def OrdRel (w1 : World) (apex : List UInt8) (l : List Np.Signed) (i : Value) (wr : World) : Prop :=
  ∃ k : Nat, k ≤ l.length ∧ i = .int .i64 k ∧ Below w1.heap.size w1 wr ∧ Hid (∀ j x, j < k → l[j]? = some x → Np.validSet x.set = true) ∧ Hid (Np.goodSets apex none l = Np.goodSets apex (prevSet l k) (l.drop k))
set_option maxRecDepth 100000 in
set_option maxHeartbeats 4000000 in
theorem isOrdered_any (a : ByteArray) (ha : a.size ≤ 140737488355328) (v : Value) (l : List Np.Signed) (w : World) (hR : RulesIn w w.heap.size) (hd : SlR RSigned 5 w w.heap.size v l) :
    Calls Tryz.prog 36 #[.agg #[.string a, v]] w fun e w' => e = .returned (.bool (Np.rightZ ⟨a.data.toList, l⟩)) ∧ Below w.heap.size w w' := by
  have HR := Lib.hid hR
  have HD := Lib.hid hd
  obtain ⟨A, c, rfl, hc1, hl1, -⟩ := hd
  clear hR
  have HW : Hid (∀ o, Below w.heap.size w (w.alloc o)) := Lib.hid (fun o => (Below.refl _ w).alloc (Nat.le_refl _) _)
  go_enter Tryz.func36, Tryz.ntmps36
  go_wp2_with fail
  refine (nameValid_any _ ha _).mono ?_
  rintro e w1 ⟨rfl, hb⟩
  have c0 : w1.cell? ⟨w.heap.size, 0, none⟩ = some (.string a) := by rw [hb.cell (by simp)]; go_simp
  have c1 : w1.cell? ⟨w.heap.size, 1, none⟩ = some (.slice A l.length c) := by rw [hb.cell (by simp)]; go_simp
  have hlt1 : w.heap.size < w1.heap.size := by have := hb.size; simp at this; omega
  have HB1 := Lib.hid ((HW.out _).trans (hb.mono (by simp)))
  clear hb
  cases hva : Np.validName a.data.toList with
  | false =>
    have HF : Hid (Np.rightZ ⟨a.data.toList, l⟩ = false) := Lib.hid (by unfold Np.rightZ; rw [hva]; rfl)
    clear hva
    go_wp2_with fail
    go_ret
    exact ⟨ret_bool HF.out.symm, HB1.out⟩
  | true =>
    have HVA := Lib.hid hva
    clear hva
    cases hwa : Np.isWild a.data.toList with
    | true =>
      have HF : Hid (Np.rightZ ⟨a.data.toList, l⟩ = false) := Lib.hid (by unfold Np.rightZ; rw [hwa]; simp)
      go_wp2_with (go_at_call 25; refine (hasPrefixStar a ha _).mono ?_; rintro e w' ⟨rfl, rfl⟩)
      go_ret
      exact ⟨ret_bool HF.out.symm, HB1.out⟩
    | false =>
      have HF : Hid (Np.rightZ ⟨a.data.toList, l⟩ = Np.goodSets a.data.toList none l) := Lib.hid (by unfold Np.rightZ; rw [hwa, HVA.out]; simp)
      go_wp2_with (go_at_call 25; refine (hasPrefixStar a ha _).mono ?_; rintro e w' ⟨rfl, rfl⟩)
      clear hwa
      go_loopw [21] (fun i wr => OrdRel w1 a.data.toList l i wr) (fun i _ => l.length - (intOf i).toNat)
      case atStart => exact ⟨0, Nat.zero_le _, rfl, Below.refl _ _, Lib.hid (fun j x hj => by omega), Lib.hid rfl⟩
      case round =>
        obtain ⟨k, hk, rfl, hbw, HV, HG⟩ := hrel
        by_cases hlt : k < l.length
        · have hbw0 : Below w.heap.size w wr := HB1.out.trans (hbw.mono (by omega))
          have hget := List.getElem?_eq_getElem hlt
          obtain ⟨b, o, c', sn, dv, sv, hA, hbB, _, hsn, hsz, hdv, hsv, e0, e1, e2, e3, e4⟩ := signed_at (HD.out.keep rsigned_kept hbw0) hget
          cases hA
          generalize hx : l[k] = x at *
          clear hx
          obtain ⟨Ad, cd, rfl, hcd, hld⟩ := slr_form hdv
          obtain ⟨As, cs, rfl, hcs, hls⟩ := slr_form hsv
          have d0 : wr.cell? ⟨w.heap.size, 0, none⟩ = some (.string a) := by rw [hbw.cell (by simpa using hlt1)]; exact c0
          have d1 : wr.cell? ⟨w.heap.size, 1, none⟩ = some (.slice (some ⟨b, o, none⟩) l.length c) := by rw [hbw.cell (by simpa using hlt1)]; exact c1
          have hbr : w.heap.size < wr.heap.size := by have := hbw.size; omega
          have HDV := Lib.hid hdv
          have HX := Lib.hid hget
          have HSN := Lib.hid hsn
          have HBW := Lib.hid hbw
          have HBW0 := Lib.hid hbw0
          have HGX := Lib.hid (HG.out.trans (goodSets_at hget (prevSet l k)))
          clear hdv hsv hget hsn hbw hbw0 c0 c1
          go_wp2_with fail
          have hba : Below wr.heap.size wr (wr.alloc (.cells #[.string sn, .int .i64 x.set.type, .int .i64 x.set.life, .slice Ad x.set.data.length cd, .slice As x.sigs.length cs] 41)) := (Below.refl _ _).alloc (Nat.le_refl _) _
          have p0 := World.cell?_alloc_new wr #[.string sn, .int .i64 x.set.type, .int .i64 x.set.life, .slice Ad x.set.data.length cd, .slice As x.sigs.length cs] 41 0
          have p1 := World.cell?_alloc_new wr #[.string sn, .int .i64 x.set.type, .int .i64 x.set.life, .slice Ad x.set.data.length cd, .slice As x.sigs.length cs] 41 1
          have p2 := World.cell?_alloc_new wr #[.string sn, .int .i64 x.set.type, .int .i64 x.set.life, .slice Ad x.set.data.length cd, .slice As x.sigs.length cs] 41 2
          have p3 := World.cell?_alloc_new wr #[.string sn, .int .i64 x.set.type, .int .i64 x.set.life, .slice Ad x.set.data.length cd, .slice As x.sigs.length cs] 41 3
          have hwr : wr.heap.size < (wr.alloc (.cells #[.string sn, .int .i64 x.set.type, .int .i64 x.set.life, .slice Ad x.set.data.length cd, .slice As x.sigs.length cs] 41)).heap.size := by simp
          generalize wr.alloc (.cells #[.string sn, .int .i64 x.set.type, .int .i64 x.set.life, .slice Ad x.set.data.length cd, .slice As x.sigs.length cs] 41) = wa at hba p0 p1 p2 p3 hwr ⊢
          have HBA := Lib.hid hba
          have HBA0 := Lib.hid (HBW0.out.trans (hba.mono (by omega)))
          replace d0 : wa.cell? ⟨w.heap.size, 0, none⟩ = some (.string a) := by rw [hba.cell (by simpa using hbr)]; exact d0
          replace d1 : wa.cell? ⟨w.heap.size, 1, none⟩ = some (.slice (some ⟨b, o, none⟩) l.length c) := by rw [hba.cell (by simpa using hbr)]; exact d1
          clear hba e0 e1 e2 e3 e4
          cases hvn : Np.validName sn.data.toList with
          | false =>
            have HVN := Lib.hid hvn
            clear hvn
            refine (under_no sn a hsz _ HVN.out).mono ?_
            rintro e w2 ⟨rfl, hb2⟩
            have HB2 := Lib.hid (HBA0.out.trans (hb2.mono (by omega)))
            clear hb2
            go_wp2_with fail
            go_ret
            refine ⟨ret_bool ?_, HB2.out⟩
            rw [HF.out, HGX.out, ← HSN.out, HVN.out]; rfl
          | true =>
            have HVN := Lib.hid hvn
            clear hvn
            refine (under_yes sn a hsz ha _ HVN.out HVA.out).mono ?_
            rintro e w2 ⟨rfl, hb2⟩
            have hz2 : wr.heap.size < w2.heap.size := by have := hb2.size; omega
            replace d0 : w2.cell? ⟨w.heap.size, 0, none⟩ = some (.string a) := by rw [hb2.cell (by simp; omega)]; exact d0
            replace d1 : w2.cell? ⟨w.heap.size, 1, none⟩ = some (.slice (some ⟨b, o, none⟩) l.length c) := by rw [hb2.cell (by simp; omega)]; exact d1
            replace p0 : w2.cell? ⟨wr.heap.size, 0, none⟩ = some (.string sn) := by rw [hb2.cell (by simpa using hwr)]; exact p0
            replace p1 : w2.cell? ⟨wr.heap.size, 1, none⟩ = some (.int .i64 x.set.type) := by rw [hb2.cell (by simpa using hwr)]; exact p1
            replace p2 : w2.cell? ⟨wr.heap.size, 2, none⟩ = some (.int .i64 x.set.life) := by rw [hb2.cell (by simpa using hwr)]; exact p2
            replace p3 : w2.cell? ⟨wr.heap.size, 3, none⟩ = some (.slice Ad x.set.data.length cd) := by rw [hb2.cell (by simpa using hwr)]; exact p3
            have HB2 := Lib.hid (HBA0.out.trans (hb2.mono (by omega)))
            have HB2r := Lib.hid (HBA.out.trans (hb2.mono (by omega)))
            clear hb2
            cases hun : Np.underL sn.data.toList a.data.toList with
            | false =>
              have HUN := Lib.hid hun
              clear hun
              go_wp2_with fail
              go_ret
              refine ⟨ret_bool ?_, HB2.out⟩
              rw [HF.out, HGX.out, ← HSN.out, HVN.out, HUN.out]; rfl
            | true =>
              have HUN := Lib.hid hun
              clear hun
              go_wp2_with fail
              refine (recValid_any sn hsz _ _ _ x.set.data _ ((HR.out.keep HB2.out).more (by omega)) ((HDV.out.keep rdatum_kept (HB2r.out.mono (by omega))).more rdatum_more (by omega))).mono ?_
              have hset : (⟨sn.data.toList, x.set.type, x.set.life, x.set.data⟩ : Np.DSet) = x.set := by rw [HSN.out]
              rw [hset]
              have HSET := Lib.hid hset
              clear hset
              rintro e w3 ⟨rfl, hb3⟩
              have hz3 : wr.heap.size < w3.heap.size := by have := hb3.size; omega
              have hz30 : w.heap.size < w3.heap.size := by omega
              replace d1 : w3.cell? ⟨w.heap.size, 1, none⟩ = some (.slice (some ⟨b, o, none⟩) l.length c) := by rw [hb3.cell (by simp; omega)]; exact d1
              replace p0 : w3.cell? ⟨wr.heap.size, 0, none⟩ = some (.string sn) := by rw [hb3.cell (by simpa using hz2)]; exact p0
              replace p1 : w3.cell? ⟨wr.heap.size, 1, none⟩ = some (.int .i64 x.set.type) := by rw [hb3.cell (by simpa using hz2)]; exact p1
              replace p2 : w3.cell? ⟨wr.heap.size, 2, none⟩ = some (.int .i64 x.set.life) := by rw [hb3.cell (by simpa using hz2)]; exact p2
              replace p3 : w3.cell? ⟨wr.heap.size, 3, none⟩ = some (.slice Ad x.set.data.length cd) := by rw [hb3.cell (by simpa using hz2)]; exact p3
              have HB3 := Lib.hid (HB2.out.trans (hb3.mono (by omega)))
              have HB3r := Lib.hid (HB2r.out.trans (hb3.mono (by omega)))
              clear hb3 d0
              cases hvs : Np.validSet x.set with
              | false =>
                have HVS := Lib.hid hvs
                clear hvs
                go_wp2_with fail
                go_ret
                refine ⟨ret_bool ?_, HB3.out⟩
                rw [HF.out, HGX.out, HVS.out, Bool.and_false]; rfl
              | true =>
                have HVS := Lib.hid hvs
                have hstep : Np.goodSets a.data.toList none l = ((match prevSet l k with | none => true | some q => decide (Np.cmpSet q x.set < 0)) && Np.goodSets a.data.toList (prevSet l (k + 1)) (l.drop (k + 1))) := by
                  rw [HGX.out, ← HSN.out, HVN.out, HUN.out, hvs, prev_succ HX.out]; rfl
                have HST := Lib.hid hstep
                have hallv : ∀ j y, j < k + 1 → l[j]? = some y → Np.validSet y.set = true := fun j y hj hy => by
                  by_cases e : j = k
                  · subst e; rw [HX.out] at hy; cases hy; exact hvs
                  · exact HV.out j y (by omega) hy
                have HALL := Lib.hid hallv
                clear hvs hstep hallv
                by_cases hk0 : k = 0
                · subst hk0
                  go_wp2_with fail
                  go_roundw
                  case rel => exact ⟨1, by omega, by go_num, HBW.out.trans (HB3r.out.mono HBW.out.size), HALL, Lib.hid (by rw [HST.out]; rfl)⟩
                  case measure => simp [intOf] <;> omega
                · obtain ⟨i, rfl⟩ : ∃ i, k = i + 1 := ⟨k - 1, by omega⟩
                  have hgi := List.getElem?_eq_getElem (show i < l.length by omega)
                  obtain ⟨b', o', c'', sq, dq, sg, hA2, hbB', _, hsq, hsqz, hdq, _, f0, f1, f2, f3, _⟩ := signed_at ((HD.out.keep rsigned_kept HB3.out)) hgi
                  cases hA2
                  generalize hy : l[i] = y at *
                  clear hy
                  obtain ⟨Aq, cq, rfl, hcq, hlq⟩ := slr_form hdq
                  have HDQ := Lib.hid (hdq.more rdatum_more (show w.heap.size ≤ w3.heap.size by omega))
                  have HDX := Lib.hid ((HDV.out.keep rdatum_kept (HB3r.out.mono (by omega))).more rdatum_more (show w.heap.size ≤ w3.heap.size by omega))
                  have hnk : ((((i + 1 : Nat) : Int)) == 0) = false := by simp; omega
                  have hset2 : (⟨sq.data.toList, y.set.type, y.set.life, y.set.data⟩ : Np.DSet) = y.set := by rw [hsq]
                  have hcv : cmpSetVal ⟨sq.data.toList, y.set.type, y.set.life, y.set.data⟩ ⟨sn.data.toList, x.set.type, x.set.life, x.set.data⟩ = .tuple #[.int .i64 (Np.cmpSet y.set x.set), .int .i64 0] := by
                    rw [hset2, HSET.out, cmpSetVal, HVS.out, HV.out i y (by omega) hgi]; rfl
                  have hprev : prevSet l (i + 1) = some y.set := prev_succ hgi
                  have HCV := Lib.hid hcv
                  have HPV := Lib.hid hprev
                  have hRw := Lib.hid ((HR.out.keep HB3.out).more (show w.heap.size ≤ w3.heap.size by omega))
                  clear hset2 hcv hprev hdq hsq hgi
                  have hbw3 : b < w3.heap.size := by omega
                  have hgc : ∀ (g : Grow w3) (p : Addr), p.block < w3.heap.size → g.w.cell? p = w3.cell? p := fun g p h => g.cell p h
                  have hw1 : IntKind.i64.wrap (((i + 1 : Nat) : Int) - 1) = (i : Int) := by rw [IntWalk.i64_in _ (by omega)]; omega
                  have hi0 : (0 : Int) ≤ (i : Int) := by omega
                  have hi1 : (i : Int) < (l.length : Int) := by omega
                  have hcall : ∀ g : Grow w3, Calls Tryz.prog 28 #[.agg #[.string sq, .int .i64 y.set.type, .int .i64 y.set.life, .slice Aq y.set.data.length cq], .agg #[.string sn, .int .i64 x.set.type, .int .i64 x.set.life, .slice Ad x.set.data.length cd]] g.w fun e w' => e = .returned (.tuple #[.int .i64 (Np.cmpSet y.set x.set), .int .i64 0]) ∧ Below g.w.heap.size g.w w' := fun g => by
                    rw [← HCV.out]
                    exact recCompare_any sq sn hsqz hsz _ _ _ _ _ _ y.set.data x.set.data _ ((hRw.out.keep g.below).more g.size) (HDQ.out.later rdatum_kept rdatum_more g.below) (HDX.out.later rdatum_kept rdatum_more g.below)
                  have HCALL := Lib.hid hcall
                  clear hcall
                  by_cases hcm : Np.cmpSet y.set x.set < 0
                  · have HCM := Lib.hid (decide_eq_true hcm)
                    go_wp2_with fail
                    refine wp_region_grow (by kernel_rfl) (by kernel_rfl) ?_
                    repeat (go_big_quiet_step ((go_at_call 28; exact Calls.grow_of (HCALL.out _))))
                    refine wpQuiet_nil ?_
                    rintro _ ⟨g, rfl⟩
                    go_wp2_with fail
                    go_roundw
                    case rel =>
                      refine ⟨i + 1 + 1, by omega, by go_num, HBW.out.trans ((HB3r.out.trans (g.below.mono (by omega))).mono HBW.out.size), HALL, Lib.hid ?_⟩
                      rw [HST.out, HPV.out]
                      simp only [HCM.out, Bool.true_and]
                    case measure => simp [intOf] <;> omega
                  · have HCM := Lib.hid (decide_eq_false hcm)
                    go_wp2_with fail
                    refine wp_region_grow (by kernel_rfl) (by kernel_rfl) ?_
                    repeat (go_big_quiet_step ((go_at_call 28; exact Calls.grow_of (HCALL.out _))))
                    refine wpQuiet_nil ?_
                    rintro _ ⟨g, rfl⟩
                    go_wp2_with fail
                    go_ret
                    refine ⟨ret_bool ?_, HB3.out.trans (g.below.mono (by omega))⟩
                    rw [HF.out, HST.out, HPV.out]
                    simp only [HCM.out, Bool.false_and]
        · go_wp2_with fail
          go_ret
          refine ⟨ret_bool ?_, HB1.out.trans (hbw.mono (by omega))⟩
          rw [HF.out, HG.out, List.drop_eq_nil_of_le (by omega)]
          rfl
end Go.Proofs.YtnbolgdccdnjeaaGreatDoor
