/- Contracts of the reference of layer 2: which sets are valid; the order of sets. -/
import Derived.Test.YtnbolgdccdnjeaaGreatDoorRf4
import Derived.Deep.DeepCutAuto
namespace Go.Proofs.YtnbolgdccdnjeaaGreatDoor
open Go.RowKit
theorem rule_single (k : Nat) (h1 : 1 ≤ k) (h8 : k ≤ 8) : (Np.ruleOf k).single = (decide ((k : Int) = 3) || decide ((k : Int) = 4)) := by
  have hk : k = 1 ∨ k = 2 ∨ k = 3 ∨ k = 4 ∨ k = 5 ∨ k = 6 ∨ k = 7 ∨ k = 8 := by omega
  rcases hk with rfl | rfl | rfl | rfl | rfl | rfl | rfl | rfl <;> rfl
theorem rule_wild (k : Nat) (h1 : 1 ≤ k) (h8 : k ≤ 8) : (Np.ruleOf k).wild = (decide ((k : Int) = 1) || decide ((k : Int) = 5) || decide ((k : Int) = 8)) := by
  have hk : k = 1 ∨ k = 2 ∨ k = 3 ∨ k = 4 ∨ k = 5 ∨ k = 6 ∨ k = 7 ∨ k = 8 := by omega
  rcases hk with rfl | rfl | rfl | rfl | rfl | rfl | rfl | rfl <;> rfl
theorem refDatum_bool (k : Nat) (h1 : 1 ≤ k) (h8 : k ≤ 8) (s : ByteArray) (hs : s.size ≤ 140737488355328) (n m : Int) (w : World) (t : Bool) (ht : Np.validDatum (Np.ruleOf k) ⟨s.data.toList, n, m⟩ = t) :
    Calls Tryz.prog 50 #[.int .i64 k, .agg #[.string s, .int .i64 n, .int .i64 m]] w fun e w' => e = .returned (.bool t) ∧ Below w.heap.size w w' := by
  subst ht
  exact refDatum_any k h1 h8 s hs n m w
theorem refLess_bool (s t : ByteArray) (n1 m1 n2 m2 : Int) (w : World) (r : Bool) (hr : decide (Np.cmpD ⟨s.data.toList, n1, m1⟩ ⟨t.data.toList, n2, m2⟩ < 0) = r) :
    Calls Tryz.prog 51 #[.agg #[.string s, .int .i64 n1, .int .i64 m1], .agg #[.string t, .int .i64 n2, .int .i64 m2]] w fun e w' => e = .returned (.bool r) ∧ Below w.heap.size w w' := by
  subst hr
  exact refLess_any s t n1 m1 n2 m2 w
def RefValidRel (w1 : World) (r : Np.Rule) (ds : List Np.Datum) (i : Value) (wr : World) : Prop :=
  ∃ j : Nat, j ≤ ds.length ∧ i = .int .i64 j ∧ Below w1.heap.size w1 wr ∧ Np.goodData r none ds = Np.goodData r (ds.take j).getLast? (ds.drop j)
def refHd1 (s : List UInt8) (ty life : Int) (n : Nat) : Bool := Np.validName s && (decide (1 ≤ ty) && decide (ty ≤ 8)) && (decide (0 ≤ life) && decide (life ≤ 100000)) && (decide ((1 : Int) ≤ n) && decide ((n : Int) ≤ 8)) && !((decide (ty = 3) || decide (ty = 4)) && decide ((1 : Int) < n))
def RefHead (w : World) (s : ByteArray) (ty life : Int) (sl : Value) (wx : World) : Prop :=
  Below w.heap.size w wx ∧ w.heap.size < wx.heap.size ∧ wx.cell? ⟨w.heap.size, 0, none⟩ = some (.string s) ∧ wx.cell? ⟨w.heap.size, 1, none⟩ = some (.int .i64 ty) ∧ wx.cell? ⟨w.heap.size, 2, none⟩ = some (.int .i64 life) ∧ wx.cell? ⟨w.heap.size, 3, none⟩ = some sl
set_option maxRecDepth 100000 in
set_option maxHeartbeats 4000000 in
theorem refSetValid_any (s : ByteArray) (hs : s.size ≤ 140737488355328) (ty life : Int) (v : Value) (ds : List Np.Datum) (w : World) (hd : SlR RDatum 3 w w.heap.size v ds) :
    Calls Tryz.prog 19 #[.agg #[.string s, .int .i64 ty, .int .i64 life, v]] w
      fun e w' => e = .returned (.bool (Np.validSet ⟨s.data.toList, ty, life, ds⟩)) ∧ Below w.heap.size w w' := by
  have HD := Lib.hid hd
  obtain ⟨A, c, rfl, hc1, hl1, he1⟩ := hd
  clear he1
  have hno : ¬ (Np.validName s.data.toList = true ∧ (1 ≤ ty ∧ ty ≤ 8) ∧ (0 ≤ life ∧ life ≤ 100000) ∧ (1 ≤ ds.length ∧ ds.length ≤ 8) ∧ ((ty = 3 ∨ ty = 4) → ds.length ≤ 1) ∧ (Np.isWild s.data.toList = true → ty = 1 ∨ ty = 5 ∨ ty = 8)) → Np.validSet ⟨s.data.toList, ty, life, ds⟩ = false := fun hin => by
    cases hq : Np.validSet ⟨s.data.toList, ty, life, ds⟩ with
    | false => rfl
    | true =>
      exfalso
      unfold Np.validSet at hq
      simp only [Bool.and_eq_true, decide_eq_true_eq, Bool.not_eq_true'] at hq
      obtain ⟨⟨⟨⟨⟨⟨h1, h2⟩, h3⟩, h4⟩, h5⟩, h6⟩, _⟩ := hq
      obtain ⟨k, rfl⟩ := Int.eq_ofNat_of_zero_le (by omega : 0 ≤ ty)
      rw [rule_single k (by omega) (by omega)] at h5
      rw [rule_wild k (by omega) (by omega)] at h6
      refine hin ⟨h1, h2, h3, h4, fun ht => ?_, fun hw => ?_⟩
      · simp at h5; omega
      · rw [hw] at h6; simp at h6; omega
  have HNO := Lib.hid hno
  clear hno
  go_enter Tryz.func19, Tryz.ntmps19
  go_upto_region 2 with fail
  go_cut [37] (fun t wx => RefHead w s ty life (.slice A ds.length c) wx ∧ t = .bool (!refHd1 s.data.toList ty life ds.length))
  case first =>
    go_wp2_with fail
    refine (refValid_any _ hs _).mono ?_
    rintro e w1 ⟨rfl, hb⟩
    have hb0 : Below w.heap.size w w1 := ((Below.refl _ w).alloc (Nat.le_refl _) _).trans (hb.mono (by simp))
    have hlt1 : w.heap.size < w1.heap.size := by have := hb.size; simp at this; omega
    have c0 : w1.cell? ⟨w.heap.size, 0, none⟩ = some (.string s) := by rw [hb.cell (by simp)]; go_simp
    have c1 : w1.cell? ⟨w.heap.size, 1, none⟩ = some (.int .i64 ty) := by rw [hb.cell (by simp)]; go_simp
    have c2 : w1.cell? ⟨w.heap.size, 2, none⟩ = some (.int .i64 life) := by rw [hb.cell (by simp)]; go_simp
    have c3 : w1.cell? ⟨w.heap.size, 3, none⟩ = some (.slice A ds.length c) := by rw [hb.cell (by simp)]; go_simp
    have HH := Lib.hid (show RefHead w s ty life (.slice A ds.length c) w1 from ⟨hb0, hlt1, c0, c1, c2, c3⟩)
    clear hb hb0
    go_wp2_with (first
      | (go_at_call 48; refine (refWithin_any _ _ _ _).mono ?_; rintro e w' ⟨rfl, rfl⟩)
      | (go_at_call 49; refine (refSingle_any _ _).mono ?_; rintro e w' ⟨rfl, rfl⟩))
    all_goals
      go_meet
      case rel =>
        refine ⟨HH.out, ?_⟩
        clear HH HNO HD
        go_light
        first
          | (simp_all [refHd1]; done)
          | (simp_all [refHd1]; omega)
          | (congr 1; rw [Bool.eq_iff_iff]; simp_all [refHd1] <;> omega)
  case rest =>
    obtain ⟨⟨hb0, hlt0, c0, c1, c2, c3⟩, rfl⟩ := hcut
    have HB0 := Lib.hid hb0
    clear hb0
    cases hq : refHd1 s.data.toList ty life ds.length with
    | false =>
      have HQ := Lib.hid hq
      clear hq
      go_wp2_with fail
      go_ret
      refine ⟨ret_bool (HNO.out fun ⟨a1, a2, a3, a4, a5, _⟩ => ?_).symm, HB0.out⟩
      have := HQ.out
      simp [refHd1, a1, a2, a3] at this
      omega
    | true =>
      have HQ := Lib.hid hq
      clear hq
      go_upto_region 4 with fail
      go_cut [55] (fun t wy => wy = wc ∧ t = .bool (Np.isWild s.data.toList && (decide (ty ≠ 1) && (decide (ty ≠ 5) && decide (ty ≠ 8)))))
      case first =>
        go_wp2_with (go_at_call 45; refine (refWild_any _ hs _).mono ?_; rintro e w' ⟨rfl, rfl⟩)
        all_goals
          go_meet
          case rel =>
            refine ⟨rfl, ?_⟩
            clear HNO HD HQ
            go_light
            first
              | (simp_all; done)
              | (simp_all; omega)
              | (congr 1; rw [Bool.eq_iff_iff]; simp_all; done)
              | (congr 1; rw [Bool.eq_iff_iff]; simp_all; omega)
      case rest =>
        obtain ⟨rfl, rfl⟩ := hcut
        cases hq2 : (Np.isWild s.data.toList && (decide (ty ≠ 1) && (decide (ty ≠ 5) && decide (ty ≠ 8)))) with
        | true =>
          have HQ2 := Lib.hid hq2
          clear hq2
          go_wp2_with fail
          go_ret
          refine ⟨ret_bool (HNO.out fun ⟨_, _, _, _, _, a6⟩ => ?_).symm, HB0.out⟩
          have := HQ2.out
          simp at this
          have := a6 this.1
          omega
        | false =>
          have hin : Np.validName s.data.toList = true ∧ (1 ≤ ty ∧ ty ≤ 8) ∧ (0 ≤ life ∧ life ≤ 100000) ∧ (1 ≤ ds.length ∧ ds.length ≤ 8) ∧ ((ty = 3 ∨ ty = 4) → ds.length ≤ 1) ∧ (Np.isWild s.data.toList = true → ty = 1 ∨ ty = 5 ∨ ty = 8) := by
            have h := HQ.out
            simp [refHd1] at h
            obtain ⟨⟨⟨⟨h1, h2⟩, h3⟩, h4⟩, h5⟩ := h
            refine ⟨h1, h2, h3, by omega, by omega, fun hw => ?_⟩
            rw [hw] at hq2
            simp at hq2
            omega
          obtain ⟨i1, ⟨i2, i3⟩, ⟨i4, i5⟩, ⟨i6, i7⟩, i8, i9⟩ := hin
          obtain ⟨k, rfl⟩ := Int.eq_ofNat_of_zero_le (by omega : 0 ≤ ty)
          have hv : Np.validSet ⟨s.data.toList, k, life, ds⟩ = Np.goodData (Np.ruleOf k) none ds := by
            unfold Np.validSet
            simp only [rule_single k (by omega) (by omega), rule_wild k (by omega) (by omega), i1, decide_eq_true i2, decide_eq_true i3, decide_eq_true i4, decide_eq_true i5, decide_eq_true i6, decide_eq_true i7, Bool.true_and]
            have e1 : ((decide ((k : Int) = 3) || decide ((k : Int) = 4)) && decide (ds.length ≠ 1)) = false := by
              rw [Bool.eq_false_iff]; simp; omega
            have e2 : (Np.isWild s.data.toList && !(decide ((k : Int) = 1) || decide ((k : Int) = 5) || decide ((k : Int) = 8))) = false := by
              cases hw : Np.isWild s.data.toList with
              | false => rfl
              | true => have := i9 hw; simp; omega
            rw [e1, e2]; rfl
          have HV := Lib.hid hv
          have hbw1 : 1 ≤ k := by omega
          have hbw8 : k ≤ 8 := by omega
          clear hv i8 i9 hq2 i1 c0 c2 HNO HQ
          go_wp2_with fail
          go_loopw [4] (fun i wr => RefValidRel wc (Np.ruleOf k) ds i wr) (fun i _ => ds.length - (intOf i).toNat)
          case atStart => exact ⟨0, Nat.zero_le _, rfl, Below.refl _ _, rfl⟩
          case round =>
            obtain ⟨j, hj, rfl, hbw, hg⟩ := hrel
            have HG := Lib.hid hg
            clear hg
            by_cases hlt : j < ds.length
            · have hwz := hbw.size
              have hbw0 : Below w.heap.size w wr := HB0.out.trans (hbw.mono (by omega))
              have hw0 : w.heap.size < wr.heap.size := by omega
              have d1 : wr.cell? ⟨w.heap.size, 1, none⟩ = some (.int .i64 k) := by rw [hbw.cell (by simpa using hlt0)]; exact c1
              have d3 : wr.cell? ⟨w.heap.size, 3, none⟩ = some (.slice A ds.length c) := by rw [hbw.cell (by simpa using hlt0)]; exact c3
              obtain ⟨A', c', hA', _, _, hel⟩ := HD.out.keep rdatum_kept hbw0
              cases hA'
              obtain ⟨b, o, e, rfl, hbB, _, hce, sd, hsd, hsds, rfl⟩ := hel j _ (List.getElem?_eq_getElem hlt)
              have e0 : wr.cell? ⟨b, o + j * 3, none⟩ = some (.string sd) := hce 0 _ rfl
              have e1 : wr.cell? ⟨b, o + j * 3 + 1, none⟩ = some (.int .i64 ds[j].n) := hce 1 _ rfl
              have e2 : wr.cell? ⟨b, o + j * 3 + 2, none⟩ = some (.int .i64 ds[j].m) := hce 2 _ rfl
              have hbr : b < wr.heap.size := by omega
              have hgc : ∀ (g : Grow wr) (p : Addr), p.block < wr.heap.size → g.w.cell? p = wr.cell? p := fun g p h => g.cell p h
              have HBW := Lib.hid hbw
              have HBW0 := Lib.hid hbw0
              have HEL := Lib.hid hel
              have HSD := Lib.hid hsd
              have hdj : (⟨sd.data.toList, ds[j].n, ds[j].m⟩ : Np.Datum) = ds[j] := by rw [HSD.out]
              have HDJ := Lib.hid hdj
              clear hce hbw hbw0 hel hsd c1 c3 hdj hwz
              by_cases hvd : Np.validDatum (Np.ruleOf k) ⟨sd.data.toList, ds[j].n, ds[j].m⟩ = true
              · have HVD := Lib.hid hvd
                clear hvd
                by_cases hj0 : j = 0
                · subst hj0
                  simp only [Nat.zero_mul, Nat.add_zero] at e0 e1 e2
                  go_wp2_with fail
                  refine wp_region_grow (by kernel_rfl) (by kernel_rfl) ?_
                  repeat (go_big_quiet_step ((go_at_call 50; exact Calls.grow_of (refDatum_bool _ hbw1 hbw8 _ hsds _ _ _ true HVD.out))))
                  refine wpQuiet_nil ?_
                  rintro _ ⟨g, rfl⟩
                  go_wp2_with fail
                  go_roundw
                  case rel =>
                    go_light
                    have h1 := Np.goodData_first (r := Np.ruleOf k) (List.getElem?_eq_getElem hlt) (by rw [← HDJ.out]; exact HVD.out)
                    exact ⟨1, hlt, by go_num, HBW.out.trans (g.below.mono HBW.out.size), by rw [← h1]; exact HG.out⟩
                  case measure => simp [intOf] <;> omega
                · obtain ⟨i, rfl⟩ : ∃ i, j = i + 1 := ⟨j - 1, by omega⟩
                  obtain ⟨b', o', e', hA2, hbB', _, hce', sq, hsq, hsqs, rfl⟩ := HEL.out i _ (List.getElem?_eq_getElem (by omega))
                  cases hA2
                  have f0 : wr.cell? ⟨b, o + i * 3, none⟩ = some (.string sq) := hce' 0 _ rfl
                  have f1 : wr.cell? ⟨b, o + i * 3 + 1, none⟩ = some (.int .i64 (ds[i]'(by omega)).n) := hce' 1 _ rfl
                  have f2 : wr.cell? ⟨b, o + i * 3 + 2, none⟩ = some (.int .i64 (ds[i]'(by omega)).m) := hce' 2 _ rfl
                  have hdi : (⟨sq.data.toList, (ds[i]'(by omega)).n, (ds[i]'(by omega)).m⟩ : Np.Datum) = ds[i]'(by omega) := by rw [hsq]
                  have HDI := Lib.hid hdi
                  clear hce' hsq hdi
                  have hi0 : (0 : Int) < ((i + 1 : Nat) : Int) := by omega
                  have h1 := Np.goodData_next (r := Np.ruleOf k) (List.getElem?_eq_getElem (by omega : i < ds.length)) (List.getElem?_eq_getElem hlt) (by rw [← HDJ.out]; exact HVD.out)
                  rw [← HDJ.out, ← HDI.out] at h1
                  have H1 := Lib.hid h1
                  clear h1
                  by_cases hcm : Np.cmpD ⟨sq.data.toList, (ds[i]'(by omega)).n, (ds[i]'(by omega)).m⟩ ⟨sd.data.toList, ds[i + 1].n, ds[i + 1].m⟩ < 0
                  · have HCM := Lib.hid hcm
                    have HCD := Lib.hid (decide_eq_true hcm)
                    clear hcm
                    go_wp2_with fail
                    refine wp_region_grow (by kernel_rfl) (by kernel_rfl) ?_
                    repeat (go_big_quiet_step (first
                      | (go_at_call 50; exact Calls.grow_of (refDatum_bool _ hbw1 hbw8 _ hsds _ _ _ true HVD.out))
                      | (go_at_call 51; exact Calls.grow_of (refLess_bool _ _ _ _ _ _ _ true HCD.out))))
                    refine wpQuiet_nil ?_
                    rintro _ ⟨g, rfl⟩
                    go_wp2_with fail
                    go_roundw
                    case rel =>
                      go_light
                      exact ⟨i + 1 + 1, hlt, by go_num, HBW.out.trans (g.below.mono HBW.out.size), by rw [HG.out, H1.out, if_pos HCM.out]⟩
                    case measure => simp [intOf] <;> omega
                  · have HCM := Lib.hid hcm
                    have HCD := Lib.hid (decide_eq_false hcm)
                    clear hcm
                    go_wp2_with fail
                    refine wp_region_grow (by kernel_rfl) (by kernel_rfl) ?_
                    repeat (go_big_quiet_step (first
                      | (go_at_call 50; exact Calls.grow_of (refDatum_bool _ hbw1 hbw8 _ hsds _ _ _ true HVD.out))
                      | (go_at_call 51; exact Calls.grow_of (refLess_bool _ _ _ _ _ _ _ false HCD.out))))
                    refine wpQuiet_nil ?_
                    rintro _ ⟨g, rfl⟩
                    go_wp2_with fail
                    go_ret
                    refine ⟨ret_bool ?_, HBW0.out.trans (g.below.mono (by omega))⟩
                    rw [HV.out, HG.out, H1.out, if_neg (by have := HCM.out; omega)]
              · have hvd' : Np.validDatum (Np.ruleOf k) ⟨sd.data.toList, ds[j].n, ds[j].m⟩ = false := by simpa using hvd
                have HVD := Lib.hid hvd'
                clear hvd hvd'
                go_wp2_with fail
                refine wp_region_grow (by kernel_rfl) (by kernel_rfl) ?_
                repeat (go_big_quiet_step ((go_at_call 50; exact Calls.grow_of (refDatum_bool _ hbw1 hbw8 _ hsds _ _ _ false HVD.out))))
                refine wpQuiet_nil ?_
                rintro _ ⟨g, rfl⟩
                go_wp2_with fail
                go_ret
                refine ⟨ret_bool ?_, HBW0.out.trans (g.below.mono (by omega))⟩
                rw [HV.out, HG.out, Np.goodData_bad (List.getElem?_eq_getElem hlt) (by rw [← HDJ.out]; exact HVD.out)]
            · go_wp2_with fail
              go_ret
              refine ⟨ret_bool ?_, HB0.out.trans (hbw.mono (by omega))⟩
              rw [HV.out, HG.out, List.drop_eq_nil_of_le (by omega)]
              rfl
end Go.Proofs.YtnbolgdccdnjeaaGreatDoor
