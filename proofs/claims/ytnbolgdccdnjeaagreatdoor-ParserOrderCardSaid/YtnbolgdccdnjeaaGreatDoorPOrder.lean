/- ParserOrder: the walk. -/
import Derived.Test.YtnbolgdccdnjeaaGreatDoorPFile
import Derived.Test.YtnbolgdccdnjeaaGreatDoorHead04
namespace Go.Proofs.YtnbolgdccdnjeaaGreatDoor
open Go.RowKit
def OrdIn (kk n : Nat) (w5 : World) (f i : Value) (wr : World) : Prop := ∃ (j : Nat) (b : Bool), j ≤ n ∧ i = .int .i64 j ∧ f = .bool b ∧ (kk < j → b = true) ∧ Hid (Below w5.heap.size w5 wr)
theorem zoneF_plain {apex : List UInt8} {l : List Np.DSet} : ∀ z ∈ [Np.zoneF apex l], Plain0 z.sets := fun z hz x hx => by
  rw [List.mem_singleton] at hz
  subst hz
  obtain ⟨s, _, rfl⟩ := Np.zoneF_from hx
  rfl
set_option maxRecDepth 100000 in
set_option maxHeartbeats 8000000 in
theorem porder_walk (sa : ByteArray) (hsa : sa.size ≤ 140737488355328) (v : Value) (l : List Np.DSet) (data : Bool) (w : World) (hI : ParIn w) (hl : SlR RSet 4 w w.heap.size v l) :
    Calls Tryz.prog 9 #[.string sa, v, .bool data] w fun e w' => e = .returned (.bool true) ∧ Below w.heap.size w w' := by
  have HI := Lib.hid hI
  have HL := Lib.hid hl
  obtain ⟨A, c, rfl, hc, hlen⟩ := slr_form hl
  clear hI hl
  go_enter Tryz.func9, Tryz.ntmps9
  go_wp2_with fail
  refine (head04_any _ HI.out).mono ?_
  rintro e w0 ⟨rfl, hb0⟩
  have HB0 := Lib.hid hb0
  have HI0 := Lib.hid (HI.out.keep hb0)
  have HL0 := Lib.hid (HL.out.later rset_kept rset_more hb0)
  clear hb0 HI HL
  go_wp2_with fail
  refine (small_any sa hsa _ l _ HL0.out).mono ?_
  rintro e w1 ⟨⟨b, rfl, hsm⟩, hb1⟩
  have HB1 := Lib.hid (HB0.out.trans (hb1.mono HB0.out.size))
  have HI1 := Lib.hid (HI0.out.keep hb1)
  have HL1 := Lib.hid (HL0.out.later rset_kept rset_more hb1)
  clear hb1 HI0 HL0 HB0
  cases b with
  | false =>
    clear hsm
    go_wp2_with fail
    go_ret
    exact ⟨rfl, HB1.out⟩
  | true =>
  have HSM := Lib.hid (hsm rfl)
  clear hsm
  have hal : sa.data.toList.length ≤ 1000 := by have := (Np.name_form HSM.out.name).1; omega
  have hgv : ∀ x ∈ l, Np.validSet x = true ∧ x.type ≤ 7 := fun x hx => ⟨(HSM.out.good x hx).2.1, Np.goodW_parts (HSM.out.good x hx)⟩
  have HGV := Lib.hid hgv
  have hf1 := fileF_any sa.data.toList hal (.slice A l.length c) l false false HSM.out.few hgv w1 HL1.out
  rw [← str_eta] at hf1
  have HF1 := Lib.hid hf1
  clear hf1 hgv
  go_wp2_with fail
  refine HF1.out.mono ?_
  rintro e w2 ⟨rfl, hb2⟩
  have HB2 := Lib.hid (HB1.out.trans (hb2.mono HB1.out.size))
  have HI2 := Lib.hid (HI1.out.keep hb2)
  have HL2 := Lib.hid (HL1.out.later rset_kept rset_more hb2)
  clear hb2 HI1 HL1 HB1 HF1
  have hf2 := fileF_any sa.data.toList hal (.slice A l.length c) l true data HSM.out.few HGV.out w2 HL2.out
  rw [← str_eta] at hf2
  have HF2 := Lib.hid hf2
  have hp1 := fun h8 => Np.file_parse HSM.out false false h8
  have hp2 := fun h8 => Np.file_parse HSM.out true data h8
  have hq := Np.fileF_len sa.data.toList l true data
  generalize Np.fileF sa.data.toList l false false = f1 at *
  generalize Np.fileF sa.data.toList l true data = f2 at *
  have HP1 := Lib.hid hp1
  have HP2 := Lib.hid hp2
  have HQ := Lib.hid hq
  clear hf2 hp1 hp2 hq
  go_wp2_with fail
  refine HF2.out.mono ?_
  rintro e w3 ⟨rfl, hb3⟩
  have HB3 := Lib.hid (HB2.out.trans (hb3.mono HB2.out.size))
  have HI3 := Lib.hid (HI2.out.keep hb3)
  have HL3 := Lib.hid (HL2.out.later rset_kept rset_more hb3)
  clear hb3 HI2 HL2 HB2 HF2
  by_cases h8 : 8000 < f1.length
  · have h8I : (8000 : Int) < (f1.length : Int) := by omega
    go_wp2_with fail
    go_ret
    exact ⟨rfl, HB3.out⟩
  have h8I : ¬ (8000 : Int) < (f1.length : Int) := by omega
  have hpa := HI3.out.parse ⟨f1.toArray⟩ (by rw [← size_list]; simp; omega) (x := ([Np.zoneF sa.data.toList l], [])) (HP1.out (by omega))
  have HPA := Lib.hid hpa
  clear hpa
  go_wp2_with fail
  refine HPA.out.mono ?_
  rintro e w4 ⟨zv1, dv1, rfl, hz1, hd1, hb4⟩
  dsimp only at hz1 hd1
  have HI4 := Lib.hid (HI3.out.keep hb4)
  have HL4 := Lib.hid (HL3.out.later rset_kept rset_more hb4)
  have HB4 := Lib.hid (HB3.out.trans (hb4.mono HB3.out.size))
  have HZ1 := Lib.hid hz1
  obtain ⟨Az, cz, rfl, -, -⟩ := slr_form hz1
  obtain ⟨Ad, cd, rfl, -, -⟩ := slr_form hd1
  have hpb := HI4.out.parse ⟨f2.toArray⟩ (by rw [← size_list]; have := HQ.out; simp; omega) (x := ([Np.zoneF sa.data.toList l], [])) (HP2.out (by omega))
  have HPB := Lib.hid hpb
  clear hz1 hd1 hb4 hpb HPA HI3 HL3 HB3 HP1 HP2
  simp only [List.length_cons, List.length_nil]
  go_wp2_with fail
  refine HPB.out.mono ?_
  rintro e w5 ⟨zv2, dv2, rfl, hz2, hd2, hb5⟩
  dsimp only at hz2 hd2
  have HL5 := Lib.hid (HL4.out.later rset_kept rset_more hb5)
  have HB5 := Lib.hid (HB4.out.trans (hb5.mono HB4.out.size))
  have HZ2 := Lib.hid hz2
  have HZ1' := Lib.hid (HZ1.out.later rzone_kept rzone_more hb5)
  obtain ⟨Az2, cz2, rfl, -, -⟩ := slr_form hz2
  obtain ⟨Ad2, cd2, rfl, -, -⟩ := slr_form hd2
  clear hz2 hd2 hb5 HPB HI4 HL4 HB4 HZ1
  simp only [List.length_cons, List.length_nil]
  go_wp2_with fail
  refine (sameZones_yes _ _ [Np.zoneF sa.data.toList l] _ zoneF_plain HZ1'.out HZ2.out).mono ?_
  rintro e w6 ⟨rfl, hb6⟩
  obtain ⟨b, o, c', sn, sv, hA, hbb, hcap, hsn, hsz, hsv, a0, a1⟩ := zone_at (HZ1'.out.later rzone_kept rzone_more hb6) (k := 0) (x := Np.zoneF sa.data.toList l) rfl
  cases hA
  have hss : sn = sa := str_ext hsn
  subst hss
  have HL6 := Lib.hid (HL5.out.later rset_kept rset_more hb6)
  have HB6 := Lib.hid (HB5.out.trans (hb6.mono HB5.out.size))
  have HMEM := Lib.hid (fun x (hx : x ∈ l) => Np.zoneF_mem (apex := sn.data.toList) hx)
  have hsl := Np.zoneF_len (apex := sn.data.toList) (l := l)
  generalize (Np.zoneF sn.data.toList l).sets = S at *
  have HSV := Lib.hid hsv
  obtain ⟨Sv, cs, rfl, hcs, hls⟩ := slr_form hsv
  simp only [Nat.zero_mul, Nat.add_zero] at a0 a1
  have hneB : (sn.toList != sn.toList) = false := by simp
  have hlnB : ((S.length : Int) != (l.length : Int)) = false := by rw [hsl]; simp
  have HBB := Lib.hid (And.intro hbb (And.intro a0 a1))
  clear hb6 hsn hsv HZ1' HZ2 HL5 HB5
  go_wp2_with fail
  clear a0 a1
  go_loopw [85] (fun i wr => ∃ k : Nat, k ≤ l.length ∧ i = .int .i64 k ∧ Hid (Below w6.heap.size w6 wr)) (fun i _ => l.length - (intOf i).toNat)
  case atStart => exact ⟨0, Nat.zero_le _, rfl, Lib.hid (Below.refl _ _)⟩
  case round =>
    obtain ⟨k, hk, rfl, HBk⟩ := hrel
    by_cases hlt : k < l.length
    case neg =>
      have HB' := Lib.hid (HB6.out.trans (HBk.out.mono HB6.out.size))
      go_wp2_with fail
      go_ret
      exact ⟨rfl, HB'.out⟩
    case pos =>
      obtain ⟨q, o1, c1, ss, dv, hA, hqb, _, hss, hszs, hdv, e0, e1, e2, e3⟩ := set_at (HL6.out.later rset_kept rset_more HBk.out) (List.getElem?_eq_getElem hlt)
      cases hA
      obtain ⟨kk, hkk, hkx⟩ := HMEM.out _ (List.getElem_mem hlt)
      have a0 := (HBk.out.cell (p := ⟨b, o, none⟩) HBB.out.1).trans HBB.out.2.1
      have a1 := (HBk.out.cell (p := ⟨b, o + 1, none⟩) HBB.out.1).trans HBB.out.2.2
      have hbr : b < wr.heap.size := Nat.lt_of_lt_of_le HBB.out.1 HBk.out.size
      have hkI : (k : Int) < (l.length : Int) := by omega
      have hk0 : (0 : Int) ≤ (k : Int) := by omega
      generalize l[k] = x at *
      have HDV := Lib.hid hdv
      have HSS := Lib.hid hss
      have HKX := Lib.hid hkx
      obtain ⟨Dx, ex, rfl, -, -⟩ := slr_form hdv
      clear hdv hss hkx
      go_wp2_with fail
      obtain ⟨wz, hwz⟩ : ∃ wz, wz = wr.alloc (.cells #[.string ss, .int .i64 x.type, .int .i64 x.life, .slice Dx x.data.length ex] 39) := ⟨_, rfl⟩
      have hbz : Below wr.heap.size wr wz := by rw [hwz]; exact (Below.refl _ _).alloc (Nat.le_refl _) _
      have s0 : wz.cell? ⟨wr.heap.size, 0, none⟩ = some (.string ss) := by rw [hwz, World.cell?_alloc_new]; rfl
      have s1 : wz.cell? ⟨wr.heap.size, 1, none⟩ = some (.int .i64 x.type) := by rw [hwz, World.cell?_alloc_new]; rfl
      have s2 : wz.cell? ⟨wr.heap.size, 2, none⟩ = some (.int .i64 x.life) := by rw [hwz, World.cell?_alloc_new]; rfl
      have s3 : wz.cell? ⟨wr.heap.size, 3, none⟩ = some (.slice Dx x.data.length ex) := by rw [hwz, World.cell?_alloc_new]; rfl
      have hzz : wr.heap.size < wz.heap.size := by rw [hwz]; simp
      rw [← hwz]
      have HBz := Lib.hid (HBk.out.trans (hbz.mono HBk.out.size))
      have HDz := Lib.hid (HDV.out.later rdatum_kept rdatum_more hbz)
      have HSz := Lib.hid (HSV.out.later rsigned_kept rsigned_more HBz.out)
      have HC := Lib.hid (And.intro s0 (And.intro s1 (And.intro s2 (And.intro s3 hzz))))
      clear hwz hbz s0 s1 s2 s3 hzz a0 a1 e0 e1 e2 e3 HDV HBk hqb hbr
      generalize wr.heap.size = bs at *
      go_loopw [16, 94] (fun f i wr => OrdIn kk S.length wz f i wr) (fun _ i _ => S.length - (intOf i).toNat)
      case atStart => exact ⟨0, false, Nat.zero_le _, rfl, rfl, fun h => by omega, Lib.hid (Below.refl _ _)⟩
      case round =>
        obtain ⟨j, found, hj, rfl, rfl, hbk, HBj⟩ := hrel
        have u0 := (HBj.out.cell (p := ⟨bs, 0, none⟩) HC.out.2.2.2.2).trans HC.out.1
        have u1 := (HBj.out.cell (p := ⟨bs, 1, none⟩) HC.out.2.2.2.2).trans HC.out.2.1
        have u2 := (HBj.out.cell (p := ⟨bs, 2, none⟩) HC.out.2.2.2.2).trans HC.out.2.2.1
        have u3 := (HBj.out.cell (p := ⟨bs, 3, none⟩) HC.out.2.2.2.2).trans HC.out.2.2.2.1
        have hzj : bs < wr.heap.size := Nat.lt_of_lt_of_le HC.out.2.2.2.2 HBj.out.size
        by_cases hjl : j < S.length
        case neg =>
          obtain rfl : found = true := hbk (by omega)
          have HB' := Lib.hid (HBz.out.trans (HBj.out.mono HBz.out.size))
          clear u0 u1 u2 u3
          go_wp2_with fail
          go_roundw
          case rel => exact ⟨k + 1, by omega, by go_num, HB'⟩
          case measure => simp [intOf] <;> omega
        case pos =>
          obtain ⟨q', o2, c2, sy, dy, gy, hA, hqb', _, hsy, hszy, hdy, hgy, f0, f1, f2, f3, f4⟩ := signed_at (HSz.out.later rsigned_kept rsigned_more HBj.out) (List.getElem?_eq_getElem hjl)
          cases hA
          have hjI : (j : Int) < (S.length : Int) := by omega
          have hj0 : (0 : Int) ≤ (j : Int) := by omega
          obtain ⟨y, hy⟩ : ∃ y, y = S[j] := ⟨_, rfl⟩
          rw [← hy] at hsy hdy hgy f1 f2
          have hyx : kk = j → y = Np.sg x := fun e => by
            subst e
            have := HKX.out
            rw [List.getElem?_eq_getElem hjl, ← hy] at this
            exact Option.some.inj this
          have HYX := Lib.hid hyx
          have HSY := Lib.hid hsy
          have HDY := Lib.hid hdy
          obtain ⟨Ay, cy, rfl, -, -⟩ := slr_form hdy
          obtain ⟨Gy, gc, rfl, -, -⟩ := slr_form hgy
          clear hy hyx hsy hdy hgy
          cases found with
          | true =>
            go_wp2_with fail
            go_roundw
            case rel => exact ⟨j + 1, true, by omega, by go_num, rfl, fun _ => rfl, Lib.hid (HBj.out.alloc HBj.out.size _)⟩
            case measure => simp [intOf] <;> omega
          | false =>
            go_wp2_with fail
            have hby := (Below.refl wr.heap.size wr).alloc (Nat.le_refl _) (.cells #[.string sy, .int .i64 y.set.type, .int .i64 y.set.life, .slice Ay y.set.data.length cy, .slice Gy y.sigs.length gc] 41)
            refine (sameSet_any ss sy x.type x.life y.set.type y.set.life _ _ x.data y.set.data _ ((HDz.out.later rdatum_kept rdatum_more HBj.out).later rdatum_kept rdatum_more hby) (HDY.out.later rdatum_kept rdatum_more hby)).mono ?_
            have HR := Lib.hid (show kk = j → decide (ss = sy ∧ x.type = y.set.type ∧ x.life = y.set.life ∧ x.data = y.set.data) = true from fun e => by
              have h1 := HYX.out e
              have h2 : sy = ss := str_ext (by rw [HSY.out, HSS.out, h1]; rfl)
              rw [h1, h2]
              simp [Np.sg])
            generalize decide (ss = sy ∧ x.type = y.set.type ∧ x.life = y.set.life ∧ x.data = y.set.data) = r at *
            rintro e w7 ⟨rfl, hb7⟩
            have HB7 := Lib.hid (HBj.out.trans ((hby.trans (hb7.mono hby.size)).mono HBj.out.size))
            clear hby hb7
            have hlow : ¬ kk < j := fun h => by have := hbk h; cases this
            have HNX := Lib.hid (show kk < j + 1 → r = true from fun h => HR.out (by omega))
            clear hbk
            go_wp2_with fail
            go_roundw
            case rel => exact ⟨j + 1, r, by omega, by go_num, rfl, HNX.out, HB7⟩
            case measure => simp [intOf] <;> omega
end Go.Proofs.YtnbolgdccdnjeaaGreatDoor
