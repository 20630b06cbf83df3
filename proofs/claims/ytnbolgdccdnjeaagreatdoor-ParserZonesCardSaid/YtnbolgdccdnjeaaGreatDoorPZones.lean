/- ParserZones: the walk. -/
import Derived.Test.YtnbolgdccdnjeaaGreatDoorHead04
import Derived.Deep.DeepCutAuto
namespace Go.Proofs.YtnbolgdccdnjeaaGreatDoor
open Go.RowKit
theorem ordR_neg : ∀ x y : List (List UInt8), Np.ordR x y < 0 → Np.ordR x y = -1
  | [], [], h => by simp [Np.ordR] at h
  | [], _ :: _, _ => rfl
  | _ :: _, [], h => by simp [Np.ordR] at h
  | x :: xs, y :: ys, h => by
    unfold Np.ordR at h ⊢
    split at h
    · rename_i hne
      rw [if_pos hne]
      unfold Np.cmpS at h ⊢
      split at h
      · rename_i hb; rw [if_pos hb]
      · split at h <;> simp at h
    · rename_i hne
      rw [if_neg hne]
      exact ordR_neg xs ys h
theorem cmpSet_neg {a b : Np.DSet} (h : Np.cmpSet a b < 0) : Np.cmpSet a b = -1 := by
  rw [Np.cmpSet_ref] at h ⊢
  split at h
  · rename_i hne
    rw [if_pos hne]
    rw [Np.cmpName_ref] at h ⊢
    exact ordR_neg _ _ h
  · rename_i hne
    rw [if_neg hne]
    unfold Np.cmpI at h ⊢
    split at h
    · rename_i hlt; rw [if_pos hlt]
    · split at h <;> simp at h
/-- What is known of a zone that was read. -/
structure ZoneOk (z : Np.Zone) : Prop where
  valid : Np.validName z.apex = true
  wild : Np.isWild z.apex = false
  sets : ∀ x ∈ z.sets, Np.validSet x.set = true ∧ Np.underL x.set.name z.apex = true ∧ x.sigs = [] ∧ x.set.type ≠ 8
  order : ∀ i (hi : i + 1 < z.sets.length), Np.cmpSet z.sets[i].set z.sets[i + 1].set = -1
theorem zoneOk_of {z : Np.Zone} (hr : Np.rightZ z = true) (hp : Np.plainZ z = true) : ZoneOk z := by
  unfold Np.rightZ at hr
  simp only [Bool.and_eq_true, Bool.not_eq_true'] at hr
  obtain ⟨⟨h1, h2⟩, h3⟩ := hr
  obtain ⟨h4, h5⟩ := Np.goodSets_strict _ _ h3
  unfold Np.plainZ at hp
  rw [Bool.and_eq_true, List.all_eq_true] at hp
  refine ⟨h1, h2, fun x hx => ?_, fun i hi => ?_⟩
  · obtain ⟨p1, p2, _⟩ := Np.plain_parts (hp.2 x hx)
    exact ⟨(h5 x hx).1, (h5 x hx).2, p1, p2⟩
  · have := List.pairwise_iff_getElem.1 h4 i (i + 1) (by simp; omega) (by simp; omega) (by omega)
    exact cmpSet_neg (by simpa using this)
theorem zones_ok {s : List UInt8} {l : List Np.Zone} (h : Np.parse s = (l, [])) : (∀ z ∈ l, ZoneOk z) ∧ (l.map (·.apex)).Nodup :=
  ⟨fun z hz => zoneOk_of ((Np.parse_right h).1 z hz).1 ((Np.parse_right h).1 z hz).2, (Np.parse_right h).2⟩
set_option maxRecDepth 100000 in
set_option maxHeartbeats 8000000 in
theorem pzones_walk (s : ByteArray) (hs : s.size ≤ 140737488355328) (w : World) (hI : ParIn w) :
    Calls Tryz.prog 7 #[.string s] w fun e w' => e = .returned (.bool true) ∧ Below w.heap.size w w' := by
  have HI := Lib.hid hI
  clear hI
  go_enter Tryz.func7, Tryz.ntmps7
  go_wp2_with fail
  refine (head04_any _ HI.out).mono ?_
  rintro e w0 ⟨rfl, hb0⟩
  have HB0 := Lib.hid hb0
  have HI0 := Lib.hid (HI.out.keep hb0)
  clear hb0
  by_cases h8 : 8000 < s.size
  · have h8I : (8000 : Int) < (s.size : Int) := by omega
    go_wp2_with fail
    go_ret
    exact ⟨rfl, HB0.out⟩
  have h8I : ¬ (8000 : Int) < (s.size : Int) := by omega
  rcases hp : Np.parse s.data.toList with ⟨l, d⟩
  have hpar := HI0.out.parse s hs hp
  have HPAR := Lib.hid hpar
  have hdk := Np.parse_diags s.data.toList
  rw [hp, size_list] at hdk
  have HDK := Lib.hid hdk
  have HP := Lib.hid hp
  clear hpar hdk hp
  go_wp2_with fail
  refine HPAR.out.mono ?_
  rintro e w1 ⟨zv, dv, rfl, hzv, hdv, hb1⟩
  dsimp only at hzv hdv
  have HI1 := Lib.hid (HI0.out.keep hb1)
  have HB1 := Lib.hid (HB0.out.trans (hb1.mono HB0.out.size))
  have HZ := Lib.hid hzv
  have HD := Lib.hid hdv
  obtain ⟨Az, cz, rfl, -, hlz⟩ := slr_form hzv
  obtain ⟨Ad, cd, rfl, -, hld⟩ := slr_form hdv
  clear hzv hdv hb1 HPAR
  go_wp2_with fail
  go_loopw [30] (fun i wr => ∃ k : Nat, k ≤ d.length ∧ i = .int .i64 k ∧ Hid (Below w1.heap.size w1 wr)) (fun i _ => d.length - (intOf i).toNat)
  case atStart => exact ⟨0, Nat.zero_le _, rfl, Lib.hid (Below.refl _ _)⟩
  case round =>
    obtain ⟨k, hk, rfl, HB⟩ := hrel
    by_cases hlt : k < d.length
    · obtain ⟨b, o, c', hA, hbb, a0, a1⟩ := diag_at (HD.out.later rdiag_kept rdiag_more HB.out) (List.getElem?_eq_getElem hlt)
      cases hA
      have hm := HDK.out.1.2 d[k] (List.getElem_mem hlt)
      have hne : (d[k].err == 0) = false := by simpa using hm.1
      have hlo : ¬ d[k].pos < 0 := by omega
      have hhi : ¬ (s.size : Int) < d[k].pos := by omega
      have hkI : (k : Int) < (d.length : Int) := by omega
      have hk0 : (0 : Int) ≤ (k : Int) := by omega
      have hd20 : d.length ≤ 20 := HDK.out.2.1
      by_cases hkp : 0 < k
      case neg =>
        have hgB : decide (0 < k) = false := decide_eq_false hkp
        have hgI : ¬ (0 : Int) < (k : Int) := by omega
        have hgC : decide ((0 : Int) < (k : Int)) = false := decide_eq_false hgI
        have hloB : decide (d[k].pos < 0) = false := decide_eq_false hlo
        have hhiB : decide ((s.size : Int) < d[k].pos) = false := decide_eq_false hhi
        generalize d[k] = x at *
        clear hm
        go_wp2_with fail
        obtain ⟨wz, hwz⟩ : ∃ wz, wz = wr.alloc (.cells #[.int .i64 x.err, .int .i64 x.pos] 55) := ⟨_, rfl⟩
        have hbz : Below wr.heap.size wr wz := by rw [hwz]; exact (Below.refl _ _).alloc (Nat.le_refl _) _
        have x0 : wz.cell? ⟨wr.heap.size, 0, none⟩ = some (.int .i64 x.err) := by rw [hwz, World.cell?_alloc_new]; rfl
        have x1 : wz.cell? ⟨wr.heap.size, 1, none⟩ = some (.int .i64 x.pos) := by rw [hwz, World.cell?_alloc_new]; rfl
        have HBZ := Lib.hid (HB.out.trans (hbz.mono HB.out.size))
        have hzz : wr.heap.size < wz.heap.size := by rw [hwz]; simp
        rw [← hwz]
        clear hwz hbz
        generalize hbq : wr.heap.size = bq at *
        clear hbq
        have hgc : ∀ (g : Grow wz) (p : Addr), p.block < wz.heap.size → g.w.cell? p = wz.cell? p := fun g p h => g.cell p h
        refine wp_region_grow (by kernel_rfl) (by kernel_rfl) ?_
        repeat (go_big_quiet_step (fail))
        refine wpQuiet_nil ?_
        rintro _ ⟨g, rfl⟩
        go_wp2_with fail
        go_roundw
        case rel => exact ⟨k + 1, by omega, by go_num, Lib.hid (HBZ.out.trans (g.below.mono HBZ.out.size))⟩
        case measure => simp [intOf] <;> omega
      case pos =>
        obtain ⟨i, rfl⟩ : ∃ i, k = i + 1 := ⟨k - 1, by omega⟩
        obtain ⟨b', o', c'', hA, hbb', f0, f1⟩ := diag_at (HD.out.later rdiag_kept rdiag_more HB.out) (List.getElem?_eq_getElem (show i < d.length by omega))
        simp only [Value.slice.injEq] at hA
        obtain ⟨hA, _, rfl⟩ := hA
        cases hA
        have hord : ¬ d[i + 1].pos ≤ d[i].pos := by
          have := List.pairwise_iff_getElem.1 HDK.out.1.1 i (i + 1) (by omega) hlt (by omega)
          omega
        have hw1 : IntKind.i64.wrap (((i + 1 : Nat) : Int) - 1) = (i : Int) := by rw [IntWalk.i64_in _ (by omega)]; omega
        have hi0 : (0 : Int) ≤ (i : Int) := by omega
        have hi1 : (i : Int) < (d.length : Int) := by omega
        have hpos : (0 : Int) < ((i + 1 : Nat) : Int) := by omega
        have hi1N : i < d.length := by omega
        have hw2 : IntKind.i64.wrap (i : Int) = (i : Int) := IntWalk.i64_in _ (by omega)
        have hordB : decide (d[i + 1].pos ≤ d[i].pos) = false := by simpa using hord
        have hiB : decide ((0 : Int) < (i : Int) + 1) = true := decide_eq_true (by omega)
        generalize d[i + 1] = x at *
        generalize d[i] = y at *
        clear hm
        go_wp2_with fail
        obtain ⟨wz, hwz⟩ : ∃ wz, wz = wr.alloc (.cells #[.int .i64 x.err, .int .i64 x.pos] 55) := ⟨_, rfl⟩
        have hbz : Below wr.heap.size wr wz := by rw [hwz]; exact (Below.refl _ _).alloc (Nat.le_refl _) _
        have x0 : wz.cell? ⟨wr.heap.size, 0, none⟩ = some (.int .i64 x.err) := by rw [hwz, World.cell?_alloc_new]; rfl
        have x1 : wz.cell? ⟨wr.heap.size, 1, none⟩ = some (.int .i64 x.pos) := by rw [hwz, World.cell?_alloc_new]; rfl
        have HBZ := Lib.hid (HB.out.trans (hbz.mono HB.out.size))
        have g1 := (hbz.cell (p := ⟨b, o + i * 2 + 1, none⟩) hbb').trans f1
        rw [← hwz]
        clear hwz hbz
        generalize hbq : wr.heap.size = bq at *
        clear hbq
        go_quiet (fail)
        go_wp2_with fail
        go_roundw
        case rel => exact ⟨i + 1 + 1, by omega, by go_num, Lib.hid (below_drewN HBZ.out _)⟩
        case measure => simp [intOf] <;> omega
    · by_cases hd0 : d = []
      case neg =>
        have hl0 : l = [] := by
          rcases HDK.out.2.2 with h | h
          · exact absurd h hd0
          · exact h
        have h0 : (0 : Int) < (d.length : Int) := by have := List.length_pos_iff.2 hd0; omega
        have h20 : (d.length : Int) ≤ 20 := by have := HDK.out.2.1; omega
        subst hl0
        obtain ⟨nd, hnd⟩ : ∃ n, n = d.length := ⟨_, rfl⟩
        have HB' := Lib.hid (HB1.out.trans (HB.out.mono HB1.out.size))
        rw [← hnd] at h0 h20 hlt hk ⊢
        clear hnd
        simp only [List.length_nil]
        go_wp2_with fail
        go_ret
        exact ⟨rfl, HB'.out⟩
      case pos =>
        subst hd0
        have hzo := zones_ok HP.out
        have HZO := Lib.hid hzo.1
        have HND := Lib.hid hzo.2
        have HIR := Lib.hid (HI1.out.keep HB.out)
        have HZR := Lib.hid (HZ.out.later rzone_kept rzone_more HB.out)
        have HBR := Lib.hid (HB1.out.trans (HB.out.mono HB1.out.size))
        clear hzo HB HZ HB1 HI1 HDK HD hlt hk
        generalize hwr : wr = w2 at *
        clear hwr
        simp only [List.length_nil, Int.cast_ofNat_Int]
        go_wp2_with fail
        go_loopw [3, 82] (fun u i wr => u = .bool true ∧ ∃ k : Nat, k ≤ l.length ∧ i = .int .i64 k ∧ Hid (Below w2.heap.size w2 wr)) (fun _ i _ => l.length - (intOf i).toNat)
        case atStart => exact ⟨rfl, 0, Nat.zero_le _, rfl, Lib.hid (Below.refl _ _)⟩
        case round =>
          obtain ⟨rfl, k, hk, rfl, HB⟩ := hrel
          by_cases hlt : k < l.length
          · obtain ⟨b, o, c', sn, sv, hA, hbb, hcap, hsn, hsz, hsv, a0, a1⟩ := zone_at (HZR.out.later rzone_kept rzone_more HB.out) (List.getElem?_eq_getElem hlt)
            cases hA
            have HZX := Lib.hid (HZO.out l[k] (List.getElem_mem hlt))
            have HNE := Lib.hid (show ∀ j (hj : j < l.length), j < k → l[j].apex ≠ l[k].apex from fun j hj hjk e => by
              have := List.pairwise_iff_getElem.1 HND.out j k (by simpa using hj) (by simpa using hlt) hjk
              rw [List.getElem_map, List.getElem_map] at this
              exact this e)
            have hkI : (k : Int) < (l.length : Int) := by omega
            have hk0 : (0 : Int) ≤ (k : Int) := by omega
            have hkc : (k : Int) ≤ (cz : Int) := by omega
            obtain ⟨z, hz⟩ : ∃ z, z = l[k] := ⟨_, rfl⟩
            rw [← hz] at hsn hsv HZX HNE
            have HSN := Lib.hid hsn
            have HSV := Lib.hid hsv
            obtain ⟨Sv, cs, rfl, hcs, hls⟩ := slr_form hsv
            have HV1 := Lib.hid (show Np.validName sn.data.toList = true by rw [hsn]; exact HZX.out.valid)
            have HV2 := Lib.hid (show Np.isWild sn.data.toList = false by rw [hsn]; exact HZX.out.wild)
            clear hsn hsv hz
            go_wp2_with fail
            obtain ⟨wz, hwz⟩ : ∃ wz, wz = wr.alloc (.cells #[.string sn, .slice Sv z.sets.length cs] 32) := ⟨_, rfl⟩
            have hbz : Below wr.heap.size wr wz := by rw [hwz]; exact (Below.refl _ _).alloc (Nat.le_refl _) _
            have x0 : wz.cell? ⟨wr.heap.size, 0, none⟩ = some (.string sn) := by rw [hwz, World.cell?_alloc_new]; rfl
            have x1 : wz.cell? ⟨wr.heap.size, 1, none⟩ = some (.slice Sv z.sets.length cs) := by rw [hwz, World.cell?_alloc_new]; rfl
            have hzz : wr.heap.size < wz.heap.size := by rw [hwz]; simp
            rw [← hwz]
            refine (nameValid_any sn hsz _).mono ?_
            rintro e w3 ⟨rfl, hb3⟩
            rw [HV1.out]
            have y0 := (hb3.cell (p := ⟨wr.heap.size, 0, none⟩) hzz).trans x0
            have y1 := (hb3.cell (p := ⟨wr.heap.size, 1, none⟩) hzz).trans x1
            have hz3 : wr.heap.size < w3.heap.size := Nat.lt_of_lt_of_le hzz hb3.size
            have HB3 := Lib.hid (HB.out.trans ((hbz.trans (hb3.mono hbz.size)).mono HB.out.size))
            have HSV3 := Lib.hid (HSV.out.later rsigned_kept rsigned_more (hbz.trans (hb3.mono hbz.size)))
            have HY := Lib.hid (And.intro y0 (And.intro y1 hz3))
            clear hwz hbz x0 x1 hzz hb3 a0 a1 HB HSV
            generalize hbzz : wr.heap.size = bz at *
            clear hbzz
            go_wp2_with fail
            refine (hasPrefixStar sn hsz _).mono ?_
            rintro e w3' ⟨rfl, rfl⟩
            rw [HV2.out]
            clear y0 y1
            go_wp2_with fail
            go_loopw [3, 100] (fun u i wr => u = .bool true ∧ ∃ j : Nat, j ≤ k ∧ i = .int .i64 j ∧ Hid (Below w3.heap.size w3 wr)) (fun _ i _ => k - (intOf i).toNat)
            case atStart => exact ⟨rfl, 0, Nat.zero_le _, rfl, Lib.hid (Below.refl _ _)⟩
            case round =>
              obtain ⟨rfl, j, hj, rfl, HBj⟩ := hrel
              have y0 := (HBj.out.cell (p := ⟨bz, 0, none⟩) HY.out.2.2).trans HY.out.1
              have y1 := (HBj.out.cell (p := ⟨bz, 1, none⟩) HY.out.2.2).trans HY.out.2.1
              have hzj : bz < wr.heap.size := Nat.lt_of_lt_of_le HY.out.2.2 HBj.out.size
              by_cases hjk : j < k
              · have hjl : j < l.length := by omega
                obtain ⟨q, o', c'', sy, sv', hA, hqb, _, hsy, hszy, hsv', g0, g1⟩ := zone_at ((HZR.out.later rzone_kept rzone_more HB3.out).later rzone_kept rzone_more HBj.out) (List.getElem?_eq_getElem hjl)
                simp only [Value.slice.injEq] at hA
                obtain ⟨hA, _, rfl⟩ := hA
                cases hA
                have hne : ¬ sy.toList = sn.toList := by
                  rw [ByteArray.toList_eq, ByteArray.toList_eq, hsy, HSN.out]
                  exact HNE.out j hjl hjk
                have hneB : (sy.toList == sn.toList) = false := beq_eq_false_iff_ne.2 hne
                have hjI : (j : Int) < (k : Int) := by omega
                have hj0 : (0 : Int) ≤ (j : Int) := by omega
                obtain ⟨Sy, cy, rfl, -, -⟩ := slr_form hsv'
                generalize l[j] = y at *
                clear hsy hsv' y1
                go_wp2_with fail
                go_roundw
                case rel => exact ⟨rfl, j + 1, by omega, by go_num, Lib.hid ((HBj.out.alloc HBj.out.size _))⟩
                case measure => simp [intOf] <;> omega
              · have HSV5 := Lib.hid (HSV3.out.later rsigned_kept rsigned_more HBj.out)
                have HB5 := Lib.hid (HB3.out.trans (HBj.out.mono HB3.out.size))
                have HY5 := Lib.hid (And.intro y0 (And.intro y1 hzj))
                have HI5 := Lib.hid (HIR.out.keep HB5.out)
                clear HBj HSV3 HB3 HY
                generalize hwr5 : wr = w5 at *
                clear hwr5
                go_wp2_with fail
                clear y0 y1
                go_loopw [3, 116] (fun u i wr => u = .bool true ∧ ∃ j : Nat, j ≤ z.sets.length ∧ i = .int .i64 j ∧ Hid (Below w5.heap.size w5 wr)) (fun _ i _ => z.sets.length - (intOf i).toNat)
                case atStart => exact ⟨rfl, 0, Nat.zero_le _, rfl, Lib.hid (Below.refl _ _)⟩
                case round =>
                  obtain ⟨rfl, m, hm, rfl, HBm⟩ := hrel
                  have y0 := (HBm.out.cell (p := ⟨bz, 0, none⟩) HY5.out.2.2).trans HY5.out.1
                  have y1 := (HBm.out.cell (p := ⟨bz, 1, none⟩) HY5.out.2.2).trans HY5.out.2.1
                  have hzm : bz < wr.heap.size := Nat.lt_of_lt_of_le HY5.out.2.2 HBm.out.size
                  by_cases hmk : m < z.sets.length
                  · obtain ⟨q, o', c'', ss, dvx, sgx, hA, hqb, _, hss, hszs, hdx, hsx, f0, f1, f2, f3, f4⟩ := signed_at (HSV5.out.later rsigned_kept rsigned_more HBm.out) (List.getElem?_eq_getElem hmk)
                    cases hA
                    obtain ⟨x, hx⟩ : ∃ x, x = z.sets[m] := ⟨_, rfl⟩
                    have hxo := HZX.out.sets x (by rw [hx]; exact List.getElem_mem hmk)
                    have HORD := Lib.hid (show ∀ i (hi : i < z.sets.length), i + 1 = m → Np.cmpSet z.sets[i].set x.set = -1 from fun i hi e => by subst e; rw [hx]; exact HZX.out.order i hmk)
                    rw [← hx] at f1 f2 hss hdx hsx
                    obtain ⟨Dx, ex, rfl, -, -⟩ := slr_form hdx
                    obtain ⟨Gx, gx, rfl, -, -⟩ := slr_form hsx
                    rw [hxo.2.2.1] at f4
                    simp only [List.length_nil] at f4
                    have h8n : (x.set.type == 8) = false := by simpa using hxo.2.2.2
                    have HUN := Lib.hid (show Np.underL ss.data.toList sn.data.toList = true by rw [hss, HSN.out]; exact hxo.2.1)
                    have HVN := Lib.hid (show Np.validName ss.data.toList = true by rw [hss]; exact valid_name hxo.1)
                    have HSET := Lib.hid (show (⟨ss.data.toList, x.set.type, x.set.life, x.set.data⟩ : Np.DSet) = x.set by rw [hss])
                    have HVS := Lib.hid hxo.1
                    have HDX := Lib.hid hdx
                    have hmI : (m : Int) < (z.sets.length : Int) := by omega
                    have hm0 : (0 : Int) ≤ (m : Int) := by omega
                    have hz32 : z.sets.length ≤ 140737488355328 := by omega
                    clear hx hdx hsx hss hxo
                    go_wp2_with fail
                    obtain ⟨wz, hwz⟩ : ∃ wz, wz = wr.alloc (.cells #[.string ss, .int .i64 x.set.type, .int .i64 x.set.life, .slice Dx x.set.data.length ex, .slice Gx 0 gx] 41) := ⟨_, rfl⟩
                    have hbz : Below wr.heap.size wr wz := by rw [hwz]; exact (Below.refl _ _).alloc (Nat.le_refl _) _
                    have s0 : wz.cell? ⟨wr.heap.size, 0, none⟩ = some (.string ss) := by rw [hwz, World.cell?_alloc_new]; rfl
                    have s1 : wz.cell? ⟨wr.heap.size, 1, none⟩ = some (.int .i64 x.set.type) := by rw [hwz, World.cell?_alloc_new]; rfl
                    have s2 : wz.cell? ⟨wr.heap.size, 2, none⟩ = some (.int .i64 x.set.life) := by rw [hwz, World.cell?_alloc_new]; rfl
                    have s3 : wz.cell? ⟨wr.heap.size, 3, none⟩ = some (.slice Dx x.set.data.length ex) := by rw [hwz, World.cell?_alloc_new]; rfl
                    have s4 : wz.cell? ⟨wr.heap.size, 4, none⟩ = some (.slice Gx 0 gx) := by rw [hwz, World.cell?_alloc_new]; rfl
                    have hzz : wr.heap.size < wz.heap.size := by rw [hwz]; simp
                    rw [← hwz]
                    refine (under_yes ss sn hszs hsz wz HVN.out HV1.out).mono ?_
                    rintro e w6 ⟨rfl, hb6⟩
                    rw [HUN.out]
                    have t0 := (hb6.cell (p := ⟨wr.heap.size, 0, none⟩) hzz).trans s0
                    have t1 := (hb6.cell (p := ⟨wr.heap.size, 1, none⟩) hzz).trans s1
                    have t2 := (hb6.cell (p := ⟨wr.heap.size, 2, none⟩) hzz).trans s2
                    have t3 := (hb6.cell (p := ⟨wr.heap.size, 3, none⟩) hzz).trans s3
                    have t4 := (hb6.cell (p := ⟨wr.heap.size, 4, none⟩) hzz).trans s4
                    have hz6 : wr.heap.size < w6.heap.size := Nat.lt_of_lt_of_le hzz hb6.size
                    have hb56 : Below wr.heap.size wr w6 := hbz.trans (hb6.mono hbz.size)
                    have z1 := (hb56.cell (p := ⟨bz, 1, none⟩) hzm).trans y1
                    have hz16 : bz < w6.heap.size := Nat.lt_of_lt_of_le hzm hb56.size
                    have HB6 := Lib.hid (HBm.out.trans (hb56.mono HBm.out.size))
                    have HSV6 := Lib.hid (HSV5.out.later rsigned_kept rsigned_more HB6.out)
                    have HDX6 := Lib.hid (HDX.out.later rdatum_kept rdatum_more hb56)
                    have HR6 := Lib.hid (HI5.out.keep HB6.out).rules
                    have hvc := recValid_any ss hszs x.set.type x.set.life (.slice Dx x.set.data.length ex) x.set.data w6 HR6.out HDX6.out
                    rw [HSET.out, HVS.out] at hvc
                    have HVC := Lib.hid hvc
                    have HT := Lib.hid (And.intro t0 (And.intro t1 (And.intro t2 (And.intro t3 (And.intro hz6 (And.intro z1 hz16))))))
                    clear hwz hbz s0 s1 s2 s3 s4 hzz hb6 hb56 y0 y1 hzm hvc HDX HBm f0 f1 f2 f3 f4 hqb
                    generalize hbq : wr.heap.size = bs at *
                    clear hbq
                    go_wp2_with fail
                    refine HVC.out.mono ?_
                    rintro e w7 ⟨rfl, hb7⟩
                    have u0 := (hb7.cell (p := ⟨bs, 0, none⟩) HT.out.2.2.2.2.1).trans HT.out.1
                    have u1 := (hb7.cell (p := ⟨bs, 1, none⟩) HT.out.2.2.2.2.1).trans HT.out.2.1
                    have u2 := (hb7.cell (p := ⟨bs, 2, none⟩) HT.out.2.2.2.2.1).trans HT.out.2.2.1
                    have u3 := (hb7.cell (p := ⟨bs, 3, none⟩) HT.out.2.2.2.2.1).trans HT.out.2.2.2.1
                    have u4 := (hb7.cell (p := ⟨bs, 4, none⟩) HT.out.2.2.2.2.1).trans t4
                    have v1 := (hb7.cell (p := ⟨bz, 1, none⟩) HT.out.2.2.2.2.2.2).trans HT.out.2.2.2.2.2.1
                    have hbs7 : bs < w7.heap.size := Nat.lt_of_lt_of_le HT.out.2.2.2.2.1 hb7.size
                    have hbz7 : bz < w7.heap.size := Nat.lt_of_lt_of_le HT.out.2.2.2.2.2.2 hb7.size
                    have HB7 := Lib.hid (HB6.out.trans (hb7.mono HB6.out.size))
                    have HSV7 := Lib.hid (HSV6.out.later rsigned_kept rsigned_more hb7)
                    have HDX7 := Lib.hid (HDX6.out.later rdatum_kept rdatum_more hb7)
                    have HR7 := Lib.hid ((HR6.out.keep hb7).more hb7.size)
                    clear hb7 t0 t1 t2 t3 t4 z1 hz6 hz16 HT HVC HB6 HSV6 HDX6 HR6
                    cases m with
                    | zero =>
                      go_wp2_with fail
                      go_roundw
                      case rel => exact ⟨rfl, 0 + 1, by omega, by go_num, HB7⟩
                      case measure => simp [intOf] <;> omega
                    | succ i =>
                      obtain ⟨q', p', c3, sq, dq, gq, hA, hqb', _, hsq, hszq, hdq, hgq, g0, g1, g2, g3, g4⟩ := signed_at HSV7.out (List.getElem?_eq_getElem (show i < z.sets.length by omega))
                      simp only [Value.slice.injEq] at hA
                      obtain ⟨hA, _, rfl⟩ := hA
                      cases hA
                      have hoi := HORD.out i (by omega) rfl
                      have hvy := (HZX.out.sets _ (List.getElem_mem (show i < z.sets.length by omega))).1
                      generalize z.sets[i] = y at *
                      obtain ⟨Aq, cq, rfl, -, -⟩ := slr_form hdq
                      have hcv : cmpSetVal ⟨sq.data.toList, y.set.type, y.set.life, y.set.data⟩ ⟨ss.data.toList, x.set.type, x.set.life, x.set.data⟩ = .tuple #[.int .i64 (-1), .int .i64 0] := by
                        rw [HSET.out, show (⟨sq.data.toList, y.set.type, y.set.life, y.set.data⟩ : Np.DSet) = y.set by rw [hsq], cmpSetVal, HVS.out, hvy, hoi]; rfl
                      have HCV := Lib.hid hcv
                      have HDQ := Lib.hid hdq
                      clear hcv hdq hgq hsq hoi hvy g4
                      have hgc : ∀ (g : Grow w7) (p : Addr), p.block < w7.heap.size → g.w.cell? p = w7.cell? p := fun g p h => g.cell p h
                      have hw1 : IntKind.i64.wrap (((i + 1 : Nat) : Int) - 1) = (i : Int) := by rw [IntWalk.i64_in _ (by omega)]; omega
                      have hw2 : IntKind.i64.wrap (i : Int) = (i : Int) := IntWalk.i64_in _ (by omega)
                      have hi0 : (0 : Int) ≤ (i : Int) := by omega
                      have hi1 : (i : Int) < (z.sets.length : Int) := by omega
                      have hi1N : i < z.sets.length := by omega
                      have hcall : ∀ g : Grow w7, Calls Tryz.prog 28 #[.agg #[.string sq, .int .i64 y.set.type, .int .i64 y.set.life, .slice Aq y.set.data.length cq], .agg #[.string ss, .int .i64 x.set.type, .int .i64 x.set.life, .slice Dx x.set.data.length ex]] g.w fun e w' => e = .returned (.tuple #[.int .i64 (-1), .int .i64 0]) ∧ Below g.w.heap.size g.w w' := fun g => by
                        rw [← HCV.out]
                        exact recCompare_any sq ss hszq hszs _ _ _ _ _ _ y.set.data x.set.data _ ((HR7.out.keep g.below).more g.size) (HDQ.out.later rdatum_kept rdatum_more g.below) (HDX7.out.later rdatum_kept rdatum_more g.below)
                      have HCALL := Lib.hid hcall
                      clear hcall
                      go_wp2_with fail
                      refine wp_region_grow (by kernel_rfl) (by kernel_rfl) ?_
                      repeat (go_big_quiet_step ((go_at_call 28; exact Calls.grow_of (HCALL.out _))))
                      refine wpQuiet_nil ?_
                      rintro _ ⟨g, rfl⟩
                      go_wp2_with fail
                      go_roundw
                      case rel => exact ⟨rfl, i + 1 + 1, by omega, by go_num, Lib.hid (HB7.out.trans (g.below.mono HB7.out.size))⟩
                      case measure => simp [intOf] <;> omega
                  · have HB' := Lib.hid (HBR.out.trans ((HB5.out.trans (HBm.out.mono HB5.out.size)).mono HBR.out.size))
                    have HBf := Lib.hid (HB5.out.trans (HBm.out.mono HB5.out.size))
                    clear y0 y1
                    go_wp2_with fail
                    go_roundw
                    case rel => exact ⟨rfl, k + 1, by omega, by go_num, HBf⟩
                    case measure => simp [intOf] <;> omega
          · have HB' := Lib.hid (HBR.out.trans (HB.out.mono HBR.out.size))
            go_wp2_with fail
            go_ret
            exact ⟨rfl, HB'.out⟩
end Go.Proofs.YtnbolgdccdnjeaaGreatDoor
