/- Joined by program from: RefW1, RefWx. -/
import Derived.Test.YtnbolgdccdnjeaaGreatDoorRefM
import Derived.Test.YtnbolgdccdnjeaaGreatDoorRfB
import Derived.Deep.RegionHeld3
import Derived.IntWalk
import Derived.Deep.RegionLaw
import Derived.Deep.DeepMust
/- PrinterRefuses: the walk, case 1. -/
namespace Go.Proofs.YtnbolgdccdnjeaaGreatDoor
open Go.RowKit
set_option maxRecDepth 100000 in
set_option maxHeartbeats 4000000 in
theorem refuse_walk1 (v : Value) (zs : List Np.Zone) (wh ta how : Int) (hwh0 : 0 ≤ wh) (hwh1 : wh ≤ 255) (hat0 : 0 ≤ ta) (hat1 : ta ≤ 65535) (hh0 : 0 ≤ how) (hh1 : how ≤ 255) (hK : how % 4 = 1) (w : World) (hI : PrintIn w) (hz : SlR RZone 2 w w.heap.size v zs) :
    Calls Tryz.prog 4 #[v, .int .u8 wh, .int .u16 ta, .int .u8 how] w fun e w' => e = .returned (.bool true) ∧ Below w.heap.size w w' := by
  have HI := Lib.hid hI
  have HZ := Lib.hid hz
  obtain ⟨A, c, rfl, hc1, hl1⟩ := slr_form hz
  obtain ⟨i0, hi, hzz⟩ := Option.map_eq_some_iff.1 Tryz.infoZone
  simp only [Prod.mk.injEq] at hzz
  obtain ⟨hz0, hz1, hz2⟩ := hzz
  obtain ⟨i1, hj, hzz⟩ := Option.map_eq_some_iff.1 Tryz.infoSignedR
  simp only [Prod.mk.injEq] at hzz
  obtain ⟨hy0, hy1, hy2⟩ := hzz
  have HK := Lib.hid hK
  clear hI hz hK
  have HW : Hid (∀ (u : World) (o : Obj), Below u.heap.size u (u.alloc o)) := Lib.hid (fun u o => (Below.refl _ u).alloc (Nat.le_refl _) _)
  go_enter Tryz.func4, Tryz.ntmps4
  go_wp2_with fail
  refine (head05_any _ HI.out).mono ?_
  rintro e wa ⟨rfl, hba⟩
  have HBA := Lib.hid hba
  have HA := Lib.hid (HZ.out.later rzone_kept rzone_more hba)
  clear hba
  go_wp2_with fail
  refine (few_any _ zs _ HA.out).mono ?_
  rintro e wa' ⟨b1, rfl, rfl, hb1⟩
  cases b1 with
  | false =>
    go_wp2_with fail
    go_ret
    exact ⟨rfl, HBA.out⟩
  | true =>
    have hf1 := hb1 rfl
    have HF := Lib.hid hf1
    have hn1 := hf1.1
    clear hb1 hf1
    by_cases hzn : zs.length = 0
    · have hz0' : ((zs.length : Int) == 0) = true := by simp [hzn]
      have HZN := Lib.hid hzn
      clear hzn
      go_wp2_with fail
      go_ret
      exact ⟨rfl, HBA.out⟩
    · have hzp : 0 < zs.length := by omega
      have hz0' : ((zs.length : Int) == 0) = false := beq_eq_false_iff_ne.2 (by omega)
      have hzi : (0 : Int) < (zs.length : Int) := by omega
      clear hzn
      obtain ⟨p, n, hp⟩ : ∃ p n, Np.print zs = (p, n) := ⟨_, _, rfl⟩
      have HP := Lib.hid hp
      clear hp
      go_wp2_with fail
      have hr := refPrint_any _ zs _ hn1 (fun z hz => (HF.out.2 z hz).1) HA.out
      rw [HP.out] at hr
      refine hr.mono ?_
      rintro e wb ⟨rfl, hbb⟩
      have HBB := Lib.hid (HBA.out.trans (hbb.mono HBA.out.size))
      have HZB := Lib.hid (HA.out.later rzone_kept rzone_more hbb)
      clear hbb hr
      by_cases hn0 : n = 0
      · subst hn0
        have HAL := Lib.hid (HW.out wb (.cells #[] 32))
        go_upto_region 8 with (at_builtin; refine wpList_append_R _ rfl _ _ 22 rfl wb.heap.size wb.heap.size 32 i0 (.agg #[.string ⟨#[]⟩, .slice none 0 0]) 40 Tryz.underlying22 hi hz0 hz1 hz2 rfl (by decide) _ [] rfl (OwnR.empty (R := RZone) (sz := 2) wb (Nat.le_refl _)) A c wb.heap.size zs rfl (HZB.out.keep rzone_kept HAL.out) (fun _ _ h => rzone_one h) (by simp [maxLen]; omega) (by simp; omega) (by simp) (Nat.le_refl _) (Nat.le_refl _) rzone_kept rzone_more ?_; intro v3 w3 ho3 hb3 hg3; have H3 := Lib.hid (And.intro ho3 (HAL.out.trans hb3)); clear ho3 hb3 hg3)
        obtain ⟨ho3, hb3⟩ := H3.out
        rw [List.nil_append] at ho3
        obtain ⟨gb, c3, rfl, hgb0, hgb1, hc3, hm3, fz3, hrow3⟩ := ho3.isRow (by intro e; rw [e] at hzp; simp at hzp)
        have HB3 := Lib.hid hb3
        have HO3 := Lib.hid ho3
        have HBW3 := Lib.hid (HBB.out.trans (hb3.mono HBB.out.size))
        obtain ⟨i, hiE⟩ : ∃ i : Nat, wh % (zs.length : Int) = (i : Int) := ⟨(wh % (zs.length : Int)).toNat, (Int.toNat_of_nonneg (Int.emod_nonneg _ (by omega))).symm⟩
        have hil : i < zs.length := by have := Int.emod_lt_of_pos wh hzi; omega
        obtain ⟨r, _, ⟨s, sv, hs1, hs2, hsv, rfl⟩, hce⟩ := hrow3 i _ (List.getElem?_eq_getElem hil)
        have e0 : w3.cell? ⟨gb, i * 2, none⟩ = some (.string s) := by have := hce 0 _ rfl; simpa using this
        have e1 : w3.cell? ⟨gb, i * 2 + 1, none⟩ = some sv := hce 1 _ rfl
        have HGZ := Lib.hid (List.getElem?_eq_getElem hil)
        have HROW := Lib.hid hrow3
        have HSV := Lib.hid hsv
        have HS1 := Lib.hid hs1
        have hs300 := (HF.out.2 _ (List.getElem_mem hil)).1
        generalize zs[i] = z at HGZ HSV HS1 hsv hs300
        obtain ⟨As, cs, rfl, hcs, hls⟩ := slr_form hsv
        have hi0 : (0 : Int) ≤ (i : Int) := by omega
        have hi9 : (i : Int) < (zs.length : Int) := by omega
        have hsz3 : wb.heap.size ≤ w3.heap.size := hb3.size
        clear ho3 hb3 H3 hrow3 hsv hce hs1
        have HAS := Lib.hid (HW.out w3 (.cells #[] 41))
        go_upto_region 10 with (at_builtin; refine wpList_append_R _ rfl _ _ 30 rfl w3.heap.size wb.heap.size 41 i1 (.agg #[.string ⟨#[]⟩, .int .i64 0, .int .i64 0, .slice none 0 0, .slice none 0 0]) 80 Tryz.underlying30 hj hy0 hy1 hy2 rfl (by decide) _ [] rfl (OwnR.empty (R := RSigned) (sz := 5) w3 (Nat.le_refl _)) As cs wb.heap.size z.sets rfl (HSV.out.keep rsigned_kept (HAS.out.mono hsz3)) (fun _ _ h => rsigned_one h) (by simp [maxLen]; omega) (by simp; omega) (by simp) (Nat.le_refl _) hsz3 rsigned_kept rsigned_more ?_; intro v4 w4 ho4 hb4 hg4; have H4 := Lib.hid (And.intro ho4 (HAS.out.trans hb4)); have hs4 : w3.heap.size ≤ w4.heap.size := (HAS.out.trans hb4).size; obtain ⟨c4, f4⟩ := bcell (HAS.out.trans hb4); obtain ⟨A4, p4, rfl⟩ := ho4.form; clear ho4 hb4 hg4)
        obtain ⟨ho4, hb4⟩ := H4.out
        rw [List.nil_append] at ho4
        have hcell6 : ∀ o, o ≠ i * 2 + 1 → (w4.setCell ⟨gb, i * 2 + 1, none⟩ (.slice A4 z.sets.length p4)).cell? ⟨gb, o, none⟩ = w3.cell? ⟨gb, o, none⟩ := fun o ho => (World.cell?_setCell_other _ _ _ _ (by intro e; cases e; exact ho rfl)).trans (hb4.cell hgb1)
        have k0 := (hcell6 (i * 2) (by omega)).trans e0
        have k1 : (w4.setCell ⟨gb, i * 2 + 1, none⟩ (.slice A4 z.sets.length p4)).cell? ⟨gb, i * 2 + 1, none⟩ = some (.slice A4 z.sets.length p4) := by
          have := (hb4.cell (p := ⟨gb, i * 2 + 1, none⟩) hgb1).trans e1
          simp [World.cell?_setCell_same, this]
        have kf : ∀ o, (w4.setCell ⟨gb, i * 2 + 1, none⟩ (.slice A4 z.sets.length p4)).frozen? ⟨gb, o, none⟩ = false := fun o => by
          have := (hb4.frozen (p := ⟨gb, o, none⟩) hgb1).trans (fz3 o)
          simp [go_sem, this]
        have HOM := Lib.hid (bad_own HO3.out hgb0 hb4 hgb1 HGZ.out HS1.out hs2 e0 e1 ho4 hs300)
        have hown4 : ∀ g, Value.ownBlock (.slice A4 z.sets.length p4) = some g → w3.heap.size ≤ g ∧ g < w4.heap.size := fun g hg => by
          obtain ⟨_, _, hoo, _⟩ := id ho4
          exact hoo.lt g hg
        have hb46 : Below gb w4 (w4.setCell ⟨gb, i * 2 + 1, none⟩ (.slice A4 z.sets.length p4)) := Below.setCell (Below.refl gb w4) (p := ⟨gb, i * 2 + 1, none⟩) (Nat.le_refl gb) _
        have HO6 := Lib.hid (ho4.keepB rsigned_kept (hb46.mono hgb0) (fun g hg => Below.heap_setCell _ _ _ _ (by have := (hown4 g hg).1; simp; omega)))
        have HB6 := Lib.hid ((hb4.mono hsz3).trans (hb46.mono hgb0))
        have HBW6 := Lib.hid (HBW3.out.trans (HB6.out.mono HBB.out.size))
        have hs6 : w3.heap.size ≤ (w4.setCell ⟨gb, i * 2 + 1, none⟩ (.slice A4 z.sets.length p4)).heap.size := by simp [World.setCell]; exact hs4
        have hown6 : ∀ g, Value.ownBlock (.slice A4 z.sets.length p4) = some g → w3.heap.size ≤ g ∧ g < (w4.setCell ⟨gb, i * 2 + 1, none⟩ (.slice A4 z.sets.length p4)).heap.size := fun g hg => by
          have := hown4 g hg
          simp [World.setCell]; exact this
        have HC6 := Lib.hid hcell6
        have HW6 := Lib.hid hown6
        have HFZ := Lib.hid kf
        clear ho4 hb4 H4 hcell6 hown4 hb46 hown6 e0 e1 c4 f4 fz3
        generalize w4.setCell ⟨gb, i * 2 + 1, none⟩ (.slice A4 z.sets.length p4) = W6 at k0 k1 HOM HO6 HB6 HBW6 hs6 HC6 HW6 HFZ kf ⊢
        have hgb6 : gb < W6.heap.size := by omega
        have hK := HK.out
        by_cases hset : z.sets.length = 0
        · have hse : ((z.sets.length : Int) == 0) = true := by simp [hset]
          have HSE := Lib.hid hset
          clear hset
          go_wp2_with fail
          go_ret
          exact ⟨rfl, HBW6.out⟩
        · have hse : ((z.sets.length : Int) == 0) = false := beq_eq_false_iff_ne.2 (by omega)
          have hsi : (0 : Int) < (z.sets.length : Int) := by omega
          obtain ⟨g4, c4, hv4, hg40, hg41, hc4, hm4, fz4, hrow4⟩ := HO6.out.isRow (by intro e; rw [e] at hset; simp at hset)
          simp only [Value.slice.injEq, true_and] at hv4
          obtain ⟨rfl, rfl⟩ := hv4
          clear hset
          obtain ⟨k, hkE⟩ : ∃ k : Nat, ta % (z.sets.length : Int) = (k : Int) := ⟨(ta % (z.sets.length : Int)).toNat, (Int.toNat_of_nonneg (Int.emod_nonneg _ (by omega))).symm⟩
          have hkl : k < z.sets.length := by have := Int.emod_lt_of_pos ta hsi; omega
          have HGX := Lib.hid (List.getElem?_eq_getElem hkl)
          obtain ⟨r, _, hrs, hce⟩ := hrow4 k _ (List.getElem?_eq_getElem hkl)
          generalize z.sets[k] = x at HGX hrs
          have HRS := Lib.hid hrs
          obtain ⟨s5, v5, u5, _, _, hd5, hg5, rfl⟩ := hrs
          obtain ⟨Ad, cd, hvd, _, _⟩ := slr_form hd5
          obtain ⟨Ag, cg, hvg, _, _⟩ := slr_form hg5
          obtain ⟨nd, hnd⟩ : ∃ nd, nd = x.set.data.length := ⟨_, rfl⟩
          obtain ⟨ng, hng⟩ : ∃ ng, ng = x.sigs.length := ⟨_, rfl⟩
          rw [← hnd] at hvd
          rw [← hng] at hvg
          subst hvd
          subst hvg
          have HND := Lib.hid hnd
          have HNG := Lib.hid hng
          clear hnd hng
          have y0 : W6.cell? ⟨g4, k * 5, none⟩ = some (.string s5) := by have := hce 0 _ rfl; simpa using this
          have y1 : W6.cell? ⟨g4, k * 5 + 1, none⟩ = some (.int .i64 x.set.type) := hce 1 _ rfl
          have y2 : W6.cell? ⟨g4, k * 5 + 2, none⟩ = some (.int .i64 x.set.life) := hce 2 _ rfl
          have y3 : W6.cell? ⟨g4, k * 5 + 3, none⟩ = some (.slice Ad nd cd) := hce 3 _ rfl
          have y4 : W6.cell? ⟨g4, k * 5 + 4, none⟩ = some (.slice Ag ng cg) := hce 4 _ rfl
          have hk0 : (0 : Int) ≤ (k : Int) := by omega
          have hk9 : (k : Int) < (z.sets.length : Int) := by omega
          have hk1 : (0 : Int) ≤ (k : Int) + 1 := by omega
          have hk2 : (k : Int) + 1 ≤ (z.sets.length : Int) := by omega
          have hk3 : (k : Int) + 1 ≤ (p4 : Int) := by omega
          have hk4 : ((k : Int) + 1).toNat = k + 1 := by omega
          have hkn : k + 1 ≤ z.sets.length := by omega
          have hkp : k + 1 ≤ p4 := by omega
          have hwr : IntKind.i64.wrap ((k : Int) + 1) = (k : Int) + 1 := IntWalk.i64_in _ (by omega)
          have hne : ¬ g4 = gb := by omega
          have hne0 : ¬ gb = g4 := by omega
          have hne1 : ¬ W6.heap.size = gb := by omega
          have hne2 : ¬ W6.heap.size = g4 := by omega
          have kff := kf (i * 2 + 1)
          have hbc : Below W6.heap.size W6 (W6.alloc (.cells [.string s5, .int .i64 x.set.type, .int .i64 x.set.life, .slice Ad nd cd, .slice Ag ng cg].toArray 41)).drew := ((Below.refl _ _).alloc (Nat.le_refl _) _).drew
          have HBC := Lib.hid hbc
          have hcs : W6.heap.size + 1 = (W6.alloc (.cells [.string s5, .int .i64 x.set.type, .int .i64 x.set.life, .slice Ad nd cd, .slice Ag ng cg].toArray 41)).drew.heap.size := by simp
          have HMk : Hid (∀ k, (fun k => k = gb ∨ k = g4 ∨ k = W6.heap.size) k → wb.heap.size ≤ k) := Lib.hid (fun k e => by rcases e with rfl | rfl | rfl <;> omega)
          have hbs : Below wb.heap.size W6 (sansP (W6.alloc (.cells [.string s5, .int .i64 x.set.type, .int .i64 x.set.life, .slice Ad nd cd, .slice Ag ng cg].toArray 41)).drew (fun k => k = gb ∨ k = g4 ∨ k = W6.heap.size)) := ⟨rfl, rfl, rfl, by rw [sansP_size]; omega, fun q hq => (sansP_out (fun e => by have := HMk.out q e; omega)).trans (HBC.out.block q (by omega))⟩
          have HRX : Hid (RSigned (sansP (W6.alloc (.cells [.string s5, .int .i64 x.set.type, .int .i64 x.set.life, .slice Ad nd cd, .slice Ag ng cg].toArray 41)).drew (fun k => k = gb ∨ k = g4 ∨ k = W6.heap.size)) (W6.alloc (.cells [.string s5, .int .i64 x.set.type, .int .i64 x.set.life, .slice Ad nd cd, .slice Ag ng cg].toArray 41)).drew.heap.size [.string s5, .int .i64 x.set.type, .int .i64 x.set.life, .slice Ad nd cd, .slice Ag ng cg] x) := Lib.hid (rsigned_more _ _ _ _ _ (rsigned_kept _ _ _ _ _ HRS.out hbs) (by omega))
          have HC1 : Hid (OwnM RSigned 5 41 W6.heap.size (fun k => k = gb ∨ k = g4 ∨ k = W6.heap.size) (W6.alloc (.cells [.string s5, .int .i64 x.set.type, .int .i64 x.set.life, .slice Ad nd cd, .slice Ag ng cg].toArray 41)).drew (.slice (some ⟨W6.heap.size, 0, none⟩) 1 1) [x]) := Lib.hid (OwnM.one_new (Nat.le_refl _) (.inr (.inr rfl)) rfl HRX.out)
          have HV4 : Hid (OwnM RSigned 5 41 w3.heap.size (fun k => k = gb ∨ k = g4 ∨ k = W6.heap.size) (W6.alloc (.cells [.string s5, .int .i64 x.set.type, .int .i64 x.set.life, .slice Ad nd cd, .slice Ag ng cg].toArray 41)).drew (.slice (some ⟨g4, 0, none⟩) z.sets.length p4) z.sets) := Lib.hid ((HO6.out.keep rsigned_kept HBC.out (by omega)).toM rsigned_kept rsigned_more HMk.out (fun g hg => by cases hg; exact .inr (.inl rfl)) (by omega))
          have HH1 : Hid ([x].length + (z.sets.drop (k + 1)).length ≤ maxLen) := Lib.hid (by simp [maxLen]; omega)
          have HH2 : Hid (([x].length + (z.sets.drop (k + 1)).length) * 80 ≤ 140737488355328) := Lib.hid (by simp; omega)
          have HH3 : Hid (W6.heap.size ≤ (W6.alloc (.cells [.string s5, .int .i64 x.set.type, .int .i64 x.set.life, .slice Ad nd cd, .slice Ag ng cg].toArray 41)).drew.heap.size) := Lib.hid (by omega)
          have HH4 : Hid ((z.sets.take (k + 1)).length + ([x] ++ z.sets.drop (k + 1)).length ≤ maxLen) := Lib.hid (by simp [maxLen]; omega)
          have HH5 : Hid (((z.sets.take (k + 1)).length + ([x] ++ z.sets.drop (k + 1)).length) * 80 ≤ 140737488355328) := Lib.hid (by simp; omega)
          have HLD : Hid (z.sets.length - (k + 1) = (z.sets.drop (k + 1)).length) := Lib.hid (by simp)
          have HCS := Lib.hid hcs
          clear hbc hcs hbs hrow4 hce fz4
          go_upto_region 26 with fail
          rw [hkE, hK]
          clear hkE
          go_cut [12] (fun bad wx => bad = .slice (some ⟨gb, 0, none⟩) zs.length c3 ∧ Hid (Printed w gb zs.length c3 (zs.set i ⟨z.apex, z.sets.take (k + 1) ++ ([x] ++ z.sets.drop (k + 1))⟩) wx))
          case first =>
            obtain ⟨XA, hXA⟩ : ∃ XA : Option Addr, XA = if p4 = k + 1 then some ⟨g4, 0, none⟩ else some ⟨g4, (k + 1) * 5, none⟩ := ⟨_, rfl⟩
            have hsl : ∀ w, (Instr.slice 30 (.slice (some ⟨g4, 0, none⟩) z.sets.length p4) (some (.int .i64 ((k : Int) + 1))) none none).run Tryz.prog w = .ok (.slice XA (z.sets.length - (k + 1)) (p4 - (k + 1))) w := fun w => by
              rw [hXA]; exact slice_from w g4 z.sets.length p4 k hkn
            have HXA := Lib.hid hXA
            clear hXA
            have HC2 : Hid (RowsM RSigned 5 (fun k => k = gb ∨ k = g4 ∨ k = W6.heap.size) (W6.alloc (.cells [.string s5, .int .i64 x.set.type, .int .i64 x.set.life, .slice Ad nd cd, .slice Ag ng cg].toArray 41)).drew XA (z.sets.drop (k + 1))) := Lib.hid (HV4.out.tail hkn (fun h => by rw [HXA.out, if_neg (fun e => h (List.drop_eq_nil_of_le (by omega)))]))
            go_region_law (first | ((refine step_append_M2 (M := (fun k => k = gb ∨ k = g4 ∨ k = W6.heap.size)) _ (by rfl) (.tmp 129) (.tmp 136) 30 (by rfl) W6.heap.size 41 i1 (.agg #[.string ⟨#[]⟩, .int .i64 0, .int .i64 0, .slice none 0 0, .slice none 0 0]) 80 Tryz.underlying30 hj hy0 hy1 hy2 (by rfl) (by decide) _ [x] (by rfl) HC1.out XA (z.sets.length - (k + 1)) (p4 - (k + 1)) (z.sets.drop (k + 1)) HLD.out (by rfl) HC2.out (fun _ _ _ _ h => rsigned_one h) HH1.out HH2.out HH3.out rsigned_kept rsigned_sans rsigned_more ?_; intro v8 w8 ho8 hg8 hat8; replace hg8 : World.grownBy _ w8 (some W6.heap.size) := hg8; replace hat8 : Value.ownBlock v8 = some W6.heap.size ∨ Value.ownBlock v8 = some _ := hat8; have hbw := HBC.out.trans ((Below.refl _ _).grown hg8 HH3.out (fun k hk => by cases hk; exact Nat.le_refl _)); have q1 := (hbw.cell (p := ⟨gb, i * 2 + 1, none⟩) hgb6).trans k1; have q2 := (hbw.frozen (p := ⟨gb, i * 2 + 1, none⟩) hgb6).trans kff; have H8 := Lib.hid (And.intro ho8 (And.intro hbw hg8)); obtain ⟨A8, n8, c8, rfl, HN8⟩ := ho8.formN; have HQ : Hid (OwnM RSigned 5 41 w3.heap.size (fun k => (fun k => k = gb ∨ k = g4 ∨ k = W6.heap.size) k ∨ Value.ownBlock (.slice A8 n8 c8) = some k) w8 (.slice (some ⟨g4, 0, none⟩) (k + 1) p4) (z.sets.take (k + 1))) := Lib.hid ((HV4.out.front rfl hkn).leaves rsigned_kept rsigned_sans rsigned_more ((Leaves'.grown hg8 (fun k hk => by cases hk; exact .inr (.inr rfl))).more (hat_more hat8 (.inr (.inr rfl)))) (fun g hg => ⟨by cases hg; exact hg8.block g4 (by rw [← HCS.out]; omega) (by simp; omega), by cases hg; exact .inl (.inr (.inl rfl))⟩)); have HQ2 := Lib.hid ho8.rowsM; have HQ3 : Hid (w3.heap.size ≤ w8.heap.size) := Lib.hid (by have := hbw.size; omega); clear ho8 hg8 hat8 hbw)) | ((refine step_append_M2 (M := (fun k => (fun k => k = gb ∨ k = g4 ∨ k = W6.heap.size) k ∨ Value.ownBlock (.slice A8 n8 c8) = some k)) _ (by rfl) (.tmp 121) (.tmp 137) 30 (by rfl) w3.heap.size 41 i1 (.agg #[.string ⟨#[]⟩, .int .i64 0, .int .i64 0, .slice none 0 0, .slice none 0 0]) 80 Tryz.underlying30 hj hy0 hy1 hy2 (by rfl) (by decide) _ (z.sets.take (k + 1)) (by rfl) HQ.out A8 n8 c8 ([x] ++ z.sets.drop (k + 1)) HN8.out (by rfl) HQ2.out (fun _ _ _ _ h => rsigned_one h) HH4.out HH5.out HQ3.out rsigned_kept rsigned_sans rsigned_more ?_; intro v9 w9 ho9 hg9 hat9; replace hg9 : World.grownBy _ w9 (some g4) := hg9; have hblk := hg9.block gb (Nat.lt_of_lt_of_le hgb6 H8.out.2.1.size) (by simp; omega); have q3 := (World.cell?_of_block (a := ⟨gb, i * 2 + 1, none⟩) hblk).trans q1; have q4 := (World.frozen?_of_block (a := ⟨gb, i * 2 + 1, none⟩) hblk).trans q2; have H9 := Lib.hid (And.intro ho9 (And.intro hg9 (And.intro hblk hat9))); obtain ⟨A9, n9, c9, rfl, HN9⟩ := ho9.formN; clear ho9 hg9 hat9 hblk)))
            all_goals
              go_wp2_with fail
              go_meet
              case rel => exact ⟨rfl, Lib.hid (fin1 HROW.out HB6.out HC6.out H8.out.2.1 H9.out.2.1 H9.out.2.2.1 H9.out.1 (.inl (.inl (.inl rfl))) q3 hgb6 hgb0 hgb1 hg40 HGZ.out hc3 hn1 (by simp; omega) HBW6.out HBB.out.size)⟩
          case rest =>
            obtain ⟨rfl, HCUT⟩ := hcut
            have HPX := Lib.hid HCUT.out.1
            have HBX := Lib.hid HCUT.out.2
            have HP7 := Lib.hid (Np.refuse_twice HGZ.out HGX.out)
            go_wp2_with fail
            refine (print_at _ _ _ (HI.out.keep HBX.out) HPX.out HP7.out).mono ?_
            rintro e w8 ⟨rfl, hb8⟩
            have HB8 := Lib.hid hb8
            clear hb8
            go_wp2_with fail
            go_ret
            exact ⟨rfl, HBX.out.trans (HB8.out.mono HBX.out.size)⟩
      · have hn1' : (n == 0) = false := by simpa using hn0
        have hn2' : (n != 0) = true := by simpa using hn0
        have HN0 := Lib.hid hn0
        clear hn0
        go_wp2_with fail
        go_ret
        exact ⟨rfl, HBB.out⟩
end Go.Proofs.YtnbolgdccdnjeaaGreatDoor
/- PrinterRefuses: the walk, for every input. -/
namespace Go.Proofs.YtnbolgdccdnjeaaGreatDoor
open Go.RowKit
theorem refuse_walk (v : Value) (zs : List Np.Zone) (wh ta how : Int) (hwh0 : 0 ≤ wh) (hwh1 : wh ≤ 255) (hat0 : 0 ≤ ta) (hat1 : ta ≤ 65535) (hh0 : 0 ≤ how) (hh1 : how ≤ 255) (w : World) (hI : PrintIn w) (hz : SlR RZone 2 w w.heap.size v zs) :
    Calls Tryz.prog 4 #[v, .int .u8 wh, .int .u16 ta, .int .u8 how] w fun e w' => e = .returned (.bool true) ∧ Below w.heap.size w w' := by
  have h4 : how % 4 = 0 ∨ how % 4 = 1 ∨ how % 4 = 2 ∨ how % 4 = 3 := by omega
  rcases h4 with h | h | h | h
  · exact refuse_walk0 v zs wh ta how hwh0 hwh1 hat0 hat1 hh0 hh1 h w hI hz
  · exact refuse_walk1 v zs wh ta how hwh0 hwh1 hat0 hat1 hh0 hh1 h w hI hz
  · exact refuse_walk2 v zs wh ta how hwh0 hwh1 hat0 hat1 hh0 hh1 h w hI hz
  · exact refuse_walk3 v zs wh ta how hwh0 hwh1 hat0 hat1 hh0 hh1 h w hI hz
end Go.Proofs.YtnbolgdccdnjeaaGreatDoor
