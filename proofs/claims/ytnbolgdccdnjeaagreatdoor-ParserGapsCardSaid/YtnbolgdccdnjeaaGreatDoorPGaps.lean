/- ParserGaps: the walk. -/
import Derived.Test.YtnbolgdccdnjeaaGreatDoorHead04
import Derived.Deep.DeepCutAuto
import Derived.Deep.RegionHeld3
namespace Go.Proofs.YtnbolgdccdnjeaaGreatDoor
open Go.RowKit
/-- A gap, of a few bytes. -/
def PGapS (g : ByteArray) : Prop := Np.IsGap g.data.toList ∧ g.size ≤ 15
/-- Where the gap stands: before a token, or at the end. -/
def PGapAt (l : List Np.Tok) (k : Nat) (n a : Nat) : Prop := (∃ t, l[k]? = some t ∧ t.pos = (a : Int)) ∨ k = l.length ∧ a = n
theorem ptok_at {w : World} {B : Nat} {v : Value} {xs : List Np.Tok} (h : SlR RTok 4 w B v xs) {k : Nat} {t : Np.Tok} (ht : xs[k]? = some t) : ∃ b o c, v = .slice (some ⟨b, o, none⟩) xs.length c ∧ b < B ∧ w.cell? ⟨b, o + k * 4 + 3, none⟩ = some (.int .i64 t.pos) := by
  obtain ⟨b, o, c, h1, h2, _, _, _, _, h3⟩ := tokP_at h ht
  exact ⟨b, o, c, h1, h2, h3⟩
set_option maxRecDepth 100000 in
set_option maxHeartbeats 4000000 in
theorem pgaps_walk (s : ByteArray) (hs : s.size ≤ 140737488355328) (wh kd : Int) (b1 : 0 ≤ wh) (b2 : wh ≤ 65535) (b3 : 0 ≤ kd) (b4 : kd ≤ 255) (w : World) (hI : ParIn w) :
    Calls Tryz.prog 8 #[.string s, .int .u16 wh, .int .u8 kd] w fun e w' => e = .returned (.bool true) ∧ Below w.heap.size w w' := by
  have HI := Lib.hid hI
  clear hI
  go_enter Tryz.func8, Tryz.ntmps8
  go_wp2_with fail
  refine (head04_any _ HI.out).mono ?_
  rintro e w0 ⟨rfl, hb0⟩
  have HB0 := Lib.hid hb0
  have HI0 := Lib.hid (HI.out.keep hb0)
  clear hb0
  by_cases h79 : 7900 < s.size
  · have h79I : (7900 : Int) < (s.size : Int) := by omega
    go_wp2_with fail
    go_ret
    exact ⟨rfl, HB0.out⟩
  have h79I : ¬ (7900 : Int) < (s.size : Int) := by omega
  go_wp2_with fail
  refine (lex_any s hs _ HI0.out.err).mono ?_
  generalize hla : Np.lex s.data.toList = ra
  have HLA := Lib.hid hla
  clear hla
  obtain ⟨l, ea, qa⟩ := ra
  rintro e w1 ⟨v1, rfl, hx1, hb1⟩
  have HX1 := Lib.hid hx1
  have HI1 := Lib.hid (HI0.out.keep hb1)
  have HB1 := Lib.hid (HB0.out.trans (hb1.mono HB0.out.size))
  obtain ⟨A1, c1, rfl, hc1, hl1, _⟩ := hx1
  clear hb1
  simp only at hc1 hl1 ⊢
  by_cases h0 : ea = 0
  case neg =>
    have h0I : (ea != 0) = true := by simpa using h0
    go_wp2_with fail
    go_ret
    exact ⟨rfl, HB1.out⟩
  subst h0
  have h2 : l.length ≤ 2000 := (Np.lex_placed HLA.out).2.2.1
  have h2I : (l.length : Int) ≤ 2000 := by omega
  go_upto_region 8 with fail
  go_cut [12] (fun g wx => ∃ G : ByteArray, g = .string G ∧ Hid (PGapS G) ∧ Hid (Below w1.heap.size w1 wx))
  case first =>
    have hm : kd % 4 = 0 ∨ kd % 4 = 1 ∨ kd % 4 = 2 ∨ kd % 4 = 3 := by omega
    rcases hm with hm | hm | hm | hm
    all_goals
      go_wp2_with fail
      go_meet
      case rel => exact ⟨_, rfl, by first | exact Lib.hid ⟨Np.pgap0, by decide⟩ | exact Lib.hid ⟨Np.pgap1, by decide⟩ | exact Lib.hid ⟨Np.pgap2, by decide⟩ | exact Lib.hid ⟨Np.pgap3, by decide⟩, Lib.hid ((Below.refl _ _).alloc (Nat.le_refl _) _)⟩
  case rest =>
    obtain ⟨G, rfl, HG, HBx⟩ := hcut
    obtain ⟨k, hkE⟩ : ∃ k : Nat, wh % ((l.length : Int) + 1) = (k : Int) := ⟨(wh % ((l.length : Int) + 1)).toNat, (Int.toNat_of_nonneg (Int.emod_nonneg _ (by omega))).symm⟩
    have hkl : k ≤ l.length := by have := Int.emod_lt_of_pos wh (show (0 : Int) < (l.length : Int) + 1 by omega); omega
    go_upto_region 10 with fail
    rw [hkE]
    generalize wh % ((l.length : Int) + 1) = z at hkE
    clear hkE z
    have HXc := Lib.hid ((HX1.out.keep rtok_kept HBx.out).more rtok_more HBx.out.size)
    have HBc := Lib.hid (HB1.out.trans (HBx.out.mono HB1.out.size))
    have HIc := Lib.hid (HI1.out.keep HBx.out)
    go_upto_if 55 with fail
    go_cut [14] (fun va wx => ∃ a : Nat, va = .int .i64 a ∧ a ≤ s.size ∧ Hid (PGapAt l k s.size a) ∧ wx = wc)
    case first =>
      by_cases hlt : k < l.length
      · obtain ⟨b, o, c', hA, hbb, a3⟩ := ptok_at HXc.out (List.getElem?_eq_getElem hlt)
        simp only [Value.slice.injEq] at hA
        obtain ⟨rfl, _, rfl⟩ := hA
        have ht := List.getElem?_eq_getElem hlt
        obtain ⟨p1, p2⟩ := (Np.lex_placed HLA.out).1.2 l[k] (List.getElem_mem hlt)
        rw [size_list] at p2
        generalize l[k] = t at *
        obtain ⟨p, hp⟩ : ∃ p : Nat, t.pos = p := ⟨t.pos.toNat, by omega⟩
        rw [hp] at a3
        have hps : p ≤ s.size := by omega
        have HAT : Hid (PGapAt l k s.size p) := Lib.hid (.inl ⟨t, ht, hp⟩)
        have hkI : (k : Int) < (l.length : Int) := by omega
        clear ht hp p1 p2
        go_wp2_with fail
        go_meet
        case rel => exact ⟨p, rfl, hps, HAT, rfl⟩
      · have HAT : Hid (PGapAt l k s.size s.size) := Lib.hid (.inr ⟨by omega, rfl⟩)
        have hkI : ¬ (k : Int) < (l.length : Int) := by omega
        go_wp2_with fail
        go_meet
        case rel => exact ⟨s.size, rfl, Nat.le_refl _, HAT, rfl⟩
    case rest =>
      obtain ⟨a, rfl, ha, HA, rfl⟩ := hcut
      have haI : ¬ (s.size : Int) < (a : Int) := by omega
      have haJ : ¬ (a : Int) < 0 := by omega
      have hg15 := HG.out.2
      rcases hp : Np.parse s.data.toList with ⟨zs, ds⟩
      have hpar := HIc.out.parse s hs hp
      have HPAR := Lib.hid hpar
      have hcat : (s.extract 0 a ++ G ++ s.extract a s.size).data.toList = s.data.toList.take a ++ G.data.toList ++ s.data.toList.drop a := by
        rw [ByteArray.data_append, Array.toList_append, ByteArray.data_append, Array.toList_append, ext_to, ext_from]
      have hgap := Np.parse_gap HG.out.1 HLA.out (by rw [size_list, size_list]; omega) (k := k) (a := a) (by
        rcases HA.out with h | ⟨h, h'⟩
        · exact .inl h
        · exact .inr ⟨h, by rw [size_list]; exact h'⟩)
      rw [← hcat, hp, size_list] at hgap
      have HGP := Lib.hid hgap
      have HPP := Lib.hid hp
      have hcs : (s.extract 0 a ++ G ++ s.extract a s.size).size ≤ 140737488355328 := by
        rw [ByteArray.size_append, ByteArray.size_append, ByteArray.size_extract, ByteArray.size_extract]; omega
      have HCS := Lib.hid hcs
      clear hcs hgap hcat hp hpar
      go_wp2_with fail
      refine HPAR.out.mono ?_
      rintro e w3 ⟨zv, dv, rfl, hzv, hdv, hb3⟩
      dsimp only at hzv hdv
      have HI3 := Lib.hid (HIc.out.keep hb3)
      have HB3 := Lib.hid (HBc.out.trans (hb3.mono HBc.out.size))
      have HZ3 := Lib.hid hzv
      have HD3 := Lib.hid hdv
      obtain ⟨Az, cz, rfl, -, -⟩ := slr_form hzv
      obtain ⟨Ad, cd, rfl, -, -⟩ := slr_form hdv
      clear hzv hdv hb3 HPAR
      have hq1 : ¬ (9223372036854775807 < a + G.size) := by omega
      have hq2 : ¬ (9223372036854775807 < a + G.size + (s.size - a)) := by omega
      obtain ⟨nz, hnz⟩ : ∃ nz, nz = zs.length := ⟨_, rfl⟩
      obtain ⟨nd, hnd⟩ : ∃ nd, nd = ds.length := ⟨_, rfl⟩
      rw [← hnz] at HZ3 ⊢
      rw [← hnd] at HD3 ⊢
      have HNZ := Lib.hid hnz
      have HND := Lib.hid hnd
      clear hnz hnd
      have HDK := Lib.hid (Np.parse_diags s.data.toList)
      go_upto_region 16 with fail
      go_region_held3 (fun _ => True) (trivial)
        (first
          | (go_at_call 23; refine ((HI3.out.keep ((Below.refl _ _).drew)).parse _ HCS.out HGP.out).mono ?_; rintro e w4 ⟨zv2, dv2, rfl, hz4, hd4, hb4⟩; have HZ4 := Lib.hid hz4; have HD4 := Lib.hid hd4; have HB4 := Lib.hid hb4; clear hb4; obtain ⟨A4, c4, rfl, _, _⟩ := slr_form hz4; obtain ⟨D4, e4, rfl, _, _⟩ := slr_form hd4; clear hz4 hd4))
      have HBd := Lib.hid (HB3.out.drew.trans (HB4.out.mono (by have := HB3.out.size; simpa using this)))
      have HB34 : Hid (Below w3.heap.size w3 w4) := Lib.hid (((Below.refl w3.heap.size w3).drew).trans (HB4.out.mono (by simp)))
      have HZ3' := Lib.hid (HZ3.out.later rzone_kept rzone_more HB34.out)
      have HD3' := Lib.hid (HD3.out.later rdiag_kept rdiag_more HB34.out)
      have hl4 : (ds.map (Np.mvD (Np.sh a G.size))).length = nd := by rw [List.length_map]; exact HND.out.symm
      rw [hl4] at HD4
      rw [← HND.out, ← HNZ.out]
      rw [← HNZ.out] at HZ4
      have hnn : ((nd : Int) != (nd : Int)) = false := by simp
      clear hl4 HB4 HB34 HZ3 HD3
      go_wp2_with fail
      refine (sameZones_yes _ _ zs _ (pplain0_parse HPP.out) HZ3'.out HZ4.out).mono ?_
      rintro e w5 ⟨rfl, hb5⟩
      have HD5 := Lib.hid (HD3'.out.later rdiag_kept rdiag_more hb5)
      have HF5 := Lib.hid (HD4.out.later rdiag_kept rdiag_more hb5)
      have HB5 := Lib.hid (HBd.out.trans (hb5.mono HBd.out.size))
      clear hb5 HZ3' HZ4 HD3' HD4 HBd hq1 hq2 hnn
      go_wp2_with fail
      go_loopw [100] (fun i wr => ∃ k : Nat, k ≤ nd ∧ i = .int .i64 k ∧ Hid (Below w5.heap.size w5 wr)) (fun i _ => nd - (intOf i).toNat)
      case atStart => exact ⟨0, Nat.zero_le _, rfl, Lib.hid (Below.refl _ _)⟩
      case round =>
        obtain ⟨j, hj, rfl, HB⟩ := hrel
        have hnd20 : nd ≤ 20 := by have := HDK.out.2.1; rw [HPP.out] at this; rw [HND.out]; exact this
        by_cases hlt : j < nd
        · have hjd : j < ds.length := by rw [← HND.out]; exact hlt
          have hd5 := HD5.out
          rw [HND.out] at hd5
          obtain ⟨b, o, c', hA, hbb, a0, a1⟩ := diag_at (hd5.later rdiag_kept rdiag_more HB.out) (List.getElem?_eq_getElem hjd)
          simp only [Value.slice.injEq] at hA
          obtain ⟨rfl, _, rfl⟩ := hA
          have hf5 := HF5.out
          have hfd : (ds.map (Np.mvD (Np.sh a G.size)))[j]? = some (Np.mvD (Np.sh a G.size) ds[j]) := by rw [List.getElem?_map, List.getElem?_eq_getElem hjd]; rfl
          rw [show nd = (ds.map (Np.mvD (Np.sh a G.size))).length by rw [List.length_map]; exact HND.out] at hf5
          obtain ⟨b', o', c'', hA, hbb', f0, f1⟩ := diag_at (hf5.later rdiag_kept rdiag_more HB.out) hfd
          simp only [Value.slice.injEq] at hA
          obtain ⟨rfl, _, rfl⟩ := hA
          have hps := HDK.out.1.2 ds[j] (by rw [HPP.out]; exact List.getElem_mem hjd)
          rw [size_list] at hps
          obtain ⟨x, hx⟩ : ∃ x, x = ds[j] := ⟨_, rfl⟩
          rw [← hx] at a0 a1 f0 f1 hps
          simp only [Np.mvD] at f0 f1
          have hjI : (j : Int) < (nd : Int) := by omega
          have hj0 : (0 : Int) ≤ (j : Int) := by omega
          obtain ⟨_, p1, p2⟩ := hps
          clear hx hfd hf5 hd5
          by_cases hge : (a : Int) ≤ x.pos
          · have hsh : Np.sh a G.size x.pos = x.pos + G.size := by unfold Np.sh; rw [if_pos hge]
            rw [hsh] at f1
            have hw : IntKind.i64.wrap (x.pos + (G.size : Int)) = x.pos + G.size := IntWalk.i64_in _ (by omega)
            clear hsh
            go_wp2_with fail
            go_quiet (fail)
            go_wp2_with fail
            go_roundw
            case rel => exact ⟨j + 1, by omega, by go_num, Lib.hid (below_drewN HB.out _)⟩
            case measure => simp [intOf] <;> omega
          · have hsh : Np.sh a G.size x.pos = x.pos := by unfold Np.sh; rw [if_neg hge]
            rw [hsh] at f1
            have hw : IntKind.i64.wrap x.pos = x.pos := IntWalk.i64_in _ (by omega)
            clear hsh
            go_wp2_with fail
            go_quiet (fail)
            go_wp2_with fail
            go_roundw
            case rel => exact ⟨j + 1, by omega, by go_num, Lib.hid (below_drewN HB.out _)⟩
            case measure => simp [intOf] <;> omega
        · go_wp2_with fail
          go_ret
          exact ⟨rfl, HB5.out.trans (HB.out.mono HB5.out.size)⟩
end Go.Proofs.YtnbolgdccdnjeaaGreatDoor
