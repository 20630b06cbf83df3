/- ParserJoins: the walk. -/
import Derived.Test.YtnbolgdccdnjeaaGreatDoorHead04
import Derived.Test.YtnbolgdccdnjeaaGreatDoorPC
import Derived.Deep.DeepCutAuto
import Derived.Deep.RegionHeld3
namespace Go.Proofs.YtnbolgdccdnjeaaGreatDoor
open Go.RowKit
theorem wpList_unguard {P : Program} {ops : Array Oper} {Q : Exit → Act → World → Prop} {a : Act} {w : World} {rest : List Oper} {o : Oper} (h : Region.wanted o (yielded ops a.tmps) = true) (hk : wpList P ops Q ({o with guard := none} :: rest) a w) : wpList P ops Q (o :: rest) a w := by
  unfold wpList at hk ⊢
  rw [if_pos h]
  rw [if_pos (by simp [Region.wanted])] at hk
  exact hk
theorem rzone_one {w : World} {B : Nat} {r : List Value} {y : Np.Zone} (h : RZone w B r y) : ∀ u ∈ r, u.oneCell' = true := by
  obtain ⟨s, v, _, _, hv, rfl⟩ := h
  obtain ⟨A, c, rfl, _, _⟩ := slr_form hv
  intro u hu
  simp only [List.mem_cons, List.not_mem_nil, or_false] at hu
  rcases hu with rfl | rfl <;> rfl
/-- No zone of the first k has the name of one of m. -/
def Apart (l m : List Np.Zone) (k : Nat) : Prop := ∀ i (hi : i < l.length), i < k → ∀ y ∈ m, l[i].apex ≠ y.apex
def ApartIn (x : Np.Zone) (m : List Np.Zone) (j : Nat) : Prop := ∀ i (hi : i < m.length), i < j → x.apex ≠ m[i].apex
theorem eq_apex {s t : ByteArray} {x y : List UInt8} (hs : s.data.toList = x) (ht : t.data.toList = y) : (s.toList = t.toList) ↔ x = y := by
  rw [ByteArray.toList_eq, ByteArray.toList_eq, hs, ht]
theorem file_len {size : Int} : ∀ (n : Nat) (r : List Np.Tok) (known : List (List UInt8)) (zones : List Np.Zone) (diags : List Np.Diag), r.length ≤ n → (Np.fileR size known zones diags r).1.length ≤ zones.length + r.length := by
  intro n
  induction n with
  | zero =>
    intro r known zones diags hn
    have : r = [] := List.eq_nil_of_length_eq_zero (by omega)
    subst this
    rw [Np.fileR, if_pos rfl]
    exact Nat.le_refl _
  | succ n ih =>
    intro r known zones diags hn
    rw [Np.fileR]
    split
    · dsimp only; omega
    · rcases hh : Np.headerR known r with ⟨known', x⟩
      cases x with
      | ok apex r' =>
        dsimp only
        rcases hb : Np.bodyR size apex [] [] diags r' with ⟨b, sets, diags', r''⟩
        cases b with
        | true =>
          dsimp only
          split
          · rename_i hlt
            have := ih r'' known' (zones ++ [⟨apex, sets⟩]) diags' (by omega)
            simp at this
            omega
          · dsimp only; omega
        | false => dsimp only; omega
      | err e r' =>
        dsimp only
        split
        · dsimp only; omega
        · split
          · rename_i hlt
            have := ih (Np.skipZ r') known' zones (diags ++ [⟨e, Np.posT size r'⟩]) (by omega)
            omega
          · dsimp only; omega
theorem parse_len {s : List UInt8} {l : List Np.Zone} {d : List Np.Diag} (h : Np.parse s = (l, d)) : l.length ≤ 2000 := by
  by_cases h0 : (Np.lex s).2.1 = 0
  · have hl := Np.lex_eta h0
    have h2 := (Np.lex_placed hl).2.2.1
    rw [Np.parse_of hl] at h
    have := file_len (size := s.length) _ (Np.lex s).1 [] [] [] (Nat.le_refl _)
    split at h
    · simp only [Prod.mk.injEq] at h
      rw [← h.1]
      simp at this
      omega
    · simp only [Prod.mk.injEq] at h
      rw [← h.1]
      simp
  · rw [Np.parse_bad h0] at h
    simp only [Prod.mk.injEq] at h
    rw [← h.1]
    simp
set_option maxRecDepth 100000 in
set_option maxHeartbeats 8000000 in
theorem pjoins_walk (a b : ByteArray) (ha : a.size ≤ 140737488355328) (hb : b.size ≤ 140737488355328) (w : World) (hI : ParIn w) :
    Calls Tryz.prog 10 #[.string a, .string b] w fun e w' => e = .returned (.bool true) ∧ Below w.heap.size w w' := by
  have HI := Lib.hid hI
  clear hI
  go_enter Tryz.func10, Tryz.ntmps10
  go_wp2_with fail
  refine (head04_any _ HI.out).mono ?_
  rintro e w0 ⟨rfl, hb0⟩
  have HB0 := Lib.hid hb0
  have HI0 := Lib.hid (HI.out.keep hb0)
  clear hb0
  by_cases h1 : 3900 < a.size
  · have h1I : (3900 : Int) < (a.size : Int) := by omega
    have h1B : decide ((3900 : Int) < (a.size : Int)) = true := by simpa using h1I
    go_wp2_with fail
    go_ret
    exact ⟨rfl, HB0.out⟩
  have h1I : ¬ (3900 : Int) < (a.size : Int) := by omega
  have h1B : decide ((3900 : Int) < (a.size : Int)) = false := by simpa using h1I
  by_cases h2 : 3900 < b.size
  · have h2I : (3900 : Int) < (b.size : Int) := by omega
    have h2B : decide ((3900 : Int) < (b.size : Int)) = true := by simpa using h2I
    go_wp2_with fail
    go_ret
    exact ⟨rfl, HB0.out⟩
  have h2I : ¬ (3900 : Int) < (b.size : Int) := by omega
  have h2B : decide ((3900 : Int) < (b.size : Int)) = false := by simpa using h2I
  rcases hpa : Np.parse a.data.toList with ⟨l, da⟩
  rcases hpb : Np.parse b.data.toList with ⟨m, eb⟩
  have HPA := Lib.hid hpa
  have HPB := Lib.hid hpb
  have hca := HI0.out.parse a ha hpa
  have HCA := Lib.hid hca
  clear hpa hpb hca
  go_wp2_with fail
  refine HCA.out.mono ?_
  rintro e w1 ⟨zva, dva, rfl, hza, hda, hb1⟩
  dsimp only at hza hda
  have HI1 := Lib.hid (HI0.out.keep hb1)
  have HB1 := Lib.hid (HB0.out.trans (hb1.mono HB0.out.size))
  have HZA := Lib.hid hza
  obtain ⟨Aa, ca, rfl, -, hla⟩ := slr_form hza
  obtain ⟨Ea, ea, rfl, -, -⟩ := slr_form hda
  clear hza hda hb1 HCA
  have hcb := HI1.out.parse b hb HPB.out
  have HCB := Lib.hid hcb
  clear hcb
  go_wp2_with fail
  refine HCB.out.mono ?_
  rintro e w2 ⟨zvb, dvb, rfl, hzb, hdb, hb2⟩
  dsimp only at hzb hdb
  have HI2 := Lib.hid (HI1.out.keep hb2)
  have HB2 := Lib.hid (HB1.out.trans (hb2.mono HB1.out.size))
  have HZA2 := Lib.hid (HZA.out.later rzone_kept rzone_more hb2)
  have HZB := Lib.hid hzb
  have HDB := Lib.hid hdb
  obtain ⟨Ab, cb, rfl, -, hlb⟩ := slr_form hzb
  obtain ⟨Eb, ec, rfl, -, -⟩ := slr_form hdb
  clear hzb hdb hb2 HCB HZA
  by_cases hda : da = []
  case neg =>
    have h0 : (0 : Int) < (da.length : Int) := by have := List.length_pos_iff.2 hda; omega
    obtain ⟨nda, hnda⟩ : ∃ n, n = da.length := ⟨_, rfl⟩
    rw [← hnda] at h0 ⊢
    clear hnda
    go_wp2_with fail
    go_ret
    exact ⟨rfl, HB2.out⟩
  subst hda
  rcases hpj : Np.parse (a.data.toList ++ 10 :: b.data.toList) with ⟨n, f⟩
  have HPJ := Lib.hid hpj
  have hcat : (a ++ ⟨#[10]⟩ ++ b).data.toList = a.data.toList ++ 10 :: b.data.toList := by
    rw [ByteArray.data_append, Array.toList_append, ByteArray.data_append, Array.toList_append]; simp
  have hcj := HI2.out.parse (a ++ ⟨#[10]⟩ ++ b) (by rw [ByteArray.size_append, ByteArray.size_append]; show a.size + 1 + b.size ≤ _; omega) (x := (n, f)) (by rw [hcat]; exact hpj)
  have HCJ := Lib.hid hcj
  have hq1 : ¬ (9223372036854775807 < a.size + 1) := by omega
  have hq2 : ¬ (9223372036854775807 < a.size + 1 + b.size) := by omega
  clear hcat hcj hpj
  simp only [List.length_nil]
  go_wp2_with fail
  refine HCJ.out.mono ?_
  rintro e w3 ⟨zvj, dvj, rfl, hzj, hdj, hb3⟩
  dsimp only at hzj hdj
  have HI3 := Lib.hid (HI2.out.keep hb3)
  have HB3 := Lib.hid (HB2.out.trans (hb3.mono HB2.out.size))
  have HZA3 := Lib.hid (HZA2.out.later rzone_kept rzone_more hb3)
  have HZB3 := Lib.hid (HZB.out.later rzone_kept rzone_more hb3)
  have HDB3 := Lib.hid (HDB.out.later rdiag_kept rdiag_more hb3)
  have HZJ := Lib.hid hzj
  have HDJ := Lib.hid hdj
  obtain ⟨Aj, cj, rfl, -, hlj⟩ := slr_form hzj
  obtain ⟨Ej, ej, rfl, -, -⟩ := slr_form hdj
  clear hzj hdj hb3 HCJ HZA2 HZB HDB hq1 hq2
  obtain ⟨C, hC⟩ : ∃ C : Bool, C = decide ((eb.length = 1 ∧ ∀ d ∈ eb, d.err ≠ 10) ∨ (f.length = 1 ∧ ∀ d ∈ f, d.err = 2)) := ⟨_, rfl⟩
  have HC := Lib.hid hC
  clear hC
  go_upto_region 9 with fail
  go_cut [69] (fun c wx => c = .bool C ∧ wx = w3)
  case first =>
    by_cases he1 : eb.length = 1
    · obtain ⟨d, rfl⟩ : ∃ d, eb = [d] := by
        cases eb with
        | nil => simp at he1
        | cons d r => cases r with
          | nil => exact ⟨d, rfl⟩
          | cons => simp at he1
      obtain ⟨q, o, c', hA, hqb, e0, e1⟩ := diag_at HDB3.out (k := 0) (d := d) rfl
      simp only [Nat.zero_mul, Nat.add_zero] at e0 e1
      cases hA
      clear he1
      simp only [List.length_singleton]
      by_cases he10 : d.err = 10
      · have hd10 : (d.err != 10) = false := by simp [he10]
        by_cases hf1 : f.length = 1
        · obtain ⟨g, rfl⟩ : ∃ g, f = [g] := by
            cases f with
            | nil => simp at hf1
            | cons g r => cases r with
              | nil => exact ⟨g, rfl⟩
              | cons => simp at hf1
          obtain ⟨q', o', c'', hA, hqb', g0, g1⟩ := diag_at HDJ.out (k := 0) (d := g) rfl
          simp only [Nat.zero_mul, Nat.add_zero] at g0 g1
          cases hA
          clear hf1
          simp only [List.length_singleton]
          by_cases hg2 : g.err = 2
          · have hg2I : (g.err == 2) = true := by simp [hg2]
            have HCC := Lib.hid (show C = true by rw [HC.out]; simp [hg2])
            clear he10 hg2
            go_wp2_with fail
            go_meet
            case rel => exact ⟨by rw [HCC.out], rfl⟩
          · have hg2I : (g.err == 2) = false := by simp [hg2]
            have HCC := Lib.hid (show C = false by rw [HC.out]; simp [hg2, he10])
            clear he10 hg2
            go_wp2_with fail
            go_meet
            case rel => exact ⟨by rw [HCC.out], rfl⟩
        · have hf1I : ((f.length : Int) == 1) = false := by simp; omega
          have HCC := Lib.hid (show C = false by rw [HC.out]; simp [hf1, he10])
          clear he10 hf1
          go_wp2_with fail
          go_meet
          case rel => exact ⟨by rw [HCC.out], rfl⟩
      · have hd10 : (d.err != 10) = true := by simp [he10]
        have HCC := Lib.hid (show C = true by rw [HC.out]; simp [he10])
        clear he10
        go_wp2_with fail
        go_meet
        case rel => exact ⟨by rw [HCC.out], rfl⟩
    · have he1I : ((eb.length : Int) == 1) = false := by simp; omega
      by_cases hf1 : f.length = 1
      · obtain ⟨g, rfl⟩ : ∃ g, f = [g] := by
          cases f with
          | nil => simp at hf1
          | cons g r => cases r with
            | nil => exact ⟨g, rfl⟩
            | cons => simp at hf1
        obtain ⟨q', o', c'', hA, hqb', g0, g1⟩ := diag_at HDJ.out (k := 0) (d := g) rfl
        simp only [Nat.zero_mul, Nat.add_zero] at g0 g1
        cases hA
        clear hf1
        simp only [List.length_singleton]
        by_cases hg2 : g.err = 2
        · have hg2I : (g.err == 2) = true := by simp [hg2]
          have HCC := Lib.hid (show C = true by rw [HC.out]; simp [hg2])
          clear he1 hg2
          go_wp2_with fail
          go_meet
          case rel => exact ⟨by rw [HCC.out], rfl⟩
        · have hg2I : (g.err == 2) = false := by simp [hg2]
          have HCC := Lib.hid (show C = false by rw [HC.out]; simp [hg2, he1])
          clear he1 hg2
          go_wp2_with fail
          go_meet
          case rel => exact ⟨by rw [HCC.out], rfl⟩
      · have hf1I : ((f.length : Int) == 1) = false := by simp; omega
        have HCC := Lib.hid (show C = false by rw [HC.out]; simp [hf1, he1])
        clear he1 hf1
        go_wp2_with fail
        go_meet
        case rel => exact ⟨by rw [HCC.out], rfl⟩
  case rest =>
    obtain ⟨rfl, hwx⟩ := hcut
    have hxw := Eq.symm hwx
    clear hwx
    subst hxw
    cases C with
    | true =>
      have hdj := (Np.parse_diags (a.data.toList ++ 10 :: b.data.toList)).2.2
      rw [HPJ.out] at hdj
      by_cases hn : n = []
      · subst hn
        clear hdj
        simp only [List.length_nil]
        go_wp2_with fail
        go_ret
        exact ⟨rfl, HB3.out⟩
      · have hf : f = [] := by
          rcases hdj with h | h
          · exact h
          · exact absurd h hn
        subst hf
        have hnI : ((n.length : Int) == 0) = false := by have := List.length_pos_iff.2 hn; simp; omega
        clear hdj hn
        simp only [List.length_nil]
        go_wp2_with fail
        go_ret
        exact ⟨rfl, HB3.out⟩
    | false =>
      have hnc := of_decide_eq_false HC.out.symm
      have hlaw := Np.parse_joins HPA.out (b := b.data.toList) (by rw [size_list, size_list]; omega) (by rw [HPB.out, HPJ.out]; exact hnc)
      rw [HPB.out, HPJ.out] at hlaw
      have HLAW := Lib.hid hlaw
      clear hnc hlaw HC
      have hl2 := parse_len HPA.out
      have hm2 := parse_len HPB.out
      go_wp2_with fail
      go_loopw [86] (fun i wr => ∃ k : Nat, k ≤ l.length ∧ i = .int .i64 k ∧ Hid (Below w3.heap.size w3 wr) ∧ Hid (Apart l m k)) (fun i _ => l.length - (intOf i).toNat)
      case atStart => exact ⟨0, Nat.zero_le _, rfl, Lib.hid (Below.refl _ _), Lib.hid (fun i _ h => by omega)⟩
      case round =>
        obtain ⟨k, hk, rfl, HB, HAP⟩ := hrel
        by_cases hlt : k < l.length
        · obtain ⟨q, o, c', sx, sv, hA, hqb, _, hsx, hszx, hsv, e0, e1⟩ := zone_at (HZA3.out.later rzone_kept rzone_more HB.out) (List.getElem?_eq_getElem hlt)
          cases hA
          obtain ⟨Sv, cs, rfl, -, -⟩ := slr_form hsv
          obtain ⟨x, hx⟩ : ∃ x, x = l[k] := ⟨_, rfl⟩
          have HMX := Lib.hid (show x ∈ l by rw [hx]; exact List.getElem_mem hlt)
          have HXK := Lib.hid (show l[k] = x from hx.symm)
          have HSX := Lib.hid (show sx.data.toList = x.apex by rw [hx]; exact hsx)
          have hkI : (k : Int) < (l.length : Int) := by omega
          have hk0 : (0 : Int) ≤ (k : Int) := by omega
          generalize l[k].sets.length = ns at *
          clear hx hsx hsv
          go_wp2_with fail
          obtain ⟨wz, hwz⟩ : ∃ wz, wz = wr.alloc (.cells #[.string sx, .slice Sv ns cs] 32) := ⟨_, rfl⟩
          have hbz : Below wr.heap.size wr wz := by rw [hwz]; exact (Below.refl _ _).alloc (Nat.le_refl _) _
          have x0 : wz.cell? ⟨wr.heap.size, 0, none⟩ = some (.string sx) := by rw [hwz, World.cell?_alloc_new]; rfl
          have hzz : wr.heap.size < wz.heap.size := by rw [hwz]; simp
          rw [← hwz]
          have HBZ := Lib.hid (HB.out.trans (hbz.mono HB.out.size))
          have HX0 := Lib.hid (And.intro x0 hzz)
          clear hwz hbz x0 hzz HB e0 e1
          generalize hbq : wr.heap.size = bz at *
          clear hbq
          go_loopw [92] (fun i wr => ∃ j : Nat, j ≤ m.length ∧ i = .int .i64 j ∧ Hid (Below wz.heap.size wz wr) ∧ Hid (ApartIn x m j)) (fun i _ => m.length - (intOf i).toNat)
          case atStart => exact ⟨0, Nat.zero_le _, rfl, Lib.hid (Below.refl _ _), Lib.hid (fun i _ h => by omega)⟩
          case round =>
            obtain ⟨j, hj, rfl, HBj, HAJ⟩ := hrel
            by_cases hjt : j < m.length
            · obtain ⟨q', o', c'', sy, sv', hA, hqb', _, hsy, hszy, hsv', g0, g1⟩ := zone_at ((HZB3.out.later rzone_kept rzone_more HBZ.out).later rzone_kept rzone_more HBj.out) (List.getElem?_eq_getElem hjt)
              cases hA
              obtain ⟨Sy, cy, rfl, -, -⟩ := slr_form hsv'
              obtain ⟨y, hy⟩ : ∃ y, y = m[j] := ⟨_, rfl⟩
              have HMY := Lib.hid (show y ∈ m by rw [hy]; exact List.getElem_mem hjt)
              have HYJ := Lib.hid (show m[j] = y from hy.symm)
              have HSY := Lib.hid (show sy.data.toList = y.apex by rw [hy]; exact hsy)
              have y0 := (HBj.out.cell (p := ⟨bz, 0, none⟩) HX0.out.2).trans HX0.out.1
              have hzj : bz < wr.heap.size := Nat.lt_of_lt_of_le HX0.out.2 HBj.out.size
              have hjI : (j : Int) < (m.length : Int) := by omega
              have hj0 : (0 : Int) ≤ (j : Int) := by omega
              generalize m[j].sets.length = ms at *
              clear hy hsy hsv'
              by_cases hxy : x.apex = y.apex
              · have heq : sx.toList = sy.toList := (eq_apex HSX.out HSY.out).2 hxy
                have heqB : (sx.toList == sy.toList) = true := beq_iff_eq.2 heq
                have hf := HLAW.out.1 ⟨x, HMX.out, y, HMY.out, hxy⟩
                have hfI : (0 : Int) < (f.length : Int) := by have := List.length_pos_iff.2 hf; omega
                have HBE := Lib.hid (HB3.out.trans ((HBZ.out.trans ((HBj.out.alloc HBj.out.size (.cells #[.string sy, .slice Sy ms cy] 32)).mono HBZ.out.size)).mono HB3.out.size))
                have HF0 := Lib.hid (decide_eq_true (List.length_pos_iff.2 hf))
                clear hxy hf
                go_wp2_with fail
                go_ret
                exact ⟨by show Ending.returned (.bool (decide (0 < f.length))) = _; rw [HF0.out], HBE.out⟩
              · have heq : ¬ sx.toList = sy.toList := fun e => hxy ((eq_apex HSX.out HSY.out).1 e)
                have heqB : (sx.toList == sy.toList) = false := beq_eq_false_iff_ne.2 heq
                have HXY := Lib.hid hxy
                clear hxy
                go_wp2_with fail
                go_roundw
                case rel =>
                  refine ⟨j + 1, by omega, by go_num, Lib.hid (HBj.out.alloc HBj.out.size _), Lib.hid (fun i hi h => ?_)⟩
                  by_cases e : i = j
                  · subst e; rw [HYJ.out]; exact HXY.out
                  · exact HAJ.out i hi (by omega)
                case measure => simp [intOf] <;> omega
            · have HBN := Lib.hid (HBZ.out.trans (HBj.out.mono HBZ.out.size))
              go_wp2_with fail
              go_roundw
              case rel =>
                refine ⟨k + 1, by omega, by go_num, HBN, Lib.hid (fun i hi h y hy => ?_)⟩
                by_cases e : i = k
                · subst e
                  rw [HXK.out]
                  obtain ⟨jj, hjj, rfl⟩ := List.mem_iff_getElem.1 hy
                  exact HAJ.out jj hjj (by omega)
                · exact HAP.out i hi (by omega) y hy
              case measure => simp [intOf] <;> omega
        · have hd : ∀ x ∈ l, ∀ y ∈ m, x.apex ≠ y.apex := fun x hx y hy => by
            obtain ⟨i, hi, rfl⟩ := List.mem_iff_getElem.1 hx
            exact HAP.out i hi (by omega) y hy
          have HD := Lib.hid hd
          have HA1 := Lib.hid (HZA3.out.later rzone_kept rzone_more HB.out)
          have HA2 := Lib.hid (HZB3.out.later rzone_kept rzone_more HB.out)
          have HJ := Lib.hid (HZJ.out.later rzone_kept rzone_more HB.out)
          have HE := Lib.hid (HDB3.out.later rdiag_kept rdiag_more HB.out)
          have HF := Lib.hid (HDJ.out.later rdiag_kept rdiag_more HB.out)
          have HBA := Lib.hid (HB3.out.trans (HB.out.mono HB3.out.size))
          have hkI : ¬ (k : Int) < (l.length : Int) := by omega
          clear hd HAP hlt HB HZA3 HZB3 HZJ HDB3 HDJ
          generalize hwr : wr = wa at *
          clear hwr
          by_cases heb : eb = []
          · subst heb
            have hlw := HLAW.out.2.1 HD.out rfl
            simp only [Prod.mk.injEq] at hlw
            obtain ⟨hn, hf⟩ := hlw
            subst hf
            subst hn
            have hal : Below wa.heap.size wa (wa.alloc (.cells #[] 32)) := (Below.refl _ _).alloc (Nat.le_refl _) _
            have HAL := Lib.hid hal
            obtain ⟨i0, hi, hz0, hz1, hz2⟩ := info_parts Tryz.infoZoneQ
            clear hal
            simp only [List.length_nil]
            go_wp2_with (first
              | (at_builtin; refine wpList_unguard rfl ?_; refine wpList_append_R _ rfl _ _ 22 rfl wa.heap.size wa.heap.size 32 i0 (.agg #[.string ⟨#[]⟩, .slice none 0 0]) 40 Tryz.underlying22 hi hz0 hz1 hz2 rfl (by decide) _ [] rfl (OwnR.empty (R := RZone) (sz := 2) wa (Nat.le_refl _)) Aa ca wa.heap.size l rfl (HA1.out.keep rzone_kept HAL.out) (fun _ _ h => rzone_one h) (by simp [maxLen]; omega) (by simp; omega) (by simp) (Nat.le_refl _) (Nat.le_refl _) rzone_kept rzone_more ?_; intro v5 w5 ho5 hb5 hg5; have H5 := Lib.hid (And.intro ho5 (And.intro (HAL.out.trans hb5) (show wa.heap.size ≤ w5.heap.size from (HAL.out.trans hb5).size))); clear ho5 hb5 hg5; dsimp only)
              | (at_builtin; refine wpList_unguard rfl ?_; refine wpList_append_R _ rfl _ _ 22 rfl wa.heap.size wa.heap.size 32 i0 (.agg #[.string ⟨#[]⟩, .slice none 0 0]) 40 Tryz.underlying22 hi hz0 hz1 hz2 rfl (by decide) _ _ rfl H5.out.1 Ab cb wa.heap.size m rfl (HA2.out.keep rzone_kept H5.out.2.1) (fun _ _ h => rzone_one h) (by simp [maxLen]; omega) (by simp; omega) H5.out.2.2 (Nat.le_refl _) (Nat.le_refl _) rzone_kept rzone_more ?_; intro v4 w4 ho4 hb4 hg4; have H4 := Lib.hid (And.intro ho4 (H5.out.2.1.trans hb4)); clear ho4 hb4 hg4; dsimp only))
            have h41 := OwnR.slr H4.out.1 rzone_more H4.out.2.size (by simp; omega)
            have hnz : (([] ++ l : List Np.Zone) ++ m) = l ++ m := by simp
            rw [hnz] at h41
            have hj4 := HJ.out.later rzone_kept rzone_more H4.out.2
            rw [List.length_append] at hj4
            have HJ4 := Lib.hid hj4
            clear hj4
            refine (sameZones_yes _ _ (l ++ m) _ (fun z hz => by
              rcases List.mem_append.1 hz with h | h
              · exact pplain0_parse HPA.out z h
              · exact pplain0_parse HPB.out z h) HJ4.out h41).mono ?_
            rintro e w6 ⟨rfl, hb6⟩
            have HB6 := Lib.hid (HBA.out.trans ((H4.out.2.trans (hb6.mono H4.out.2.size)).mono HBA.out.size))
            clear hb6 h41
            go_wp2_with fail
            go_ret
            exact ⟨rfl, HB6.out⟩
          · obtain ⟨hn, d2, r2, d, r, hf, he, hp1, hp2⟩ := HLAW.out.2.2 heb
            rw [size_list] at hp1 hp2
            subst hf
            subst he
            subst hn
            clear heb
            obtain ⟨q, o, c', hA, hqb, e0, e1⟩ := diag_at HE.out (k := 0) (d := d) rfl
            simp only [Nat.zero_mul, Nat.add_zero] at e0 e1
            cases hA
            obtain ⟨q', o', c'', hA, hqb', g0, g1⟩ := diag_at HF.out (k := 0) (d := d2) rfl
            simp only [Nat.zero_mul, Nat.add_zero] at g0 g1
            cases hA
            have hpd := (Np.parse_diags b.data.toList).1.2 d (by rw [HPB.out]; exact List.mem_cons_self)
            rw [size_list] at hpd
            have hw1 : IntKind.i64.wrap (d.pos + (a.size : Int)) = d.pos + a.size := IntWalk.i64_in _ (by omega)
            have hw2 : IntKind.i64.wrap (d.pos + (a.size : Int) + 1) = d.pos + a.size + 1 := IntWalk.i64_in _ (by omega)
            have hp1B : decide ((a.size : Int) < d2.pos) = true := by simpa using hp1
            have hp2B : decide (d2.pos ≤ d.pos + a.size + 1) = true := by simpa using hp2
            obtain ⟨nf, hnf⟩ : ∃ nf, nf = (d2 :: r2).length := ⟨_, rfl⟩
            obtain ⟨ne, hne⟩ : ∃ ne, ne = (d :: r).length := ⟨_, rfl⟩
            have hf0 : (0 : Int) < (nf : Int) := by rw [hnf]; simp
            have hf0B : decide (0 < nf) = true := by rw [hnf]; simp
            have hf0N : 0 < nf := by rw [hnf]; simp
            have he0N : 0 < ne := by rw [hne]; simp
            have he0 : ((ne : Int) == 0) = false := by rw [hne]; simp; omega
            rw [← hnf, ← hne]
            clear hnf hne
            simp only [List.length_nil]
            go_wp2_with fail
            go_quiet (fail)
            go_wp2_with fail
            go_ret
            exact ⟨rfl, by first | exact HBA.out | exact below_drewN HBA.out _⟩
end Go.Proofs.YtnbolgdccdnjeaaGreatDoor
