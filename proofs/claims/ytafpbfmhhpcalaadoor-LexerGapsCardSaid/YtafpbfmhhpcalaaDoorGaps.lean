/- LexerGaps: the walk. -/
import Derived.Test.YtafpbfmhhpcalaaDoorErrors
import Derived.Test.YtafpbfmhhpcalaaDoorLexPlain3
import Derived.Deep.DeepCutAuto
import Derived.Deep.RegionHeld3
namespace Go.Proofs.YtafpbfmhhpcalaaDoor
open Go.RowKit
/-- A gap, of a few bytes. -/
def GapS (g : ByteArray) : Prop := Np.IsGap g.data.toList ∧ g.size ≤ 15
theorem gap_feedS {g : ByteArray} (h : GapS g) (h2 : g.size ≤ 15) : Np.IsGap ((⟨#[10]⟩ : ByteArray) ++ g).data.toList ∧ ((⟨#[10]⟩ : ByteArray) ++ g).size ≤ 20 := by
  have e : ((⟨#[10]⟩ : ByteArray) ++ g).data.toList = 10 :: g.data.toList := by simp
  refine ⟨by rw [e]; exact Np.gap_feed h.1, ?_⟩
  rw [← size_list, e, List.length_cons, size_list]; omega
theorem lastIdx_in (s : ByteArray) (c : Int) : ∀ n, -1 ≤ Lib.lastIdx s c n ∧ Lib.lastIdx s c n < (n : Int) ∨ n = 0 ∧ Lib.lastIdx s c n = -1 := by
  intro n
  induction n with
  | zero => right; simp [Lib.lastIdx]
  | succ n ih => left; unfold Lib.lastIdx; split <;> omega
theorem slr_grow {w : World} {v : Value} {xs : List Np.Tok} (h : SlR RTok 4 w w.heap.size v xs) (g : Grow w) : SlR RTok 4 g.w g.w.heap.size v xs := (h.keep rtok_kept g.2).more rtok_more g.2.size
theorem slr_front {w : World} {B : Nat} {A : Option Addr} {n c k : Nat} {xs ys : List Np.Tok} (h : SlR RTok 4 w B (.slice A n c) (xs ++ ys)) (hk : xs.length = k) : SlR RTok 4 w B (.slice A k c) xs := by
  subst hk; exact slr_take h
theorem slr_back {w : World} {B : Nat} {A : Option Addr} {n c k m : Nat} {xs ys : List Np.Tok} (h : SlR RTok 4 w B (.slice A n c) (xs ++ ys)) (hk : xs.length = k) (hm : ys.length = m) : SlR RTok 4 w B (.slice (if c = k then A else A.map (·.add (k * 4))) m (c - k)) ys := by
  obtain ⟨A', c', hv, hc, hl, he⟩ := h
  simp only [Value.slice.injEq] at hv
  obtain ⟨rfl, rfl, rfl⟩ := hv
  subst hk hm
  simp only [List.length_append] at hc hl
  refine ⟨_, _, rfl, by omega, by omega, fun i x hx => ?_⟩
  have hi := (List.getElem?_eq_some_iff.1 hx).1
  obtain ⟨b', o', e, hA, h1, h2, h3, h4⟩ := he (xs.length + i) x (by rw [List.getElem?_append_right (by omega), Nat.add_sub_cancel_left]; exact hx)
  subst hA
  rw [if_neg (by omega)]
  refine ⟨b', o' + xs.length * 4, e, by simp [Addr.add], h1, h2, ?_, h4⟩
  rw [show o' + xs.length * 4 + i * 4 = o' + (xs.length + i) * 4 by omega]
  exact h3
/-- Where the gap stands: before a token, or at the end. -/
def GapAt (l : List Np.Tok) (k : Nat) (n a : Nat) : Prop := (∃ t, l[k]? = some t ∧ t.pos = (a : Int)) ∨ k = l.length ∧ a = n
set_option maxRecDepth 100000 in
set_option maxHeartbeats 4000000 in
theorem gaps_walk (s : ByteArray) (hs : s.size ≤ 140737488355328) (wh kd : Int) (b1 : 0 ≤ wh) (b2 : wh ≤ 255) (b3 : 0 ≤ kd) (b4 : kd ≤ 255) (w : World) (hE : ErrIn w) :
    Calls Tryd.prog 9 #[.string s, .int .u8 wh, .int .u8 kd] w fun e w' => e = .returned (.bool true) ∧ Below w.heap.size w w' := by
  have HE := Lib.hid hE
  clear hE
  go_enter Tryd.func9, Tryd.ntmps9
  go_wp2_with fail
  refine (head03_any _ HE.out).mono ?_
  rintro e w0 ⟨rfl, hb0⟩
  have HB0 := Lib.hid hb0
  clear hb0
  go_wp2_with fail
  refine (lex_any s hs _ (HE.out.keep HB0.out)).mono ?_
  generalize hla : Np.lex s.data.toList = ra
  have HLA := Lib.hid hla
  clear hla
  obtain ⟨l, ea, qa⟩ := ra
  rintro e w1 ⟨v1, rfl, hx1, hb1⟩
  have HX1 := Lib.hid hx1
  have HB1 := Lib.hid (HB0.out.trans (hb1.mono HB0.out.size))
  obtain ⟨A1, c1, rfl, hc1, hl1, _⟩ := hx1
  clear hb1
  simp only at hc1 hl1 ⊢
  by_cases h0 : ea = 0
  · subst h0
    have h8 := (Np.lex_ok HLA.out).1
    rw [size_list] at h8
    have h2 : l.length ≤ 2000 := by
      have := (Np.lex_place _ s.data.toList 0 0 (Nat.le_refl _) (by omega)).2.2.1
      rw [(Np.lex_ok HLA.out).2] at this; simpa using this
    have h2I : (l.length : Int) ≤ 2000 := by omega
    go_upto_region 5 with fail
    go_cut [11] (fun g wx => ∃ G : ByteArray, g = .string G ∧ Hid (GapS G) ∧ Hid (Below w1.heap.size w1 wx))
    case first =>
      have hm : kd % 5 = 0 ∨ kd % 5 = 1 ∨ kd % 5 = 2 ∨ kd % 5 = 3 ∨ kd % 5 = 4 := by omega
      rcases hm with hm | hm | hm | hm | hm
      all_goals
        go_wp2_with fail
        go_meet
        case rel => exact ⟨_, rfl, by first | exact Lib.hid ⟨Np.gap0, by decide⟩ | exact Lib.hid ⟨Np.gap1, by decide⟩ | exact Lib.hid ⟨Np.gap2, by decide⟩ | exact Lib.hid ⟨Np.gap3, by decide⟩ | exact Lib.hid ⟨Np.gap4, by decide⟩, Lib.hid ((Below.refl _ _).alloc (Nat.le_refl _) _)⟩
    case rest =>
      obtain ⟨G, rfl, HG, HBx⟩ := hcut
      go_upto_region 7 with fail
      obtain ⟨k, hkE⟩ : ∃ k : Nat, wh % ((l.length : Int) + 1) = (k : Int) := ⟨(wh % ((l.length : Int) + 1)).toNat, (Int.toNat_of_nonneg (Int.emod_nonneg _ (by omega))).symm⟩
      have hkl : k ≤ l.length := by have := Int.emod_lt_of_pos wh (show (0 : Int) < (l.length : Int) + 1 by omega); omega
      rw [hkE]
      generalize wh % ((l.length : Int) + 1) = z at hkE
      clear hkE z
      have HXc := Lib.hid ((HX1.out.keep rtok_kept HBx.out).more rtok_more HBx.out.size)
      have HBc := Lib.hid (HB1.out.trans (HBx.out.mono HB1.out.size))
      go_upto_if 49 with fail
      go_cut [11, 13] (fun vg va wx => ∃ (G2 : ByteArray) (a : Nat), vg = .string G2 ∧ va = .int .i64 a ∧ a ≤ s.size ∧ Hid (Np.IsGap G2.data.toList ∧ G2.size ≤ 20) ∧ Hid (GapAt l k s.size a) ∧ wx = wc)
      case first =>
        by_cases hlt : k < l.length
        · obtain ⟨b, o, c', hA, hbb, a0, a1, a2, a3⟩ := tok_at HXc.out (List.getElem?_eq_getElem hlt)
          simp only [Value.slice.injEq] at hA
          obtain ⟨rfl, _, rfl⟩ := hA
          have ht := List.getElem?_eq_getElem hlt
          obtain ⟨p1, p2⟩ := (Np.lex_place _ s.data.toList 0 0 (Nat.le_refl _) (by omega)).1 l[k] (by rw [(Np.lex_ok HLA.out).2]; exact List.getElem_mem hlt)
          rw [size_list] at p2
          generalize l[k] = t at *
          obtain ⟨p, hp⟩ : ∃ p : Nat, t.pos = p := ⟨t.pos.toNat, by omega⟩
          rw [hp] at a3
          have hps : p ≤ s.size := by omega
          have HAT : Hid (GapAt l k s.size p) := Lib.hid (.inl ⟨t, ht, hp⟩)
          have hkI : (k : Int) < (l.length : Int) := by omega
          clear ht hp p1 p2 a0 a1 a2
          go_wp2_with fail
          go_meet
          case rel => exact ⟨G, p, rfl, rfl, hps, Lib.hid ⟨HG.out.1, by have := HG.out.2; omega⟩, HAT, rfl⟩
        · have HAT : Hid (GapAt l k s.size s.size) := Lib.hid (.inr ⟨by omega, rfl⟩)
          have hkI : (l.length : Int) ≤ (k : Int) := by omega
          have hg15 := HG.out.2
          by_cases h3 : kd % 5 < 3
          · go_wp2_with fail
            refine (Tryd.strings_LastIndex_one s ⟨#[10]⟩ rfl (by omega) _).mono ?_
            rintro e w' ⟨rfl, rfl⟩
            obtain ⟨j, hj, hjs⟩ : ∃ j : Nat, Lib.lastIndexByte s ((((⟨#[10]⟩ : ByteArray)[0]'(by decide)).toNat : Int)) = (j : Int) - 1 ∧ j ≤ s.size := by
              have := lastIdx_in s ((((⟨#[10]⟩ : ByteArray)[0]'(by decide)).toNat : Int)) s.size
              refine ⟨(Lib.lastIndexByte s ((((⟨#[10]⟩ : ByteArray)[0]'(by decide)).toNat : Int)) + 1).toNat, ?_, ?_⟩ <;> unfold Lib.lastIndexByte <;> omega
            rw [hj]
            clear hj
            go_wp2_with fail
            refine (Tryd.strings_Contains_one _ 35 _).mono ?_
            rintro e w' ⟨rfl, rfl⟩
            generalize decide (0 ≤ Lib.indexByte _ _) = bb
            cases bb
            · go_wp2_with fail
              go_meet
              case rel => exact ⟨G, s.size, rfl, rfl, Nat.le_refl _, Lib.hid ⟨HG.out.1, by have := HG.out.2; omega⟩, HAT, rfl⟩
            · go_wp2_with fail
              go_meet
              case rel => exact ⟨_, s.size, rfl, rfl, Nat.le_refl _, Lib.hid (gap_feedS HG.out HG.out.2), HAT, rfl⟩
          · have h3' : 3 ≤ kd % 5 := by omega
            have h3d : decide (kd % 5 < 3) = false := by simpa using h3'
            clear h3
            go_wp2_with fail
            go_meet
            case rel => exact ⟨G, s.size, rfl, rfl, Nat.le_refl _, Lib.hid ⟨HG.out.1, by have := HG.out.2; omega⟩, HAT, rfl⟩
      case rest =>
        obtain ⟨G2, a, rfl, rfl, ha, HG2, HA, rfl⟩ := hcut
        have haI : (a : Int) ≤ (s.size : Int) := by omega
        have hg20 := HG2.out.2
        by_cases h8k : s.size + G2.size ≤ 8000
        · have h8I : (s.size : Int) + (G2.size : Int) ≤ 8000 := by omega
          have HLX : Hid (∃ ts : List Np.Tok, Np.lex (s.extract 0 a ++ G2 ++ s.extract a s.size).data.toList = (l.take k ++ ts, 0, 0) ∧ ts = (l.drop k).map (Np.shift G2.size)) := Lib.hid (by
            refine ⟨_, ?_, rfl⟩
            have e : (s.extract 0 a ++ G2 ++ s.extract a s.size).data.toList = s.data.toList.take a ++ G2.data.toList ++ s.data.toList.drop a := by
              rw [ByteArray.data_append, Array.toList_append, ByteArray.data_append, Array.toList_append, ext_to, ext_from]
            rw [e]
            rcases HA.out with ⟨t, ht, hp⟩ | ⟨hk, hp⟩
            · exact Np.lex_gaps_at HG2.out.1 HLA.out h8k ht hp
            · have h9 := Np.lex_gaps_end HG2.out.1 HLA.out h8k
              rw [hp, hk, List.take_of_length_le (by rw [size_list]; omega), List.drop_of_length_le (by rw [size_list]; omega), List.append_nil, h9]
              simp)
          have hcs : (s.extract 0 a ++ G2 ++ s.extract a s.size).size ≤ 140737488355328 := by
            rw [ByteArray.size_append, ByteArray.size_append, ByteArray.size_extract, ByteArray.size_extract]; omega
          have HCS := Lib.hid hcs
          clear hcs
          obtain ⟨ts, hlx, hts⟩ := HLX.out
          have HLY := Lib.hid hlx
          have HTS := Lib.hid hts
          clear hlx hts
          have hq1 : ¬ (9223372036854775807 < a + G2.size) := by omega
          have hq2 : ¬ (9223372036854775807 < a + G2.size + (s.size - a)) := by omega
          go_upto_region 13 with fail
          go_region_held3 (fun _ => True) (trivial)
            (first
              | (go_at_call 19; refine (lex_any _ HCS.out _ (HE.out.keep HBc.out.drew)).mono ?_; rw [HLY.out]; rintro e w3 ⟨v3, rfl, hx3, hb3⟩; have HX3 := Lib.hid hx3; have HB3 := Lib.hid hb3; clear hb3; obtain ⟨A3, c3, rfl, hc3, hl3, _⟩ := hx3))
          have hlen : (l.take k ++ ts).length = l.length := by rw [HTS.out]; simp; omega
          have HN3 := Lib.hid ((HX3.out))
          have hlen2 : k + ts.length = l.length := by rw [HTS.out]; simp; omega
          rw [hlen] at HN3 hc3
          rw [hlen2]
          have HB3' := Lib.hid (HBc.out.drew.trans (HB3.out.mono (by have := HBc.out.size; simpa using this)))
          have HL3 := Lib.hid ((HXc.out.keep rtok_kept ((Below.drew (Below.refl _ _)).trans (HB3.out.mono (by simp)))).more rtok_more (by have := HB3.out.size; simpa using this))
          clear hlen hlen2 HX3
          have hnn : ((l.length : Int) != (l.length : Int)) = false := by simp
          go_upto_region 16 with fail
          have hkI0 : (0 : Int) ≤ (k : Int) := by omega
          have hkI1 : (k : Int) ≤ (l.length : Int) := by omega
          have hkI2 : (k : Int) ≤ (c1 : Int) := by omega
          have hkI3 : (k : Int) ≤ (c3 : Int) := by omega
          have hkI4 : (l.length : Int) ≤ (c1 : Int) := by omega
          have hkI5 : (l.length : Int) ≤ (c3 : Int) := by omega
          have hpl : ∀ t ∈ l, 0 ≤ t.pos ∧ t.pos ≤ 100000 := fun t ht => by
            have h := (Np.lex_place _ s.data.toList 0 0 (Nat.le_refl _) (by omega)).1 t (by rw [(Np.lex_ok HLA.out).2]; exact ht)
            rw [size_list] at h; omega
          have HPT := Lib.hid (fun t (ht : t ∈ l.take k) => hpl t (List.mem_of_mem_take ht))
          have HPD := Lib.hid (fun t (ht : t ∈ l.drop k) => hpl t (List.mem_of_mem_drop ht))
          have HSZ := Lib.hid (shift_zero (l.take k))
          have Z0 := Lib.hid (show (0 : Int) ≤ 0 by decide)
          have Z1 := Lib.hid (show (0 : Int) ≤ 100000 by decide)
          have Z2 := Lib.hid (show (0 : Int) ≤ (G2.size : Int) by omega)
          have Z3 := Lib.hid (show (G2.size : Int) ≤ 100000 by omega)
          have htk : (l.take k).length = k := by rw [List.length_take]; omega
          have hdk : (l.drop k).length = l.length - k := List.length_drop
          have hdt : ts.length = l.length - k := by rw [HTS.out, List.length_map, hdk]
          have hLL : SlR RTok 4 w3 w3.heap.size (.slice A1 l.length c1) (l.take k ++ l.drop k) := by rw [List.take_append_drop]; exact HL3.out
          have HF1 := Lib.hid (slr_front hLL htk)
          have HK1 := Lib.hid (slr_back hLL htk hdk)
          have HF3 := Lib.hid (slr_front HN3.out htk)
          have HK3 := Lib.hid (slr_back HN3.out htk hdt)
          clear hpl htk hdk hdt hLL
          refine wp_region_grow (by kernel_rfl) (by kernel_rfl) ?_
          repeat (go_big_quiet_step (fail))
          go_big_quiet_step ((go_at_call 21; exact Calls.grow_of (same_yes _ _ (l.take k) (l.take k) 0 Z0.out Z1.out HPT.out HSZ.out _ (slr_grow HF1.out _) (slr_grow HF3.out _))))
          repeat (go_big_quiet_step (fail))
          go_big_quiet_step ((go_at_call 21; exact Calls.grow_of (same_yes _ _ (l.drop k) ts G2.size Z2.out Z3.out HPD.out HTS.out _ (slr_grow HK1.out _) (slr_grow HK3.out _))))
          repeat (go_big_quiet_step (fail))
          refine wpQuiet_nil ?_
          rintro _ ⟨g, rfl⟩
          go_wp2_with fail
          all_goals
            go_ret
            exact ⟨rfl, HB3'.out.trans (g.2.mono HB3'.out.size)⟩
        · have h8I : (8000 : Int) < (s.size : Int) + (G2.size : Int) := by omega
          go_wp2_with fail
          all_goals
            go_ret
            exact ⟨rfl, HBc.out⟩
  · have e0 : (ea != 0) = true := by simpa using h0
    clear h0
    go_wp2_with fail
    all_goals
      go_ret
      exact ⟨rfl, HB1.out⟩
end Go.Proofs.YtafpbfmhhpcalaaDoor
