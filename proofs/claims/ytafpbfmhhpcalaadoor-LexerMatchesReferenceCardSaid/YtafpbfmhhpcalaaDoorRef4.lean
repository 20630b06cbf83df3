/- The reference's Lex, and LexerMatchesReference: the walk. -/
import Derived.Test.YtafpbfmhhpcalaaDoorRef3
import Derived.Test.YtafpbfmhhpcalaaDoorHead03
namespace Go.Proofs.YtafpbfmhhpcalaaDoor
open Go.RowKit
def RefRel (w : World) (base : Nat) (s : ByteArray) (vt i : Value) (wr : World) : Prop :=
  ∃ (k : Nat) (ts : List Np.Tok) (A : Option Addr) (c : Nat), k ≤ s.size ∧ ts.length ≤ 2000 ∧ i = .int .i64 k ∧ vt = .slice A ts.length c ∧ Hid (OwnTok wr base vt ts) ∧ Hid (Below w.heap.size w wr) ∧ Hid (Np.lexFrom s.data.toList 0 0 = addToks ts (Np.lexFrom (s.data.toList.drop k) k ts.length)) ∧ Hid (∀ c, s.data.toList[k]? = some c → Np.cls c ≠ 1 ∧ Np.cls c ≠ 2)
set_option maxRecDepth 100000 in
set_option maxHeartbeats 4000000 in
theorem refLex_any (s : ByteArray) (hs : s.size ≤ 140737488355328) (w : World) :
    Calls Tryd.prog 20 #[.string s] w (GivesLex w (Np.lex s.data.toList)) := by
  by_cases h8 : 8000 < s.size
  · have HL : Hid (Np.lex s.data.toList = ([], 2, 0)) := Lib.hid (by simp [Np.lex, h8])
    generalize Np.lex s.data.toList = x at *
    have h8' : (8000 : Int) < (s.size : Int) := by omega
    go_enter Tryd.func20, Tryd.ntmps20
    go_wp2_with fail
    go_ret3
    rw [HL.out]
    exact ⟨_, rfl, slr_nil' _ _, Below.refl _ _⟩
  · have HL : Hid (Np.lex s.data.toList = if (Np.lexFrom s.data.toList 0 0).2.1 = 0 then ((Np.lexFrom s.data.toList 0 0).1, 0, 0) else ([], (Np.lexFrom s.data.toList 0 0).2)) := Lib.hid (by unfold Np.lex; rw [if_neg (by rw [size_list]; exact h8)])
    generalize Np.lex s.data.toList = x at *
    have h8' : (s.size : Int) ≤ 8000 := by omega
    have h8d : decide ((8000 : Int) < (s.size : Int)) = false := by simp; omega
    have h8n : decide (8000 < s.size) = false := by simp; omega
    obtain ⟨i0, hi0, hz0, hz1, hz2⟩ := info_parts Tryd.infoTok
    go_enter Tryd.func20, Tryd.ntmps20
    go_wp2_with fail
    refine (refGap_any s (by omega) 0 (by omega) _).mono ?_
    rintro e w' ⟨q, _, hq, hsf, hnc, rfl, rfl⟩
    have HSF := Lib.hid hsf
    have HNC := Lib.hid hnc
    clear hsf hnc
    go_wp2_with fail
    go_loopw [5, 6] (fun vt i wr => RefRel w w.heap.size s vt i wr) (fun _ i _ => s.size - (intOf i).toNat)
    case atStart => exact ⟨q, [], none, 0, hq, by simp, rfl, rfl, Lib.hid (ownTok_nil _ _), Lib.hid (Below.refl _ _), Lib.hid (by have := HSF.out 0; simp only [List.drop_zero] at this; rw [this]; simp [addToks]), HNC⟩
    case round =>
      obtain ⟨k, ts, A, c, hk, h2000, rfl, rfl, HO, HB, HL3, HC⟩ := hrel
      by_cases hlt : k < s.size
      · have hd : s.data.toList.drop k = s[k] :: s.data.toList.drop (k + 1) := List.drop_eq_getElem_cons (by rw [size_list]; exact hlt)
        have HD := Lib.hid hd
        have hcc := HC.out s[k] (get_list s k hlt)
        have HG := Lib.hid (show ¬ (Np.cls s[k] = 1 ∨ Np.cls s[k] = 2) from fun h => h.elim hcc.1 hcc.2)
        have HEnd := Lib.hid (fun W => refEnd_any s (by omega) k hlt hcc W)
        have hwl : Np.width (s.data.toList.drop k) ≤ s.size - k := by have := Np.width_le (s.data.toList.drop k); rw [List.length_drop, size_list] at this; exact this
        generalize hwd : Np.width (s.data.toList.drop k) = n at *
        have HWD := Lib.hid hwd
        have hkI : (k : Int) < (s.size : Int) := by omega
        clear hd hcc hwd
        go_wp2_with fail
        refine (HEnd.out _).mono ?_
        rintro e w' ⟨rfl, rfl⟩
        by_cases hn0 : n = 0
        · subst hn0
          have HX : Hid (x = ([], 10, k)) := Lib.hid (by
            have h1 := Np.lexFrom_bad (c := s[k]) (r := s.data.toList.drop (k + 1)) k ts.length HG.out (by rw [← HD.out]; exact HWD.out)
            rw [← HD.out] at h1
            rw [HL.out, HL3.out, h1]
            simp [addToks])
          rw [Nat.add_zero]
          go_wp2_with fail
          go_ret3
          rw [HX.out]
          exact ⟨_, rfl, slr_nil' _ _, HB.out⟩
        · have hne : ((((k + n : Nat) : Int)) == (k : Int)) = false := by simp; omega
          have hne2 : ((k : Int) + (n : Int) == (k : Int)) = false := by simp; omega
          have HN0 := Lib.hid (show Np.width (s[k] :: s.data.toList.drop (k + 1)) ≠ 0 by rw [← HD.out, HWD.out]; exact hn0)
          by_cases hfull : ts.length = 2000
          · have HX : Hid (x = ([], 2, k)) := Lib.hid (by
              have h1 := Np.lexFrom_limit (c := s[k]) (r := s.data.toList.drop (k + 1)) k HG.out HN0.out
              rw [← HD.out] at h1
              rw [HL.out, HL3.out, hfull, h1]
              simp [addToks])
            have hf2 : (2000 : Int) ≤ (ts.length : Int) := by omega
            clear hfull
            go_wp2_with fail
            go_ret3
            rw [HX.out]
            exact ⟨_, rfl, slr_nil' _ _, HB.out⟩
          · have hf2 : (ts.length : Int) < 2000 := by omega
            have hex : (s.extract k (k + n)).data.toList = (s[k] :: s.data.toList.drop (k + 1)).take (Np.width (s[k] :: s.data.toList.drop (k + 1))) := by
              rw [ext_list, List.drop_take, ← HD.out, HWD.out, show k + n - k = n by omega]
            have hes : (s.extract k (k + n)).size = n := by rw [ByteArray.size_extract]; omega
            have he0 : 0 < (s.extract k (k + n)).size := by omega
            have hhd : (s.extract k (k + n))[0] = s[k] := by
              have h1 := get_list (s.extract k (k + n)) 0 he0
              rw [hex] at h1
              rw [List.getElem?_take, if_pos (by rw [← HD.out, HWD.out]; omega)] at h1
              exact (Option.some.inj h1).symm
            have HK := Lib.hid hfull
            have HES := Lib.hid hes
            have HTK : Hid (Np.tokOf (Np.cls (s.extract k (k + n))[0]) (s.extract k (k + n)).data.toList = Np.tokOf (Np.cls s[k]) ((s[k] :: s.data.toList.drop (k + 1)).take (Np.width (s[k] :: s.data.toList.drop (k + 1))))) := Lib.hid (by rw [hhd, hex])
            have HE0 := Lib.hid he0
            have hb1' : (k : Int) ≤ (k : Int) + (n : Int) := by omega
            have hb2' : (k : Int) + (n : Int) ≤ (s.size : Int) := by omega
            clear hfull hex hes hhd
            go_wp2_with fail
            refine (refToken_any (s.extract k (k + n)) (by rw [HES.out]; omega) HE0.out (k : Int) _).mono ?_
            rintro e w5 ⟨rfl, hb5⟩
            rw [HTK.out]
            have HB5 := Lib.hid hb5
            have HW5 := Lib.hid (HB.out.trans (hb5.mono HB.out.size))
            clear hb5
            by_cases her : (Np.tokOf (Np.cls s[k]) ((s[k] :: s.data.toList.drop (k + 1)).take (Np.width (s[k] :: s.data.toList.drop (k + 1))))).1 = 0
            · have h1 := Np.lexFrom_tok (c := s[k]) (r := s.data.toList.drop (k + 1)) k ts.length HG.out HN0.out HK.out her
              rw [← HD.out, HWD.out, List.drop_drop] at h1
              have H1 := Lib.hid h1
              clear h1
              rw [← HD.out, HWD.out] at her ⊢
              generalize (Np.tokOf (Np.cls s[k]) ((s.data.toList.drop k).take n)) = tk at *
              obtain ⟨er, t⟩ := tk
              simp only at her H1 ⊢
              subst her
              simp only [refTok, if_true, tokVal]
              have hown5 : OwnTok w5 w.heap.size (.slice A ts.length c) ts := ownsRow_keep HO.out (fun g hg => HB5.out.block g (ownsRow_base HO.out g hg).2)
              have HO5 := Lib.hid hown5
              clear hown5
              have hz3 := HW5.out.size
              go_wp2_with (at_builtin; go_must (refine wpList_append_own_at _ rfl _ _ 50 rfl w.heap.size 58 i0 (.agg #[.int .i64 0, .string ⟨#[]⟩, .int .i64 0, .int .i64 0]) 4 40 Tryd.underlying50 hi0 hz0 hz1 hz2 rfl (by decide) _ _ _ rfl (World.ownsRow.alloc (World.ownsRow.alloc HO5.out _) _) ⟨w5.heap.size + 1, 0, none⟩ 1 1 [.int .i64 t.kind, .string (bytesOf t.text), .int .i64 t.n, .int .i64 k] rfl rfl (World.news_of_block (cs := #[.int .i64 t.kind, .string (bytesOf t.text), .int .i64 t.n, .int .i64 k]) (t := 58) (fr := (0, 0)) (heap_alloc2_new w5 _ _)) (by simp [Value.oneCell']) (by unfold maxLen; omega) (by omega) (by simp; omega) ?_); intro v6 w6 hown6 hg6 hiff6 hat6; clear hiff6)
              obtain ⟨A6, c6, rfl⟩ := ownsRow_form hown6
              have hot : OwnTok w6 w.heap.size (.slice A6 (ts.length + 1) c6) (ts ++ [{ t with pos := (k : Int) }]) := by
                have := hown6
                unfold OwnTok
                rw [List.length_append, List.length_singleton, List.flatMap_append]
                exact this
              have hbb : Below w.heap.size w w6 := ((HW5.out.alloc HW5.out.size _).alloc (by simp; omega) _).grown hg6 (by simp; omega) (fun g hg => (ownsRow_base HO5.out g hg).1)
              have HOT := Lib.hid hot
              have HBB := Lib.hid hbb
              clear hown6 hg6 hat6 hot hbb
              refine (refGap_any s (by omega) (k + n) (by omega) _).mono ?_
              rintro e w' ⟨q2, hq1, hq2, hsf2, hnc2, rfl, rfl⟩
              have HSF2 := Lib.hid hsf2
              have HNC2 := Lib.hid hnc2
              clear hsf2 hnc2
              go_wp2_with fail
              refine ⟨⟨q2, ts ++ [{ t with pos := (k : Int) }], A6, c6, hq2, by have := HK.out; simp; omega, rfl, by simp, Lib.hid (by simpa using HOT.out), HBB, Lib.hid ?_, HNC2⟩, by simp [intOf]; omega⟩
              rw [HL3.out, H1.out]
              have := HSF2.out (ts.length + 1)
              rw [this]
              simp [addToks]
            · have h1 := Np.lexFrom_err (c := s[k]) (r := s.data.toList.drop (k + 1)) k ts.length HG.out HN0.out HK.out her
              have HX : Hid (x = ([], (Np.tokOf (Np.cls s[k]) ((s[k] :: s.data.toList.drop (k + 1)).take (Np.width (s[k] :: s.data.toList.drop (k + 1))))).1, k)) := Lib.hid (by
                rw [← HD.out] at h1 ⊢
                rw [HL.out, HL3.out, h1]
                rw [← HD.out] at her
                simp [addToks, her])
              generalize (Np.tokOf (Np.cls s[k]) ((s[k] :: s.data.toList.drop (k + 1)).take (Np.width (s[k] :: s.data.toList.drop (k + 1))))) = tk at *
              obtain ⟨er, t⟩ := tk
              simp only at her HX ⊢
              have her' : (er != 0) = true := by simp [her]
              simp only [tokVal]
              clear her h1
              go_wp2_with fail
              go_ret3
              rw [HX.out]
              exact ⟨_, rfl, slr_nil' _ _, HW5.out.alloc HW5.out.size _⟩
      · have : k = s.size := by omega
        subst this
        go_wp2_with fail
        go_ret3
        have hx : x = (ts, 0, 0) := by
          rw [HL.out, HL3.out, List.drop_of_length_le (by rw [size_list]; omega)]
          simp [addToks, Np.lexFrom]
        rw [hx]
        exact ⟨_, rfl, slr_of_own (xs := ts) (fun t => (tokVal t).toList) (by simp [tokVal]) HO.out (by omega) (fun _ _ => rfl), HB.out⟩
set_option maxRecDepth 100000 in
set_option maxHeartbeats 4000000 in
theorem matches_walk (s : ByteArray) (hs : s.size ≤ 140737488355328) (w : World) (hE : ErrIn w) :
    Calls Tryd.prog 5 #[.string s] w fun e w' => e = .returned (.bool true) ∧ Below w.heap.size w w' := by
  have HE := Lib.hid hE
  clear hE
  go_enter Tryd.func5, Tryd.ntmps5
  go_wp2_with fail
  refine (head03_any _ HE.out).mono ?_
  rintro e w0 ⟨rfl, hb0⟩
  have HB0 := Lib.hid hb0
  clear hb0
  by_cases h81 : 8100 < s.size
  · have h81' : (8100 : Int) < (s.size : Int) := by omega
    go_wp2_with fail
    go_ret
    exact ⟨rfl, HB0.out⟩
  · have h81' : (s.size : Int) ≤ 8100 := by omega
    have hpl : ∀ t ∈ (Np.lex s.data.toList).1, 0 ≤ t.pos ∧ t.pos ≤ 100000 := fun t ht => by
      unfold Np.lex at ht
      split at ht
      · cases ht
      · split at ht
        · have h := (Np.lex_place _ s.data.toList 0 0 (Nat.le_refl _) (by omega)).1 t ht
          rw [size_list] at h; omega
        · cases ht
    have HPL := Lib.hid hpl
    clear hpl
    go_wp2_with fail
    refine (lex_any s hs _ (HE.out.keep HB0.out)).mono ?_
    generalize hla : Np.lex s.data.toList = ra at HPL
    have HLA := Lib.hid hla
    clear hla
    obtain ⟨l, ea, qa⟩ := ra
    rintro e w1 ⟨v1, rfl, hx1, hb1⟩
    have HX1 := Lib.hid hx1
    have HB1 := Lib.hid (HB0.out.trans (hb1.mono HB0.out.size))
    obtain ⟨A1, c1, rfl, hc1, hl1, _⟩ := hx1
    clear hb1
    go_wp2_with fail
    refine (refLex_any s hs _).mono ?_
    rw [HLA.out]
    rintro e w2 ⟨v2, rfl, hx2, hb2⟩
    have HX1' := Lib.hid ((HX1.out.keep rtok_kept hb2).more rtok_more hb2.size)
    have HX2 := Lib.hid hx2
    have HB2 := Lib.hid (HB1.out.trans (hb2.mono HB1.out.size))
    obtain ⟨A2, c2, rfl, hc2, hl2, _⟩ := hx2
    clear hb2 HX1
    simp only at hc1 hl1 hc2 hl2 ⊢
    go_wp2_with fail
    refine (same_yes _ _ l l 0 (by decide) (by decide) HPL.out (shift_zero _) _ HX1'.out HX2.out).mono ?_
    rintro e w3 ⟨rfl, hb3⟩
    have HB3 := Lib.hid (HB2.out.trans (hb3.mono HB2.out.size))
    clear hb3
    go_wp2_with fail
    go_ret
    exact ⟨rfl, HB3.out⟩
end Go.Proofs.YtafpbfmhhpcalaaDoor
