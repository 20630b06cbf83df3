/- lexer.token. -/
import Derived.Test.YtnbolgdccdnjeaaGreatDoorEnds3
import Derived.Test.YtnbolgdccdnjeaaGreatDoorDigits
namespace Go.Proofs.YtnbolgdccdnjeaaGreatDoor
open Go.RowKit
/-- strconv.ErrRange holds an error. -/
def ErrIn (w : World) : Prop := ∃ tp p, w.var? Tryz.prog "strconv.ErrRange" = some #[.iface tp p]
theorem gErr : Tryz.prog.globalNamed "strconv.ErrRange" = some 4 := by kernel_rfl
theorem ErrIn.keep {w w' : World} (h : ErrIn w) (hb : Below w.heap.size w w') : ErrIn w' := by
  obtain ⟨tp, p, h⟩ := h
  refine ⟨tp, p, ?_⟩
  unfold World.var? at h ⊢
  rw [gErr] at h ⊢
  simp only [Option.bind_some] at h ⊢
  have hg : 4 < w.heap.size := by
    cases hh : w.heap[4]? with
    | none => rw [hh] at h; cases h
    | some o => exact (Array.getElem?_eq_some_iff.1 hh).1
  rw [hb.block _ hg]; exact h
def bytesOf (l : List UInt8) : ByteArray := ⟨l.toArray⟩
/-- A token's cells. -/
def tokVal (t : Np.Tok) : Array Value := #[.int .i64 t.kind, .string (bytesOf t.text), .int .i64 t.n, .int .i64 t.pos]
theorem tok_ret {k : Int} {t : Np.Tok} {x : Int × Np.Tok} {vk : Int} {vs : ByteArray} {vn : Int} (h : x = (k, t)) (h1 : vk = t.kind) (h2 : vs = bytesOf t.text) (h3 : vn = t.n) (h4 : t.pos = 0) : (Value.tuple #[.agg #[.int .i64 vk, .string vs, .int .i64 vn, .int .i64 0], .int .i64 k]) = .tuple #[.agg (tokVal x.2), .int .i64 x.1] := by
  subst h h1 h2 h3; simp [tokVal, h4]
theorem bytesOf_list (s : ByteArray) : bytesOf s.data.toList = s := by cases s; simp [bytesOf]
theorem trim_digits (s : ByteArray) (hs : s.size ≤ 100000) (w : World) :
    Calls Tryz.prog 119 #[.string s, .string ⟨#[48, 49, 50, 51, 52, 53, 54, 55, 56, 57]⟩] w fun e w' => e = .returned (.string (bytesOf (Lib.trimS s.data.toList digits))) ∧ Below w.heap.size w w' :=
  Any.strings_Trim_laid Tryz.lays160 (by kernel_rfl) s ⟨#[48, 49, 50, 51, 52, 53, 54, 55, 56, 57]⟩ w (by omega) (by decide) (ascii_of_all (by decide))
theorem bytesOf_nil {l : List UInt8} (h : l ≠ []) : (bytesOf l).toList.isEmpty = false := by
  rw [ByteArray.toList_eq]; simp [bytesOf, h]
set_option maxRecDepth 100000 in
set_option maxHeartbeats 2000000 in
theorem token_any (k : Nat) (s : ByteArray) (hs : s.size ≤ 100000) (h0 : 0 < s.size) (w : World) (hE : ErrIn w) :
    Calls Tryz.prog 68 #[.int .i64 k, .string s] w fun e w' => e = .returned (.tuple #[.agg (tokVal (Np.tokOf k s.data.toList).2), .int .i64 (Np.tokOf k s.data.toList).1]) ∧ Below w.heap.size w w' := by
  have HE := Lib.hid hE
  clear hE
  have hb1 : ∀ o, Below w.heap.size w (w.alloc o) := fun o => (Below.refl _ w).alloc (Nat.le_refl _) _
  have HB1 := Lib.hid hb1
  clear hb1
  by_cases h7 : k = 7
  · subst h7
    have HT : Hid (Np.tokOf 7 s.data.toList = (0, ⟨3, s.data.toList, 0, 0⟩)) := Lib.hid rfl
    generalize Np.tokOf 7 s.data.toList = x at *
    go_enter Tryz.func68, Tryz.ntmps68
    go_wp2_with fail
    refine bodyPost_ret (v := .tuple #[.agg #[.int .i64 3, .string s, .int .i64 0, .int .i64 0], .int .i64 0]) (by simp [results, Tryz.results68, go_sem]) rfl ⟨?_, ?_⟩
    · rw [tok_ret HT.out rfl (bytesOf_list s).symm rfl rfl]
    · exact HB1.out _
  · have h7' : ((k : Int) == 7) = false := by simp; omega
    by_cases h6 : k = 6
    · subst h6
      by_cases hl : 42 < s.size
      · have HT : Hid (Np.tokOf 6 s.data.toList = (3, Np.Tok.zero)) := Lib.hid (by simp [Np.tokOf, hl])
        generalize Np.tokOf 6 s.data.toList = x at *
        have hl' : (40 : Int) < (s.size : Int) - 2 := by omega
        go_enter Tryz.func68, Tryz.ntmps68
        go_wp2_with fail
        refine bodyPost_ret (v := .tuple #[.agg #[.int .i64 0, .string ⟨#[]⟩, .int .i64 0, .int .i64 0], .int .i64 3]) (by simp [results, Tryz.results68, go_sem]) rfl ⟨congrArg Ending.returned (tok_ret HT.out rfl rfl rfl rfl), ?_⟩
        repeat refine Below.setCell ?_ (by simp) _
        exact HB1.out _
      · have HT : Hid (Np.tokOf 6 s.data.toList = (0, ⟨1, s.data.toList, 0, 0⟩)) := Lib.hid (by simp [Np.tokOf, hl])
        generalize Np.tokOf 6 s.data.toList = x at *
        have hl' : (s.size : Int) - 2 ≤ 40 := by omega
        go_enter Tryz.func68, Tryz.ntmps68
        go_wp2_with fail
        refine bodyPost_ret (v := .tuple #[.agg #[.int .i64 1, .string s, .int .i64 0, .int .i64 0], .int .i64 0]) (by simp [results, Tryz.results68, go_sem]) rfl ⟨congrArg Ending.returned (tok_ret HT.out rfl (bytesOf_list s).symm rfl rfl), ?_⟩
        repeat refine Below.setCell ?_ (by simp) _
        exact HB1.out _
    · have h6' : ((k : Int) == 6) = false := by simp; omega
      by_cases hd : s.data.toList.all Np.isDig = true
      · have HTR : Hid (bytesOf (Lib.trimS s.data.toList digits) = ⟨#[]⟩) := Lib.hid (by rw [(trim_nil _).2 hd]; rfl)
        have hne : s.data.toList ≠ [] := fun e => by rw [← size_list, e] at h0; simp at h0
        have HA := Lib.hid (atoi_digits hd hne)
        by_cases hz : 1 < s.size ∧ s[0] = 48
        · have HT : Hid (Np.tokOf k s.data.toList = (10, Np.Tok.zero)) := Lib.hid (by
            have : s.data.toList.head? = some 48 := by rw [head_list s h0, hz.2]
            simp [Np.tokOf, h7, h6, hd, hz.1, this])
          generalize Np.tokOf k s.data.toList = x at *
          obtain ⟨z1, z2⟩ := hz
          have z1' : (1 : Int) < (s.size : Int) := by omega
          have z3 : (((s[0]).toNat : Int) == 48) = true := by rw [z2]; rfl
          clear h7 h6 hd hne z2
          go_enter Tryz.func68, Tryz.ntmps68
          go_wp2_with (go_at_call 119; refine (trim_digits s hs _).mono ?_; rintro e w1 ⟨rfl, hb⟩; rw [HTR.out]; obtain ⟨c1, f1⟩ := bcell hb; have HB := Lib.hid ((HB1.out _).trans (hb.mono (by simp))); clear hb)
          refine bodyPost_ret (v := .tuple #[.agg #[.int .i64 0, .string ⟨#[]⟩, .int .i64 0, .int .i64 0], .int .i64 10]) (by simp [results, Tryz.results68, go_sem, c1]) rfl ⟨congrArg Ending.returned (tok_ret HT.out rfl rfl rfl rfl), ?_⟩
          repeat refine Below.setCell ?_ (by simp) _
          exact HB.out
        · have hz' : ¬ (1 < s.data.toList.length ∧ s.data.toList.head? = some 48) := fun h => hz ⟨by rw [← size_list]; exact h.1, by have := h.2; rw [head_list s h0] at this; exact Option.some.inj this⟩
          by_cases hm : 1000000000 < Np.dec s.data.toList
          · have HT : Hid (Np.tokOf k s.data.toList = (3, Np.Tok.zero)) := Lib.hid (by
              unfold Np.tokOf; rw [if_neg h7, if_neg h6, if_neg (by rw [hd]; simp), if_neg hz', if_pos hm])
            have HZF : Hid (1 < s.size → (((s[0]).toNat : Int) == 48) = false) := Lib.hid (fun h => by
              have : ¬ s[0] = 48 := fun e => hz ⟨h, e⟩
              simp only [beq_eq_false_iff_ne, ne_eq]
              intro e
              have e2 : (s[0]).toNat = 48 := by omega
              exact this (UInt8.toNat_inj.1 (by rw [e2]; rfl)))
            generalize Np.tokOf k s.data.toList = x at *
            by_cases hr : Np.dec s.data.toList < 9223372036854775808
            · have HK := Lib.hid (HA.out.trans (if_pos hr))
              generalize Np.dec s.data.toList = n at *
              have hm' : (1000000000 : Int) < (n : Int) := by omega
              clear h7 h6 hd hne hz hz' hm hr HA
              by_cases hs1 : 1 < s.size
              all_goals
                (try have hs1' : (1 : Int) < (s.size : Int) := by omega)
                (try have hs2' : (s.size : Int) ≤ 1 := by omega)
                (try have hzf := HZF.out hs1)
                go_enter Tryz.func68, Tryz.ntmps68
                go_wp2_with (first
                  | (go_at_call 119; refine (trim_digits s hs _).mono ?_; rintro e w1 ⟨rfl, hb⟩; rw [HTR.out]; obtain ⟨c1, f1⟩ := bcell hb; have l1 : w.heap.size < w1.heap.size := by { have := hb.size; simp at this; omega }; have HB := Lib.hid ((HB1.out _).trans (hb.mono (by simp))); clear hb)
                  | (go_at_call 120; refine (Tryz.strconv_Atoi_ok s (by omega) (n : Int) HK.out _).mono ?_; rintro e w2 ⟨rfl, hw⟩; have hb2 : Below w1.heap.size w1 w2 := (by rcases hw with rfl | ⟨t, rfl⟩; exact Below.refl _ _; exact below_bytes _ _ _ (Nat.le_refl _)); obtain ⟨c2, f2⟩ := bcell hb2; have HB2 := Lib.hid hb2; clear hw hb2))
                refine bodyPost_ret (v := .tuple #[.agg #[.int .i64 0, .string ⟨#[]⟩, .int .i64 0, .int .i64 0], .int .i64 3]) (by simp [results, Tryz.results68, go_sem, c1, c2, l1]) rfl ⟨congrArg Ending.returned (tok_ret HT.out rfl rfl rfl rfl), ?_⟩
                repeat refine Below.setCell ?_ (by simp) _
                exact HB.out.trans (HB2.out.mono HB.out.size)
            · have HK := Lib.hid (HA.out.trans (if_neg hr))
              obtain ⟨tp, pe, hv⟩ := HE.out.keep (HB1.out (.cells #[] 0))
              clear h7 h6 hd hne hz hz' hm hr HA hv
              by_cases hs1 : 1 < s.size
              all_goals
                (try have hs1' : (1 : Int) < (s.size : Int) := by omega)
                (try have hs2' : (s.size : Int) ≤ 1 := by omega)
                (try have hzf := HZF.out hs1)
                go_enter Tryz.func68, Tryz.ntmps68
                go_wp2_with (first
                  | (go_at_call 119; refine (trim_digits s hs _).mono ?_; rintro e w1 ⟨rfl, hb⟩; rw [HTR.out]; obtain ⟨c1, f1⟩ := bcell hb; have l1 : w.heap.size < w1.heap.size := by { have := hb.size; simp at this; omega }; have HB := Lib.hid ((HB1.out _).trans (hb.mono (by simp))); clear hb)
                  | (go_at_call 120; obtain ⟨tp, pe, hv⟩ := HE.out.keep HB.out; refine (Tryz.strconv_Atoi_range_var s (by omega) HK.out tp pe _ hv).mono ?_; clear hv; rintro e w2 ⟨n2, rfl, _, _, hb2⟩; obtain ⟨c2, f2⟩ := bcell hb2; have HB2 := Lib.hid hb2; clear hb2))
                refine bodyPost_ret (v := .tuple #[.agg #[.int .i64 0, .string ⟨#[]⟩, .int .i64 0, .int .i64 0], .int .i64 3]) (by simp [results, Tryz.results68, go_sem, c1, c2, l1]) rfl ⟨congrArg Ending.returned (tok_ret HT.out rfl rfl rfl rfl), ?_⟩
                repeat refine Below.setCell ?_ (by simp) _
                exact HB.out.trans (HB2.out.mono HB.out.size)
          · have HT : Hid (Np.tokOf k s.data.toList = (0, ⟨2, [], Np.dec s.data.toList, 0⟩)) := Lib.hid (by
              unfold Np.tokOf; rw [if_neg h7, if_neg h6, if_neg (by rw [hd]; simp), if_neg hz', if_neg hm])
            have HZF : Hid (1 < s.size → (((s[0]).toNat : Int) == 48) = false) := Lib.hid (fun h => by
              have : ¬ s[0] = 48 := fun e => hz ⟨h, e⟩
              simp only [beq_eq_false_iff_ne, ne_eq]
              intro e
              have e2 : (s[0]).toNat = 48 := by omega
              exact this (UInt8.toNat_inj.1 (by rw [e2]; rfl)))
            generalize Np.tokOf k s.data.toList = x at *
            have HK := Lib.hid (HA.out.trans (if_pos (by omega)))
            generalize Np.dec s.data.toList = n at *
            have hm' : (n : Int) ≤ 1000000000 := by omega
            clear h7 h6 hd hne hz hz' hm HA
            by_cases hs1 : 1 < s.size
            all_goals
              (try have hs1' : (1 : Int) < (s.size : Int) := by omega)
              (try have hs2' : (s.size : Int) ≤ 1 := by omega)
              (try have hzf := HZF.out hs1)
              go_enter Tryz.func68, Tryz.ntmps68
              go_wp2_with (first
                | (go_at_call 119; refine (trim_digits s hs _).mono ?_; rintro e w1 ⟨rfl, hb⟩; rw [HTR.out]; obtain ⟨c1, f1⟩ := bcell hb; have l1 : w.heap.size < w1.heap.size := by { have := hb.size; simp at this; omega }; have HB := Lib.hid ((HB1.out _).trans (hb.mono (by simp))); clear hb)
                | (go_at_call 120; refine (Tryz.strconv_Atoi_ok s (by omega) (n : Int) HK.out _).mono ?_; rintro e w2 ⟨rfl, hw⟩; have hb2 : Below w1.heap.size w1 w2 := (by rcases hw with rfl | ⟨t, rfl⟩; exact Below.refl _ _; exact below_bytes _ _ _ (Nat.le_refl _)); obtain ⟨c2, f2⟩ := bcell hb2; have HB2 := Lib.hid hb2; clear hw hb2))
              refine bodyPost_ret (v := .tuple #[.agg #[.int .i64 2, .string ⟨#[]⟩, .int .i64 n, .int .i64 0], .int .i64 0]) (by simp [results, Tryz.results68, go_sem, c1, c2, l1]) rfl ⟨congrArg Ending.returned (tok_ret HT.out rfl rfl rfl rfl), ?_⟩
              repeat refine Below.setCell ?_ (by simp) _
              exact HB.out.trans (HB2.out.mono HB.out.size)
      · have hd' : s.data.toList.all Np.isDig = false := by simpa using hd
        have hne : Lib.trimS s.data.toList digits ≠ [] := fun e => hd ((trim_nil _).1 e)
        have hte := bytesOf_nil hne
        generalize hts : bytesOf (Lib.trimS s.data.toList digits) = ts at hte
        have HTS := Lib.hid hts
        clear hts hne hd
        by_cases hl : 60 < s.size
        · have HT : Hid (Np.tokOf k s.data.toList = (3, Np.Tok.zero)) := Lib.hid (by simp [Np.tokOf, h7, h6, hd', hl])
          generalize Np.tokOf k s.data.toList = x at *
          have hl' : (60 : Int) < (s.size : Int) := by omega
          clear h7 h6 hd'
          go_enter Tryz.func68, Tryz.ntmps68
          go_wp2_with (go_at_call 119; refine (trim_digits s hs _).mono ?_; rintro e w1 ⟨rfl, hb⟩; rw [HTS.out]; obtain ⟨c1, f1⟩ := bcell hb; have HB := Lib.hid ((HB1.out _).trans (hb.mono (by simp))); clear hb)
          refine bodyPost_ret (v := .tuple #[.agg #[.int .i64 0, .string ⟨#[]⟩, .int .i64 0, .int .i64 0], .int .i64 3]) (by simp [results, Tryz.results68, go_sem, c1]) rfl ⟨congrArg Ending.returned (tok_ret HT.out rfl rfl rfl rfl), ?_⟩
          repeat refine Below.setCell ?_ (by simp) _
          exact HB.out
        · have HT : Hid (Np.tokOf k s.data.toList = (0, ⟨1, s.data.toList, 0, 0⟩)) := Lib.hid (by simp [Np.tokOf, h7, h6, hd', hl])
          generalize Np.tokOf k s.data.toList = x at *
          have hl' : (s.size : Int) ≤ 60 := by omega
          clear h7 h6 hd'
          go_enter Tryz.func68, Tryz.ntmps68
          go_wp2_with (go_at_call 119; refine (trim_digits s hs _).mono ?_; rintro e w1 ⟨rfl, hb⟩; rw [HTS.out]; obtain ⟨c1, f1⟩ := bcell hb; have HB := Lib.hid ((HB1.out _).trans (hb.mono (by simp))); clear hb)
          refine bodyPost_ret (v := .tuple #[.agg #[.int .i64 1, .string s, .int .i64 0, .int .i64 0], .int .i64 0]) (by simp [results, Tryz.results68, go_sem, c1]) rfl ⟨congrArg Ending.returned (tok_ret HT.out rfl (bytesOf_list s).symm rfl rfl), ?_⟩
          repeat refine Below.setCell ?_ (by simp) _
          exact HB.out
end Go.Proofs.YtnbolgdccdnjeaaGreatDoor
