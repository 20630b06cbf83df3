/- LexerErrors: the walk. -/
import Derived.Test.YtafpbfmhhpcalaaDoorJoin
import Derived.Test.YtafpbfmhhpcalaaDoorLexPlain2
import Derived.Test.YtafpbfmhhpcalaaDoorShelf2
namespace Go.Proofs.YtafpbfmhhpcalaaDoor
open Go.RowKit
theorem fresh_drop (l : List UInt8) : Np.Fresh (l.drop (l.takeWhile Np.notEnd).length) := by
  induction l with
  | nil => left; rfl
  | cons c l ih =>
    by_cases h : c = 10
    · right; subst h; rfl
    · have : Np.notEnd c = true := by simp [Np.notEnd, h]
      simp only [List.takeWhile_cons, this, if_true, List.length_cons, List.drop_succ_cons]
      exact ih
theorem fails_at (s : ByteArray) (hs : s.size ≤ 140737488355328) (want : Int) (p : Nat) (q : Int) (hq : q = p) (hl : Np.lex s.data.toList = ([], want, p)) (w : World) (hE : ErrIn w) :
    Calls Tryd.prog 26 #[.string s, .int .i64 want, .int .i64 q] w fun e w' => e = .returned (.bool true) ∧ Below w.heap.size w w' := by
  subst hq; exact fails_yes s hs want p hl w hE
set_option maxRecDepth 100000 in
set_option maxHeartbeats 4000000 in
theorem errors_walk (a b c : ByteArray) (ha : a.size ≤ 140737488355328) (hb : b.size ≤ 140737488355328) (hc : c.size ≤ 140737488355328) (w : World) (hE : ErrIn w) :
    Calls Tryd.prog 8 #[.string a, .string b, .string c] w fun e w' => e = .returned (.bool true) ∧ Below w.heap.size w w' := by
  have HE := Lib.hid hE
  clear hE
  go_enter Tryd.func8, Tryd.ntmps8
  go_wp2_with fail
  refine (head03_any _ HE.out).mono ?_
  rintro e w0 ⟨rfl, hb0⟩
  have HB0 := Lib.hid hb0
  clear hb0
  go_wp2_with fail
  refine (lex_any a ha _ (HE.out.keep HB0.out)).mono ?_
  generalize hla : Np.lex a.data.toList = ra
  have HLA := Lib.hid hla
  clear hla
  obtain ⟨l, ea, qa⟩ := ra
  rintro e w1 ⟨v1, rfl, hx1, hb1⟩
  have HB1 := Lib.hid (HB0.out.trans (hb1.mono HB0.out.size))
  obtain ⟨A1, c1, rfl, hc1, hl1, _⟩ := hx1
  clear hb1
  go_wp2_with fail
  refine (lex_any b hb _ (HE.out.keep HB1.out)).mono ?_
  generalize hlb : Np.lex b.data.toList = rb
  have HLB := Lib.hid hlb
  clear hlb
  obtain ⟨m, f, p⟩ := rb
  rintro e w2 ⟨v2, rfl, hx2, hb2⟩
  have HB2 := Lib.hid (HB1.out.trans (hb2.mono HB1.out.size))
  obtain ⟨A2, c2, rfl, hc2, hl2, _⟩ := hx2
  clear hb2
  simp only at hc1 hl1 hc2 hl2 ⊢
  by_cases hin : ea = 0 ∧ f ≠ 0 ∧ f ≠ 2
  · obtain ⟨rfl, hf0, hf2⟩ := hin
    obtain ⟨h8, hj1, hj2, hj3, cc, hcc, hc10⟩ := Np.lex_err HLB.out hf0 hf2
    clear hj1 hj2 hj3
    have hpl : p < b.size := by have := (List.getElem?_eq_some_iff.1 hcc).1; rw [size_list] at this; exact this
    have hpI : (p : Int) < (b.size : Int) := by omega
    have f0 : (f == 0) = false := by simpa using hf0
    have f2 : (f == 2) = false := by simpa using hf2
    have hcc' : ((b.data.toList.drop p).takeWhile Np.notEnd).length ≠ 0 := by
      rw [List.drop_eq_getElem_cons (by rw [size_list]; exact hpl)]
      have hx : b.data.toList[p]'(by rw [size_list]; exact hpl) = cc := by
        have := List.getElem?_eq_getElem (l := b.data.toList) (i := p) (by rw [size_list]; exact hpl)
        rw [this] at hcc; exact Option.some.inj hcc
      have hne : Np.notEnd cc = true := by simp [Np.notEnd, hc10]
      rw [hx, List.takeWhile_cons, if_pos hne]
      simp
    have ha8 := (Np.lex_ok HLA.out).1
    rw [size_list] at ha8 h8
    have hle : ((b.data.toList.drop p).takeWhile Np.notEnd).length ≤ b.size - p := by
      have := Np.takeWhile_le (p := Np.notEnd) (b.data.toList.drop p)
      rw [List.length_drop, size_list] at this; exact this
    have HI : Hid (Lib.indexByte (b.extract p b.size).data.toList 10 = if ((b.data.toList.drop p).takeWhile Np.notEnd).length = b.size - p then -1 else (((b.data.toList.drop p).takeWhile Np.notEnd).length : Int)) := Lib.hid (by rw [ext_from, indexByte_take, List.length_drop, size_list])
    have HFD := Lib.hid (fresh_drop (b.data.toList.drop p))
    have HF0 := Lib.hid hf0
    have HF2 := Lib.hid hf2
    generalize ((b.data.toList.drop p).takeWhile Np.notEnd).length = n at *
    clear hcc hc10 hf0 hf2
    by_cases hn : n = b.size - p
    · have HN := Lib.hid (HI.out.trans (if_pos hn))
      clear hn HI
      go_wp2_with fail
      refine (Tryd.strings_Index_one _ _ _).mono ?_
      rintro e w' ⟨rfl, rfl⟩
      rw [HN.out]
      go_wp2_with fail
      · go_ret
        exact ⟨rfl, HB2.out⟩
      · go_ret
        exact ⟨rfl, HB2.out⟩
      · have s1 : (a.size : Int) + 1 + (b.size : Int) + 1 + (c.size : Int) ≤ 8000 := by assumption
        have s2 : (l.length : Int) + (b.size : Int) ≤ 2000 := by assumption
        have hcat : (a ++ (⟨#[10]⟩ : ByteArray) ++ b ++ (⟨#[10]⟩ : ByteArray) ++ c).data.toList = a.data.toList ++ 10 :: (b.data.toList ++ 10 :: c.data.toList) := by simp
        have hlx := Np.lex_errors (line := b.data.toList) (x := []) (c := c.data.toList) HLA.out (by rw [List.append_nil]; exact HLB.out) (.inl rfl) HF0.out HF2.out (by rw [size_list]; exact hpl) (by rw [size_list, size_list, size_list]; omega) (by rw [size_list]; omega)
        rw [← hcat, size_list] at hlx
        refine (fails_at _ (by rw [← size_list, hcat]; simp; omega) f _ ((a.size : Int) + 1 + (p : Int)) (by omega) hlx _ (HE.out.keep HB2.out)).mono ?_
        rintro e w3 ⟨rfl, hb3⟩
        have HB3 := Lib.hid (HB2.out.trans (hb3.mono HB2.out.size))
        clear hb3 hlx hcat
        go_wp2_with fail
        go_ret
        exact ⟨rfl, HB3.out⟩
    · have HN := Lib.hid (HI.out.trans (if_neg hn))
      have hpn : p + n ≤ b.size := by omega
      have hpnI : (p : Int) + (n : Int) ≤ (b.size : Int) := by omega
      have hex : (b.extract 0 (p + n)).data.toList = b.data.toList.take (p + n) := ext_to _ _
      have hes : (b.extract 0 (p + n)).size = p + n := by rw [ByteArray.size_extract]; omega
      have HEX := Lib.hid hex
      have HES := Lib.hid hes
      clear hn HI hex hes
      go_wp2_with fail
      refine (Tryd.strings_Index_one _ _ _).mono ?_
      rintro e w' ⟨rfl, rfl⟩
      rw [HN.out]
      go_wp2_with fail
      · go_ret
        exact ⟨rfl, HB2.out⟩
      · go_ret
        exact ⟨rfl, HB2.out⟩
      · have s1 : (a.size : Int) + 1 + ((p : Int) + (n : Int)) + 1 + (c.size : Int) ≤ 8000 := by assumption
        have s2 : (l.length : Int) + ((p : Int) + (n : Int)) ≤ 2000 := by assumption
        have hcat : (a ++ (⟨#[10]⟩ : ByteArray) ++ b.extract 0 (p + n) ++ (⟨#[10]⟩ : ByteArray) ++ c).data.toList = a.data.toList ++ 10 :: ((b.extract 0 (p + n)).data.toList ++ 10 :: c.data.toList) := by simp
        have hlx := Np.lex_errors (line := (b.extract 0 (p + n)).data.toList) (x := b.data.toList.drop (p + n)) (c := c.data.toList) HLA.out (by rw [HEX.out, List.take_append_drop]; exact HLB.out) (by have := HFD.out; rwa [List.drop_drop] at this) HF0.out HF2.out (by rw [size_list, HES.out]; omega) (by rw [size_list, size_list, size_list, HES.out]; omega) (by rw [size_list, HES.out]; omega)
        rw [← hcat, size_list] at hlx
        refine (fails_at _ (by rw [← size_list, hcat]; simp only [List.length_append, List.length_cons]; rw [size_list, size_list, size_list, HES.out]; omega) f _ ((a.size : Int) + 1 + (p : Int)) (by omega) hlx _ (HE.out.keep HB2.out)).mono ?_
        rintro e w3 ⟨rfl, hb3⟩
        have HB3 := Lib.hid (HB2.out.trans (hb3.mono HB2.out.size))
        clear hb3 hlx hcat
        go_wp2_with fail
        go_ret
        exact ⟨rfl, HB3.out⟩
  · by_cases h0 : ea = 0
    · subst h0
      by_cases h1 : f = 0
      · subst h1
        clear hin
        go_wp2_with fail
        all_goals
          go_ret
          exact ⟨rfl, HB2.out⟩
      · have h2 : f = 2 := by
          by_cases h : f = 2
          · exact h
          · exact absurd ⟨rfl, h1, h⟩ hin
        subst h2
        clear hin h1
        go_wp2_with fail
        all_goals
          go_ret
          exact ⟨rfl, HB2.out⟩
    · have e0 : (ea != 0) = true := by simpa using h0
      have e1 : (ea == 0) = false := by simpa using h0
      clear hin h0
      go_wp2_with fail
      all_goals
        go_ret
        exact ⟨rfl, HB2.out⟩
end Go.Proofs.YtafpbfmhhpcalaaDoor
