/- LexerJoin: the walk. -/
import Derived.Test.YtafpbfmhhpcalaaDoorHead03
namespace Go.Proofs.YtafpbfmhhpcalaaDoor
open Go.RowKit
theorem slr_take {α : Type} {R : World → Nat → List Value → α → Prop} {sz : Nat} {w : World} {B : Nat} {A : Option Addr} {n c : Nat} {xs ys : List α} (h : SlR R sz w B (.slice A n c) (xs ++ ys)) : SlR R sz w B (.slice A xs.length c) xs := by
  obtain ⟨A', c', hv, hc, hl, he⟩ := h
  cases hv
  refine ⟨A, c, rfl, by simp at hc; omega, by simp at hl; omega, fun i x hx => he i x ?_⟩
  rw [List.getElem?_append_left (List.getElem?_eq_some_iff.1 hx).1]; exact hx
theorem slr_drop {α : Type} {R : World → Nat → List Value → α → Prop} {sz : Nat} {w : World} {B b o : Nat} {n c k : Nat} {xs ys : List α} (h : SlR R sz w B (.slice (some ⟨b, o, none⟩) n c) (xs ++ ys)) (hk : k = xs.length) : SlR R sz w B (.slice (some ⟨b, o + k * sz, none⟩) ys.length (c - k)) ys := by
  subst hk
  obtain ⟨A', c', hv, hc, hl, he⟩ := h
  simp only [Value.slice.injEq] at hv
  obtain ⟨rfl, rfl, rfl⟩ := hv
  refine ⟨_, _, rfl, by simp at hc; omega, by simp at hl; omega, fun i x hx => ?_⟩
  obtain ⟨b', o', e, hA, h1, h2, h3, h4⟩ := he (xs.length + i) x (by rw [List.getElem?_append_right (by omega), Nat.add_sub_cancel_left]; exact hx)
  simp only [Option.some.injEq, Addr.mk.injEq, and_true] at hA
  obtain ⟨rfl, rfl⟩ := hA
  refine ⟨b, o + xs.length * sz, e, rfl, h1, h2, ?_, h4⟩
  rw [show o + xs.length * sz + i * sz = o + (xs.length + i) * sz by rw [Nat.add_mul]; omega]
  exact h3
theorem slr_empty {α : Type} {R : World → Nat → List Value → α → Prop} {sz : Nat} (w : World) (B : Nat) (A : Option Addr) (c : Nat) : SlR R sz w B (.slice A 0 c) [] := ⟨A, c, rfl, by simp, by simp, fun i x h => by simp at h⟩
set_option maxRecDepth 100000 in
set_option maxHeartbeats 4000000 in
theorem join_walk (a b : ByteArray) (ha : a.size ≤ 140737488355328) (hb : b.size ≤ 140737488355328) (w : World) (hE : ErrIn w) :
    Calls Tryd.prog 6 #[.string a, .string b] w fun e w' => e = .returned (.bool true) ∧ Below w.heap.size w w' := by
  have HE := Lib.hid hE
  clear hE
  go_enter Tryd.func6, Tryd.ntmps6
  go_wp2_with fail
  refine (head03_any _ HE.out).mono ?_
  rintro e w0 ⟨rfl, hb0⟩
  have HB0 := Lib.hid hb0
  clear hb0
  go_wp2_with fail
  refine (lex_any a ha _ (HE.out.keep HB0.out)).mono ?_
  generalize hla : Np.lex a.data.toList = ra
  have HLA := Lib.hid hla
  clear hla
  obtain ⟨l, ea, qa⟩ := ra
  rintro e w1 ⟨v1, rfl, hx1, hb1⟩
  have HX1 := Lib.hid hx1
  have HB1 := Lib.hid (HB0.out.trans (hb1.mono HB0.out.size))
  obtain ⟨A1, c1, rfl, hc1, hl1, _⟩ := hx1
  clear hb1
  go_wp2_with fail
  refine (lex_any b hb _ (HE.out.keep HB1.out)).mono ?_
  generalize hlb : Np.lex b.data.toList = rb
  have HLB := Lib.hid hlb
  clear hlb
  obtain ⟨m, eb, qb⟩ := rb
  rintro e w2 ⟨v2, rfl, hx2, hb2⟩
  have HX1' := Lib.hid ((HX1.out.keep rtok_kept hb2).more rtok_more hb2.size)
  have HX2 := Lib.hid hx2
  have HB2 := Lib.hid (HB1.out.trans (hb2.mono HB1.out.size))
  obtain ⟨A2, c2, rfl, hc2, hl2, _⟩ := hx2
  clear hb2 HX1
  simp only at hc1 hl1 hc2 hl2 ⊢
  by_cases hin : ea = 0 ∧ eb = 0 ∧ a.size + b.size + 1 ≤ 8000 ∧ l.length + m.length ≤ 2000
  · obtain ⟨rfl, rfl, i3, i4⟩ := hin
    have i3' : (a.size : Int) + (b.size : Int) + 1 ≤ 8000 := by omega
    have i4' : (l.length : Int) + (m.length : Int) ≤ 2000 := by omega
    go_wp2_with fail
    have hcat : (a ++ (⟨#[10]⟩ : ByteArray) ++ b).data.toList = a.data.toList ++ 10 :: b.data.toList := by simp
    have hcs : (a ++ (⟨#[10]⟩ : ByteArray) ++ b).size ≤ 140737488355328 := by rw [← size_list, hcat]; simp; omega
    refine (lex_any _ hcs _ (HE.out.keep HB2.out)).mono ?_
    rw [hcat, Np.lex_join HLA.out HLB.out (by rw [size_list, size_list]; exact i3) i4]
    rintro e w3 ⟨v3, rfl, hx3, hb3⟩
    have HL' := Lib.hid ((HX1'.out.keep rtok_kept hb3).more rtok_more hb3.size)
    have HM' := Lib.hid ((HX2.out.keep rtok_kept hb3).more rtok_more hb3.size)
    have HN3 := Lib.hid hx3
    have HB3 := Lib.hid (HB2.out.trans (hb3.mono HB2.out.size))
    obtain ⟨A3, c3, rfl, hc3, hl3, _⟩ := hx3
    simp only [List.length_append, List.length_map] at hc3 HN3 ⊢
    have hpl : ∀ t ∈ l, 0 ≤ t.pos ∧ t.pos ≤ 100000 := fun t ht => by
      have h := (Np.lex_place _ a.data.toList 0 0 (Nat.le_refl _) (by omega)).1 t (by rw [(Np.lex_ok HLA.out).2]; exact ht)
      rw [size_list] at h; omega
    have hpm : ∀ t ∈ m, 0 ≤ t.pos ∧ t.pos ≤ 100000 := fun t ht => by
      have h := (Np.lex_place _ b.data.toList 0 0 (Nat.le_refl _) (by omega)).1 t (by rw [(Np.lex_ok HLB.out).2]; exact ht)
      rw [size_list] at h; omega
    have HPL := Lib.hid hpl
    have HPM := Lib.hid hpm
    have hcI : (l.length : Int) + (m.length : Int) ≤ (c3 : Int) := by omega
    clear hb3 hcat hcs hl3 hpl hpm HX1' HX2
    by_cases hz : l.length + m.length = 0
    · have hl0 : l = [] := List.eq_nil_of_length_eq_zero (by omega)
      have hm0 : m = [] := List.eq_nil_of_length_eq_zero (by omega)
      subst hl0 hm0
      have hN0 : SlR RTok 4 w3 w3.heap.size (.slice A3 0 c3) [] := HN3.out
      have HN0 := Lib.hid hN0
      clear hN0 HN3 hz
      simp only [List.length_nil] at *
      go_wp2_with fail
      refine (same_yes _ _ [] [] 0 (by decide) (by decide) (fun t ht => by cases ht) rfl _ (slr_empty _ _ _ _) (slr_empty _ _ _ _)).mono ?_
      rintro e w4 ⟨rfl, hb4⟩
      have HB4 := Lib.hid (HB3.out.trans (hb4.mono HB3.out.size))
      clear hb4
      go_wp2_with fail
      all_goals
        refine (same_yes _ _ [] [] ((a.size : Int) + 1) (by omega) (by omega) (fun t ht => by cases ht) rfl _ (slr_empty _ _ _ _) (slr_empty _ _ _ _)).mono ?_
        rintro e w5 ⟨rfl, hb5⟩
        have HB5 := Lib.hid (HB4.out.trans (hb5.mono HB4.out.size))
        clear hb5
        go_wp2_with fail
        go_ret
        exact ⟨rfl, HB5.out⟩
    · obtain ⟨t0, ht0⟩ : ∃ t0, (l ++ m.map (Np.shift (a.data.toList.length + 1 : Nat)))[0]? = some t0 := ⟨_, List.getElem?_eq_getElem (by simp; omega)⟩
      obtain ⟨b3, o3, c3', hA3, hj1, hj2, hj3, hj4, hj5⟩ := tok_at HN3.out ht0
      clear hj1 hj2 hj3 hj4 hj5
      simp only [Value.slice.injEq] at hA3
      obtain ⟨rfl, hq3, rfl⟩ := hA3
      clear hz ht0 hq3
      go_wp2_with fail
      refine (same_yes _ _ l l 0 (by decide) (by decide) HPL.out (shift_zero _) _ HL'.out (slr_take HN3.out)).mono ?_
      rintro e w4 ⟨rfl, hb4⟩
      have HM4 := Lib.hid ((HM'.out.keep rtok_kept hb4).more rtok_more hb4.size)
      have HN4 := Lib.hid ((HN3.out.keep rtok_kept hb4).more rtok_more hb4.size)
      have HB4 := Lib.hid (HB3.out.trans (hb4.mono HB3.out.size))
      clear hb4 HL' HM' HN3
      go_wp2_with fail
      · have hm0 : m = [] := List.eq_nil_of_length_eq_zero (by omega)
        subst hm0
        refine (same_yes _ _ [] [] ((a.size : Int) + 1) (by omega) (by omega) (fun t ht => by cases ht) rfl _ HM4.out (slr_empty _ _ _ _)).mono ?_
        rintro e w5 ⟨rfl, hb5⟩
        have HB5 := Lib.hid (HB4.out.trans (hb5.mono HB4.out.size))
        clear hb5
        go_wp2_with fail
        go_ret
        exact ⟨rfl, HB5.out⟩
      · have hd := slr_drop (k := l.length) HN4.out rfl
        rw [List.length_map] at hd
        refine (same_yes _ _ m _ ((a.size : Int) + 1) (by omega) (by omega) HPM.out (by rw [size_list]; rfl) _ HM4.out hd).mono ?_
        rintro e w5 ⟨rfl, hb5⟩
        have HB5 := Lib.hid (HB4.out.trans (hb5.mono HB4.out.size))
        clear hb5
        go_wp2_with fail
        go_ret
        exact ⟨rfl, HB5.out⟩
  · have HN := Lib.hid hin
    clear hin
    go_wp2_with fail
    all_goals first
      | (go_ret; exact ⟨rfl, HB2.out⟩)
      | (exfalso; have := HN.out; simp_all; omega)
end Go.Proofs.YtafpbfmhhpcalaaDoor
