/- Joined by program from: RefCmp, RefCmp2. No condition. -/
import Derived.Test.YtnbolgdccdnjeaaGreatDoorNB
import Derived.Test.YtnbolgdccdnjeaaGreatDoorRf2
import Derived.Laws.StructEq
/- The reference's comparisons of sets and zones. No condition on the program. -/
namespace Go.Proofs.YtnbolgdccdnjeaaGreatDoor
open Go.RowKit
theorem neqDatumC (a b : ByteArray) (n m p q : Int) (w : World) : (binOp .neq 43 (.agg #[.string a, .int .i64 n, .int .i64 m]) (.agg #[.string b, .int .i64 p, .int .i64 q])).run Tryz.prog w = .ok (.bool (!(a.toList == b.toList && (n == p && m == q)))) w := by
  have u3 := Tryz.underlying3
  have a3 := Tryz.isAgg3
  have z3 := Tryz.sizeOf3
  have u9 := Tryz.underlying9
  have a9 := Tryz.isAgg9
  have z9 := Tryz.sizeOf9
  have hS : Tryz.prog.underlying 43 = some (.struct (Tryz.prog.fieldsOf 43)) := by kernel_rfl
  have hp : Tryz.prog.stoodInHeld 43 = false := by kernel_rfl
  rw [run_neq_struct, show (10000 : Nat) = 9999 + 1 from rfl, run_equalIn_agg w 9999 43 _ _ hS hp]
  simp only [Program.fieldsOf, Tryz.underlying43]
  go_simp
  by_cases h0 : a.toList = b.toList <;> by_cases h1 : n = p <;> by_cases h2 : m = q <;> simp [h0, h1, h2]
theorem datum_neq {d x : Np.Datum} {a b : ByteArray} (ha : a.data.toList = d.text) (hb : b.data.toList = x.text) : (!(a.toList == b.toList && (d.n == x.n && d.m == x.m))) = decide (d ≠ x) := by
  rw [ByteArray.toList_eq, ByteArray.toList_eq, ha, hb, Bool.eq_iff_iff]
  simp only [Bool.not_eq_true', Bool.and_eq_false_iff, beq_eq_false_iff_ne, decide_eq_true_eq]
  obtain ⟨t, n, m⟩ := d
  obtain ⟨t2, n2, m2⟩ := x
  simp only [ne_eq, Np.Datum.mk.injEq, not_and]
  constructor
  · rintro (h | h | h) rfl rfl
    · exact absurd rfl h
    · exact absurd rfl h
    · exact h
  · intro h
    by_cases h1 : t = t2
    · by_cases h2 : n = n2
      · exact .inr (.inr (h h1 h2))
      · exact .inr (.inl h2)
    · exact .inl h1
theorem ctake_next {α : Type} {xs ys : List α} {k : Nat} (h1 : k < xs.length) (h2 : k < ys.length) (h : xs.take k = ys.take k) (he : xs[k] = ys[k]) : xs.take (k + 1) = ys.take (k + 1) := by
  rw [List.take_succ_eq_append_getElem h1, List.take_succ_eq_append_getElem h2, h, he]
theorem ctake_all {α : Type} {xs ys : List α} {k : Nat} (hl : xs.length = ys.length) (hk : ¬ k < xs.length) (h : xs.take k = ys.take k) : xs = ys := by
  rwa [List.take_of_length_le (by omega), List.take_of_length_le (by omega)] at h
set_option maxRecDepth 100000 in
set_option maxHeartbeats 4000000 in
theorem sameSet_any (s1 s2 : ByteArray) (t1 l1 t2 l2 : Int) (v1 v2 : Value) (d1 d2 : List Np.Datum) (w : World) (hd1 : SlR RDatum 3 w w.heap.size v1 d1) (hd2 : SlR RDatum 3 w w.heap.size v2 d2) :
    Calls Tryz.prog 33 #[.agg #[.string s1, .int .i64 t1, .int .i64 l1, v1], .agg #[.string s2, .int .i64 t2, .int .i64 l2, v2]] w
      fun e w' => e = .returned (.bool (decide (s1 = s2 ∧ t1 = t2 ∧ l1 = l2 ∧ d1 = d2))) ∧ Below w.heap.size w w' := by
  obtain ⟨r, hr⟩ : ∃ r, decide (s1 = s2 ∧ t1 = t2 ∧ l1 = l2 ∧ d1 = d2) = r := ⟨_, rfl⟩
  rw [hr]
  have HR := Lib.hid hr
  have HD1 := Lib.hid hd1
  have HD2 := Lib.hid hd2
  obtain ⟨A1, c1, rfl, hc1, hl1⟩ := slr_form hd1
  obtain ⟨A2, c2, rfl, hc2, hl2⟩ := slr_form hd2
  have hal : Below w.heap.size w ((w.alloc (.cells #[.string s1, .int .i64 t1, .int .i64 l1, .slice A1 d1.length c1] 39)).alloc (.cells #[.string s2, .int .i64 t2, .int .i64 l2, .slice A2 d2.length c2] 39)) := ((Below.refl _ _).alloc (Nat.le_refl _) _).alloc (by simp) _
  have HAL := Lib.hid hal
  clear hr hd1 hd2 hal
  have hneq : ∀ x y : Int, (x != y) = decide (x ≠ y) := fun x y => by by_cases h : x = y <;> simp [h]
  by_cases h1 : s1 = s2
  case neg =>
    have h1' : ¬ s1.toList = s2.toList := fun e => h1 (str_ext (by rw [← ByteArray.toList_eq, ← ByteArray.toList_eq]; exact e))
    have HF := Lib.hid (show r = false by rw [← HR.out]; simp [h1])
    clear h1 hneq
    go_enter Tryz.func33, Tryz.ntmps33
    go_wp2_with fail
    go_ret
    exact ⟨ret_bool HF.out.symm, HAL.out⟩
  case pos =>
    subst h1
    by_cases h2 : t1 = t2
    case neg =>
      have h2' : (t1 != t2) = true := by simpa using h2
      have HF := Lib.hid (show r = false by rw [← HR.out]; simp [h2])
      clear h2 hneq
      go_enter Tryz.func33, Tryz.ntmps33
      go_wp2_with fail
      go_ret
      exact ⟨ret_bool HF.out.symm, HAL.out⟩
    case pos =>
      subst h2
      by_cases h3 : l1 = l2
      case neg =>
        have h3' : (l1 != l2) = true := by simpa using h3
        have HF := Lib.hid (show r = false by rw [← HR.out]; simp [h3])
        clear h3 hneq
        go_enter Tryz.func33, Tryz.ntmps33
        go_wp2_with fail
        go_ret
        exact ⟨ret_bool HF.out.symm, HAL.out⟩
      case pos =>
        subst h3
        by_cases h4 : d1.length = d2.length
        case neg =>
          have h4' : ((d1.length : Int) != (d2.length : Int)) = true := by rw [hneq]; simp; omega
          have HF := Lib.hid (show r = false by rw [← HR.out]; simp; intro e; exact h4 (by rw [e]))
          clear h4 hneq
          go_enter Tryz.func33, Tryz.ntmps33
          go_wp2_with fail
          go_ret
          exact ⟨ret_bool HF.out.symm, HAL.out⟩
        case pos =>
          have h4' : ((d1.length : Int) != (d2.length : Int)) = false := by rw [hneq]; simp; omega
          have HL := Lib.hid h4
          clear h4 hneq
          go_enter Tryz.func33, Tryz.ntmps33
          go_wp2_with fail
          have hW1 : ((w.alloc (.cells #[.string s1, .int .i64 t1, .int .i64 l1, .slice A1 d1.length c1] 39)).alloc (.cells #[.string s1, .int .i64 t1, .int .i64 l1, .slice A2 d2.length c2] 39)).heap.size = w.heap.size + 1 + 1 := by simp
          have q1 : ((w.alloc (.cells #[.string s1, .int .i64 t1, .int .i64 l1, .slice A1 d1.length c1] 39)).alloc (.cells #[.string s1, .int .i64 t1, .int .i64 l1, .slice A2 d2.length c2] 39)).cell? ⟨w.heap.size, 3, none⟩ = some (.slice A1 d1.length c1) := by simp [go_sem]
          have q2 : ((w.alloc (.cells #[.string s1, .int .i64 t1, .int .i64 l1, .slice A1 d1.length c1] 39)).alloc (.cells #[.string s1, .int .i64 t1, .int .i64 l1, .slice A2 d2.length c2] 39)).cell? ⟨w.heap.size + 1, 3, none⟩ = some (.slice A2 d2.length c2) := by simp [go_sem]
          generalize hwa : ((w.alloc (.cells #[.string s1, .int .i64 t1, .int .i64 l1, .slice A1 d1.length c1] 39)).alloc (.cells #[.string s1, .int .i64 t1, .int .i64 l1, .slice A2 d2.length c2] 39)) = wa at *
          have HQ := Lib.hid (And.intro q1 (And.intro q2 hW1))
          clear hwa q1 q2 hW1
          go_loopw [5] (fun i wr => ∃ k : Nat, k ≤ d1.length ∧ i = .int .i64 k ∧ Hid (d1.take k = d2.take k) ∧ Hid (Below wa.heap.size wa wr)) (fun i _ => d1.length - (intOf i).toNat)
          case atStart => exact ⟨0, Nat.zero_le _, rfl, Lib.hid rfl, Lib.hid (Below.refl _ _)⟩
          case round =>
            obtain ⟨k, hk, rfl, HN, HB⟩ := hrel
            have hbw := HAL.out.trans (HB.out.mono HAL.out.size)
            have hqq := HQ.out
            have g1 := (HB.out.cell (p := ⟨w.heap.size, 3, none⟩) (by dsimp only; omega)).trans hqq.1
            have g2 := (HB.out.cell (p := ⟨w.heap.size + 1, 3, none⟩) (by dsimp only; omega)).trans hqq.2.1
            clear hqq
            by_cases hlt : k < d1.length
            · have hlt2 : k < d2.length := by have := HL.out; omega
              obtain ⟨b, o, c', s, hv, hbl, _, hs1, _, e0, e1, e2⟩ := datum_at HD1.out (List.getElem?_eq_getElem hlt)
              simp only [Value.slice.injEq, true_and] at hv
              obtain ⟨rfl, rfl⟩ := hv
              obtain ⟨b', o', c'', s', hv, hbl', _, hs2, _, f0, f1, f2⟩ := datum_at HD2.out (List.getElem?_eq_getElem hlt2)
              simp only [Value.slice.injEq, true_and] at hv
              obtain ⟨rfl, rfl⟩ := hv
              have HT := Lib.hid (ctake_next hlt hlt2 HN.out)
              have HNE := Lib.hid (show d1[k] ≠ d2[k] → r = false from fun hne => by rw [← HR.out]; simp; intro e; subst e; exact hne rfl)
              generalize d1[k] = x at *
              generalize d2[k] = y at *
              replace e0 := (hbw.cell (p := ⟨b, o + k * 3, none⟩) hbl).trans e0
              replace e1 := (hbw.cell (p := ⟨b, o + k * 3 + 1, none⟩) hbl).trans e1
              replace e2 := (hbw.cell (p := ⟨b, o + k * 3 + 2, none⟩) hbl).trans e2
              replace f0 := (hbw.cell (p := ⟨b', o' + k * 3, none⟩) hbl').trans f0
              replace f1 := (hbw.cell (p := ⟨b', o' + k * 3 + 1, none⟩) hbl').trans f1
              replace f2 := (hbw.cell (p := ⟨b', o' + k * 3 + 2, none⟩) hbl').trans f2
              have hk0 : (0 : Int) ≤ (k : Int) := by omega
              have hk1 : (k : Int) < (d1.length : Int) := by omega
              have hk2 : (k : Int) < (d2.length : Int) := by omega
              have heq := neqDatumC s s' x.n x.m y.n y.m
              rw [datum_neq hs1 hs2] at heq
              clear hbw hs1 hs2
              by_cases hx : x = y
              · have HX := Lib.hid hx
                have hxf : decide (x ≠ y) = false := by simpa using hx
                rw [hxf] at heq
                clear hx hxf
                go_wp2_with fail
                go_quiet (fail)
                go_wp2_with fail
                go_roundw
                case rel => exact ⟨k + 1, by omega, by go_num, Lib.hid (HT.out HX.out), Lib.hid (below_drewN HB.out _)⟩
                case measure => simp [intOf] <;> omega
              · have HX := Lib.hid hx
                have hxf : decide (x ≠ y) = true := by simpa using hx
                rw [hxf] at heq
                clear hx hxf
                go_wp2_with fail
                go_quiet (fail)
                go_wp2_with fail
                go_ret
                exact ⟨ret_bool (HNE.out HX.out).symm, below_drewN (HAL.out.trans (HB.out.mono HAL.out.size)) _⟩
            · go_wp2_with fail
              go_ret
              refine ⟨ret_bool ?_, HAL.out.trans (HB.out.mono HAL.out.size)⟩
              rw [← HR.out]
              have := ctake_all HL.out hlt HN.out
              simp [this]
end Go.Proofs.YtnbolgdccdnjeaaGreatDoor
/- The reference's comparisons of zones without signatures, where they say yes. No condition on the program. -/
namespace Go.Proofs.YtnbolgdccdnjeaaGreatDoor
open Go.RowKit
set_option maxRecDepth 100000 in
set_option maxHeartbeats 2000000 in
theorem sameSigned_yes (s : ByteArray) (t l : Int) (v1 v2 : Value) (d : List Np.Datum) (A1 A2 : Option Addr) (c1 c2 : Nat) (w : World) (hd1 : SlR RDatum 3 w w.heap.size v1 d) (hd2 : SlR RDatum 3 w w.heap.size v2 d) :
    Calls Tryz.prog 161 #[.agg #[.string s, .int .i64 t, .int .i64 l, v1, .slice A1 0 c1], .agg #[.string s, .int .i64 t, .int .i64 l, v2, .slice A2 0 c2]] w
      fun e w' => e = .returned (.bool true) ∧ Below w.heap.size w w' := by
  have HD1 := Lib.hid hd1
  have HD2 := Lib.hid hd2
  obtain ⟨B1, k1, rfl, hc1, hl1⟩ := slr_form hd1
  obtain ⟨B2, k2, rfl, hc2, hl2⟩ := slr_form hd2
  obtain ⟨n, hn⟩ : ∃ n, n = d.length := ⟨_, rfl⟩
  have HN := Lib.hid hn
  rw [← hn] at HD1 HD2 ⊢
  have hal : Below w.heap.size w ((w.alloc (.cells #[.string s, .int .i64 t, .int .i64 l, .slice B1 n k1, .slice A1 0 c1] 41)).alloc (.cells #[.string s, .int .i64 t, .int .i64 l, .slice B2 n k2, .slice A2 0 c2] 41)) := ((Below.refl _ _).alloc (Nat.le_refl _) _).alloc (by simp) _
  have HAL := Lib.hid hal
  clear hd1 hd2 hal hn hc1 hc2 hl1 hl2
  go_enter Tryz.func161, Tryz.ntmps161
  have q1 : ((w.alloc (.cells #[.string s, .int .i64 t, .int .i64 l, .slice B1 n k1, .slice A1 0 c1] 41)).alloc (.cells #[.string s, .int .i64 t, .int .i64 l, .slice B2 n k2, .slice A2 0 c2] 41)).cell? ⟨w.heap.size, 4, none⟩ = some (.slice A1 0 c1) := by simp [go_sem]
  have q2 : ((w.alloc (.cells #[.string s, .int .i64 t, .int .i64 l, .slice B1 n k1, .slice A1 0 c1] 41)).alloc (.cells #[.string s, .int .i64 t, .int .i64 l, .slice B2 n k2, .slice A2 0 c2] 41)).cell? ⟨w.heap.size + 1, 4, none⟩ = some (.slice A2 0 c2) := by simp [go_sem]
  have hws : ((w.alloc (.cells #[.string s, .int .i64 t, .int .i64 l, .slice B1 n k1, .slice A1 0 c1] 41)).alloc (.cells #[.string s, .int .i64 t, .int .i64 l, .slice B2 n k2, .slice A2 0 c2] 41)).heap.size = w.heap.size + 1 + 1 := by simp
  have HQ := Lib.hid (And.intro q1 (And.intro q2 hws))
  clear q1 q2 hws
  go_wp2_with fail
  refine (sameSet_any s s t l t l _ _ d d _ (HD1.out.later rdatum_kept rdatum_more HAL.out) (HD2.out.later rdatum_kept rdatum_more HAL.out)).mono ?_
  rintro e w1 ⟨rfl, hb1⟩
  have hdec : decide (s = s ∧ t = t ∧ l = l ∧ d = d) = true := by simp
  rw [hdec]
  have hqq := HQ.out
  have g1 := (hb1.cell (p := ⟨w.heap.size, 4, none⟩) (by dsimp only; omega)).trans hqq.1
  have g2 := (hb1.cell (p := ⟨w.heap.size + 1, 4, none⟩) (by dsimp only; omega)).trans hqq.2.1
  have HB1 := Lib.hid (HAL.out.trans (hb1.mono HAL.out.size))
  clear hb1 hdec hqq
  go_wp2_with fail
  go_loop [5] (fun i => i = .int .i64 0) (fun _ => 0)
  case atStart => rfl
  case round =>
    subst hrel
    go_wp2_with fail
    go_ret
    exact ⟨rfl, HB1.out⟩
/-- Signed sets without signatures. -/
def Plain0 (xs : List Np.Signed) : Prop := ∀ x ∈ xs, x.sigs = []
set_option maxRecDepth 100000 in
set_option maxHeartbeats 2000000 in
theorem sameList_yes (u v : Value) (xs : List Np.Signed) (w : World) (h0 : Plain0 xs) (hu : SlR RSigned 5 w w.heap.size u xs) (hv : SlR RSigned 5 w w.heap.size v xs) :
    Calls Tryz.prog 121 #[u, v] w fun e w' => e = .returned (.bool true) ∧ Below w.heap.size w w' := by
  have HU := Lib.hid hu
  have HV := Lib.hid hv
  have H0 := Lib.hid h0
  obtain ⟨A, c, rfl, hc1, hl1⟩ := slr_form hu
  obtain ⟨A2, c2, rfl, hc2, hl2⟩ := slr_form hv
  clear hu hv h0
  have hnn : ((xs.length : Int) != (xs.length : Int)) = false := by simp
  go_enter Tryz.func121, Tryz.ntmps121
  go_wp2_with fail
  go_loopw [5] (fun i wr => ∃ k : Nat, k ≤ xs.length ∧ i = .int .i64 k ∧ Hid (Below w.heap.size w wr)) (fun i _ => xs.length - (intOf i).toNat)
  case atStart => exact ⟨0, Nat.zero_le _, rfl, Lib.hid (Below.refl _ _)⟩
  case round =>
    obtain ⟨k, hk, rfl, HB⟩ := hrel
    by_cases hlt : k < xs.length
    · obtain ⟨b, o, c', s, dv, sv, hA, hb, _, hs, hsz, hdv, hsv, e0, e1, e2, e3, e4⟩ := signed_at (HU.out.later rsigned_kept rsigned_more HB.out) (List.getElem?_eq_getElem hlt)
      cases hA
      obtain ⟨b2, o2, c2', s', dv', sv', hA, hb2, _, hs', hsz', hdv', hsv', f0, f1, f2, f3, f4⟩ := signed_at (HV.out.later rsigned_kept rsigned_more HB.out) (List.getElem?_eq_getElem hlt)
      simp only [Value.slice.injEq] at hA
      obtain ⟨rfl, _, rfl⟩ := hA
      have hss : s' = s := str_ext (by rw [hs, hs'])
      subst hss
      have hz := H0.out xs[k] (List.getElem_mem hlt)
      generalize xs[k] = x at *
      obtain ⟨S1, m1, rfl, _, _⟩ := slr_form hsv
      obtain ⟨S2, m2, rfl, _, _⟩ := slr_form hsv'
      rw [hz] at e4 f4
      simp only [List.length_nil] at e4 f4
      have HDV := Lib.hid hdv
      have HDV' := Lib.hid hdv'
      obtain ⟨D1, n1, rfl, _, _⟩ := slr_form hdv
      obtain ⟨D2, n2, rfl, _, _⟩ := slr_form hdv'
      have hk0 : (0 : Int) ≤ (k : Int) := by omega
      have hk1 : (k : Int) < (xs.length : Int) := by omega
      have hgc : ∀ (g : Grow wr) (p : Addr), p.block < wr.heap.size → g.w.cell? p = wr.cell? p := fun g p h => g.cell p h
      have hcall : ∀ g : Grow wr, Calls Tryz.prog 161 #[.agg #[.string s', .int .i64 x.set.type, .int .i64 x.set.life, .slice D1 x.set.data.length n1, .slice S1 0 m1], .agg #[.string s', .int .i64 x.set.type, .int .i64 x.set.life, .slice D2 x.set.data.length n2, .slice S2 0 m2]] g.w fun e w' => e = .returned (.bool true) ∧ Below g.w.heap.size g.w w' := fun g =>
        sameSigned_yes s' _ _ _ _ x.set.data _ _ _ _ g.w (HDV.out.later rdatum_kept rdatum_more g.below) (HDV'.out.later rdatum_kept rdatum_more g.below)
      have HCALL := Lib.hid hcall
      clear hcall hs hs' hsv hsv' hdv hdv' hz hsz hsz'
      go_wp2_with fail
      refine wp_region_grow (by kernel_rfl) (by kernel_rfl) ?_
      repeat (go_big_quiet_step ((go_at_call 161; exact Calls.grow_of (HCALL.out _))))
      refine wpQuiet_nil ?_
      rintro _ ⟨g, rfl⟩
      go_wp2_with fail
      go_roundw
      case rel => exact ⟨k + 1, by omega, by go_num, Lib.hid (HB.out.trans (g.below.mono HB.out.size))⟩
      case measure => simp [intOf] <;> omega
    · go_wp2_with fail
      go_ret
      exact ⟨rfl, HB.out⟩
set_option maxRecDepth 100000 in
set_option maxHeartbeats 2000000 in
theorem sameZone_yes (s : ByteArray) (u v : Value) (xs : List Np.Signed) (w : World) (h0 : Plain0 xs) (hu : SlR RSigned 5 w w.heap.size u xs) (hv : SlR RSigned 5 w w.heap.size v xs) :
    Calls Tryz.prog 69 #[.agg #[.string s, u], .agg #[.string s, v]] w fun e w' => e = .returned (.bool true) ∧ Below w.heap.size w w' := by
  have HU := Lib.hid hu
  have HV := Lib.hid hv
  have hal : Below w.heap.size w ((w.alloc (.cells #[.string s, u] 32)).alloc (.cells #[.string s, v] 32)) := ((Below.refl _ _).alloc (Nat.le_refl _) _).alloc (by simp) _
  have HAL := Lib.hid hal
  obtain ⟨A, c, rfl, hc1, hl1⟩ := slr_form hu
  obtain ⟨A2, c2, rfl, hc2, hl2⟩ := slr_form hv
  clear hu hv hal
  go_enter Tryz.func69, Tryz.ntmps69
  go_wp2_with fail
  refine (sameList_yes _ _ xs _ h0 (HU.out.later rsigned_kept rsigned_more HAL.out) (HV.out.later rsigned_kept rsigned_more HAL.out)).mono ?_
  rintro e w1 ⟨rfl, hb1⟩
  have HB1 := Lib.hid (HAL.out.trans (hb1.mono HAL.out.size))
  clear hb1
  go_wp2_with fail
  go_ret
  exact ⟨rfl, HB1.out⟩
set_option maxRecDepth 100000 in
set_option maxHeartbeats 2000000 in
theorem sameZones_yes (u v : Value) (zs : List Np.Zone) (w : World) (h0 : ∀ z ∈ zs, Plain0 z.sets) (hu : SlR RZone 2 w w.heap.size u zs) (hv : SlR RZone 2 w w.heap.size v zs) :
    Calls Tryz.prog 30 #[u, v] w fun e w' => e = .returned (.bool true) ∧ Below w.heap.size w w' := by
  have HU := Lib.hid hu
  have HV := Lib.hid hv
  have H0 := Lib.hid h0
  obtain ⟨A, c, rfl, hc1, hl1⟩ := slr_form hu
  obtain ⟨A2, c2, rfl, hc2, hl2⟩ := slr_form hv
  clear hu hv h0
  have hnn : ((zs.length : Int) != (zs.length : Int)) = false := by simp
  go_enter Tryz.func30, Tryz.ntmps30
  go_wp2_with fail
  go_loopw [5] (fun i wr => ∃ k : Nat, k ≤ zs.length ∧ i = .int .i64 k ∧ Hid (Below w.heap.size w wr)) (fun i _ => zs.length - (intOf i).toNat)
  case atStart => exact ⟨0, Nat.zero_le _, rfl, Lib.hid (Below.refl _ _)⟩
  case round =>
    obtain ⟨k, hk, rfl, HB⟩ := hrel
    by_cases hlt : k < zs.length
    · obtain ⟨b, o, c', s, sv, hA, hb, _, hs, hsz, hsv, e0, e1⟩ := zone_at (HU.out.later rzone_kept rzone_more HB.out) (List.getElem?_eq_getElem hlt)
      cases hA
      obtain ⟨b2, o2, c2', s', sv', hA, hb2, _, hs', hsz', hsv', f0, f1⟩ := zone_at (HV.out.later rzone_kept rzone_more HB.out) (List.getElem?_eq_getElem hlt)
      simp only [Value.slice.injEq] at hA
      obtain ⟨rfl, _, rfl⟩ := hA
      have hss : s' = s := str_ext (by rw [hs, hs'])
      subst hss
      have hz := H0.out zs[k] (List.getElem_mem hlt)
      generalize zs[k] = z at *
      have HSV := Lib.hid hsv
      have HSV' := Lib.hid hsv'
      obtain ⟨D1, n1, rfl, _, _⟩ := slr_form hsv
      obtain ⟨D2, n2, rfl, _, _⟩ := slr_form hsv'
      have hk0 : (0 : Int) ≤ (k : Int) := by omega
      have hk1 : (k : Int) < (zs.length : Int) := by omega
      have hgc : ∀ (g : Grow wr) (p : Addr), p.block < wr.heap.size → g.w.cell? p = wr.cell? p := fun g p h => g.cell p h
      have hcall : ∀ g : Grow wr, Calls Tryz.prog 69 #[.agg #[.string s', .slice D1 z.sets.length n1], .agg #[.string s', .slice D2 z.sets.length n2]] g.w fun e w' => e = .returned (.bool true) ∧ Below g.w.heap.size g.w w' := fun g =>
        sameZone_yes s' _ _ z.sets g.w hz (HSV.out.later rsigned_kept rsigned_more g.below) (HSV'.out.later rsigned_kept rsigned_more g.below)
      have HCALL := Lib.hid hcall
      clear hcall hs hs' hsv hsv' hz hsz hsz'
      go_wp2_with fail
      refine wp_region_grow (by kernel_rfl) (by kernel_rfl) ?_
      repeat (go_big_quiet_step ((go_at_call 69; exact Calls.grow_of (HCALL.out _))))
      refine wpQuiet_nil ?_
      rintro _ ⟨g, rfl⟩
      go_wp2_with fail
      go_roundw
      case rel => exact ⟨k + 1, by omega, by go_num, Lib.hid (HB.out.trans (g.below.mono HB.out.size))⟩
      case measure => simp [intOf] <;> omega
    · go_wp2_with fail
      go_ret
      exact ⟨rfl, HB.out⟩
end Go.Proofs.YtnbolgdccdnjeaaGreatDoor
