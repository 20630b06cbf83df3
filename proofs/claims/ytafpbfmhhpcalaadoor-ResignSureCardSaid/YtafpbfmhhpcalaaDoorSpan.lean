/- span.Valid, span.Has. -/
import Derived.Test.YtafpbfmhhpcalaaDoorResign
namespace Go.Proofs.YtafpbfmhhpcalaaDoor
open Go.RowKit Go.Shelf
def Np.spanHas (l : List Np.Span) (t : Int) : Bool := l.any fun s => decide (s.frm ≤ t) && decide (t < s.til)
set_option maxRecDepth 100000 in
set_option maxHeartbeats 1000000 in
theorem has1_any (b : Nat) (t f u : Int) (w : World) (h : w.cell? ⟨b, 0, none⟩ = some (.int .i64 t)) :
    Calls Tryd.prog 43 #[.agg #[.int .i64 f, .int .i64 u], .pointer (some ⟨b, 0, none⟩)] w fun e w' => e = .returned (.bool (decide (f ≤ t) && decide (t < u))) ∧ Below w.heap.size w w' := by
  have lb := World.block_lt_of_cell? w _ h
  simp only at lb
  go_enter Tryd.func43, Tryd.ntmps43
  go_wp2_with fail
  all_goals
    go_ret
    go_light
    refine ⟨ret_bool ?_, (Below.refl _ w).alloc (Nat.le_refl _) _⟩
    simp_all <;> (intros; omega)
set_option maxRecDepth 100000 in
set_option maxHeartbeats 1000000 in
theorem has_any (v : Value) (l : List Np.Span) (t : Int) (w : World) (h : SlR RSpan 2 w w.heap.size v l) :
    Calls Tryd.prog 16 #[v, .int .i64 t] w fun e w' => e = .returned (.bool (Np.spanHas l t)) ∧ Below w.heap.size w w' := by
  have H := Lib.hid h
  obtain ⟨A, c, rfl, hc1, hl1, he1⟩ := h
  clear he1
  have hb0 : ∀ o, Below w.heap.size w (w.alloc o) := fun o => (Below.refl _ w).alloc (Nat.le_refl _) _
  have HB0 := Lib.hid hb0
  clear hb0
  go_enter Tryd.func16, Tryd.ntmps16
  go_wp2_with fail
  refine (containsFuncSpan (R := RSpan) rspan_kept 43 (enters_of Tryd.func43 (by kernel_rfl) rfl) _ (fun s => decide (s.frm ≤ t) && decide (t < s.til)) _ l _ _ (Nat.le_refl _) ?_ ?_).mono ?_
  · exact (H.out.keep rspan_kept (HB0.out _)).more rspan_more (by simp)
  · intro W x e0 e1 hx hW hBW hRx
    simp only [RSpan, List.cons.injEq, and_true] at hRx
    obtain ⟨rfl, rfl⟩ := hRx
    refine has1_any w.heap.size t x.frm x.til W ?_
    rw [hW.cell (by simp)]; go_simp
  · rintro e w1 ⟨rfl, hb⟩
    have HB := Lib.hid hb
    clear hb
    go_wp2_with fail
    go_ret
    exact ⟨rfl, (HB0.out _).trans (HB.out.mono (by simp))⟩
/-- What Valid asks of each stretch, given the end of the one before. -/
def Np.spanOk (p : Option Int) (s : Np.Span) : Bool := decide (0 ≤ s.frm) && (decide (s.frm < s.til) && (decide (s.til ≤ 20000000) && (match p with | none => true | some u => decide (u < s.frm))))
def Np.spansOk : Option Int → List Np.Span → Bool
  | _, [] => true
  | p, s :: r => Np.spanOk p s && Np.spansOk (some s.til) r
def Np.spanValid (l : List Np.Span) : Bool := decide (l.length ≤ 20000) && Np.spansOk none l
def Np.lastTil (l : List Np.Span) : Option Int := l.getLast?.map (·.til)
theorem spansOk_bad {l : List Np.Span} {k : Nat} {s : Np.Span} (hs : l[k]? = some s) (h : Np.spanOk (Np.lastTil (l.take k)) s = false) : Np.spansOk (Np.lastTil (l.take k)) (l.drop k) = false := by
  rw [List.drop_eq_getElem_cons (List.getElem?_eq_some_iff.1 hs).1, (List.getElem?_eq_some_iff.1 hs).2]
  simp [Np.spansOk, h]
theorem spansOk_good {l : List Np.Span} {k : Nat} {s : Np.Span} (hs : l[k]? = some s) (h : Np.spanOk (Np.lastTil (l.take k)) s = true) : Np.spansOk (Np.lastTil (l.take k)) (l.drop k) = Np.spansOk (Np.lastTil (l.take (k + 1))) (l.drop (k + 1)) := by
  have h1 := (List.getElem?_eq_some_iff.1 hs)
  rw [List.drop_eq_getElem_cons h1.1, h1.2, List.take_succ_eq_append_getElem h1.1, h1.2]
  rw [Np.spansOk, h, Bool.true_and]
  simp [Np.lastTil]
theorem lastTil_succ {l : List Np.Span} {k : Nat} {s : Np.Span} (hs : l[k]? = some s) : Np.lastTil (l.take (k + 1)) = some s.til := by
  have h1 := (List.getElem?_eq_some_iff.1 hs)
  rw [List.take_succ_eq_append_getElem h1.1, h1.2]
  simp [Np.lastTil]
set_option maxRecDepth 100000 in
set_option maxHeartbeats 1000000 in
theorem spanValid_any (v : Value) (l : List Np.Span) (w : World) (h : SlR RSpan 2 w w.heap.size v l) :
    Calls Tryd.prog 15 #[v] w fun e w' => e = .returned (.bool (Np.spanValid l)) ∧ Below w.heap.size w w' := by
  have H := Lib.hid h
  obtain ⟨A, c, rfl, hc1, hl1, he1⟩ := h
  clear he1
  by_cases h20 : l.length ≤ 20000
  · have HV : Hid (Np.spanValid l = Np.spansOk none l) := Lib.hid (by simp [Np.spanValid, h20])
    go_enter Tryd.func15, Tryd.ntmps15
    go_wp2_with fail
    go_loopw [10] (fun i wr => ∃ k : Nat, k ≤ l.length ∧ i = .int .i64 k ∧ Below w.heap.size w wr ∧ Hid (Np.spansOk none l = Np.spansOk (Np.lastTil (l.take k)) (l.drop k))) (fun i _ => l.length - (intOf i).toNat)
    case atStart => exact ⟨0, Nat.zero_le _, rfl, Below.refl _ _, Lib.hid rfl⟩
    case round =>
      obtain ⟨k, hk, rfl, hb, HA⟩ := hrel
      by_cases hlt : k < l.length
      · obtain ⟨A', c', hA', _, _, hel⟩ := H.out.keep rspan_kept hb
        cases hA'
        obtain ⟨b, o, e, rfl, hbl, hlen, hce, hR⟩ := hel k _ (List.getElem?_eq_getElem hlt)
        obtain rfl := hR
        have h0 : wr.cell? ⟨b, o + k * 2, none⟩ = some (.int .i64 l[k].frm) := hce 0 _ rfl
        have h1 : wr.cell? ⟨b, o + k * 2 + 1, none⟩ = some (.int .i64 l[k].til) := hce 1 _ rfl
        have HS : Hid (l[k]? = some l[k]) := Lib.hid (List.getElem?_eq_getElem hlt)
        have hbs := hb.size
        have HBB := Lib.hid hb
        clear hce hb
        have hbl' : b < wr.heap.size := by omega
        have hcase : (decide (l[k].frm < 0) = true) ∨ (decide (l[k].frm < 0) = false ∧ decide (l[k].til ≤ l[k].frm) = true) ∨ (decide (l[k].frm < 0) = false ∧ decide (l[k].til ≤ l[k].frm) = false ∧ decide (20000000 < l[k].til) = true) ∨ (decide (l[k].frm < 0) = false ∧ decide (l[k].til ≤ l[k].frm) = false ∧ decide (20000000 < l[k].til) = false) := by
          simp only [decide_eq_true_eq, decide_eq_false_iff_not]; omega
        rcases hcase with d1 | ⟨d1, d2⟩ | ⟨d1, d2, d3⟩ | ⟨d1, d2, d3⟩
        · have HX : Hid (Np.spanOk (Np.lastTil (l.take k)) l[k] = false) := Lib.hid (by unfold Np.spanOk; rw [show decide (0 ≤ l[k].frm) = false by simp at d1 ⊢; omega]; rfl)
          clear hel
          go_wp2_with fail
          go_quiet (fail)
          go_wp2_with fail
          go_ret
          exact ⟨ret_bool (by rw [HV.out, HA.out, spansOk_bad HS.out HX.out]), below_drewN (HBB.out.alloc HBB.out.size _) _⟩
        · have HX : Hid (Np.spanOk (Np.lastTil (l.take k)) l[k] = false) := Lib.hid (by unfold Np.spanOk; rw [show decide (l[k].frm < l[k].til) = false by simp at d2 ⊢; omega]; simp)
          clear hel
          go_wp2_with fail
          go_quiet (fail)
          go_wp2_with fail
          go_ret
          exact ⟨ret_bool (by rw [HV.out, HA.out, spansOk_bad HS.out HX.out]), below_drewN (HBB.out.alloc HBB.out.size _) _⟩
        · have HX : Hid (Np.spanOk (Np.lastTil (l.take k)) l[k] = false) := Lib.hid (by unfold Np.spanOk; rw [show decide (l[k].til ≤ 20000000) = false by simp at d3 ⊢; omega]; simp)
          clear hel
          go_wp2_with fail
          go_quiet (fail)
          go_wp2_with fail
          go_ret
          exact ⟨ret_bool (by rw [HV.out, HA.out, spansOk_bad HS.out HX.out]), below_drewN (HBB.out.alloc HBB.out.size _) _⟩
        · have g1 : decide (0 ≤ l[k].frm) = true := by simp at d1 ⊢; omega
          have g2 : decide (l[k].frm < l[k].til) = true := by simp at d2 ⊢; omega
          have g3 : decide (l[k].til ≤ 20000000) = true := by simp at d3 ⊢; omega
          by_cases hk0 : 0 < k
          · obtain ⟨m, rfl⟩ : ∃ m, k = m + 1 := ⟨k - 1, by omega⟩
            obtain ⟨b', o', e', hb', _, _, hce', hR'⟩ := hel m _ (List.getElem?_eq_getElem (by omega))
            cases hb'
            obtain rfl := hR'
            have p1 : wr.cell? ⟨b, o + m * 2 + 1, none⟩ = some (.int .i64 (l[m]'(by omega)).til) := hce' 1 _ rfl
            have hLT : Np.lastTil (l.take (m + 1)) = some (l[m]'(by omega)).til := lastTil_succ (List.getElem?_eq_getElem (by omega))
            have hm0 : decide ((0 : Int) < ((m + 1 : Nat) : Int)) = true := by simp
            have hm1 : (((m + 1 : Nat) : Int) - 1) = (m : Int) := by omega
            by_cases hpr : l[m + 1].frm ≤ (l[m]'(by omega)).til
            · have d4 : decide (l[m + 1].frm ≤ (l[m]'(by omega)).til) = true := by simpa using hpr
              have HX : Hid (Np.spanOk (Np.lastTil (l.take (m + 1))) l[m + 1] = false) := Lib.hid (by rw [hLT]; simp only [Np.spanOk, g1, g2, g3, Bool.true_and]; simp; omega)
              clear hel hce' hLT hpr g1 g2 g3
              go_wp2_with fail
              go_quiet (fail)
              go_wp2_with fail
              go_ret
              exact ⟨ret_bool (by rw [HV.out, HA.out, spansOk_bad HS.out HX.out]), below_drewN (HBB.out.alloc HBB.out.size _) _⟩
            · have d4 : decide (l[m + 1].frm ≤ (l[m]'(by omega)).til) = false := by simpa using hpr
              have HX : Hid (Np.spanOk (Np.lastTil (l.take (m + 1))) l[m + 1] = true) := Lib.hid (by rw [hLT]; simp only [Np.spanOk, g1, g2, g3, Bool.true_and]; simp; omega)
              clear hel hce' hLT hpr g1 g2 g3
              go_wp2_with fail
              go_quiet (fail)
              go_wp2_with fail
              go_roundw
              case rel => exact ⟨m + 1 + 1, by omega, by go_num, below_drewN (HBB.out.alloc HBB.out.size _) _, Lib.hid (by rw [HA.out, spansOk_good HS.out HX.out])⟩
              case measure => simp [intOf] <;> omega
          · have hz : k = 0 := by omega
            have HX : Hid (Np.spanOk (Np.lastTil (l.take k)) l[k] = true) := Lib.hid (by
              have : Np.lastTil (l.take k) = none := by rw [hz]; rfl
              rw [this]; simp only [Np.spanOk, g1, g2, g3, Bool.true_and])
            have hm0 : decide ((0 : Int) < (k : Int)) = false := by simp; omega
            have hm2 : decide (0 < k) = false := by simp; omega
            clear hel hz hk0 g1 g2 g3
            go_wp2_with fail
            go_quiet (fail)
            go_wp2_with fail
            go_roundw
            case rel => exact ⟨k + 1, by omega, by go_num, below_drewN (HBB.out.alloc HBB.out.size _) _, Lib.hid (by rw [HA.out, spansOk_good HS.out HX.out])⟩
            case measure => simp [intOf] <;> omega
      · go_wp2_with fail
        go_ret
        refine ⟨ret_bool ?_, hb⟩
        rw [HV.out, HA.out, List.drop_of_length_le (by omega)]; rfl
  · have h20' : 20000 < l.length := by omega
    clear h20
    go_enter Tryd.func15, Tryd.ntmps15
    go_wp2_with fail
    go_ret
    exact ⟨ret_bool (by simp [Np.spanValid]; omega), Below.refl _ _⟩
end Go.Proofs.YtafpbfmhhpcalaaDoor
