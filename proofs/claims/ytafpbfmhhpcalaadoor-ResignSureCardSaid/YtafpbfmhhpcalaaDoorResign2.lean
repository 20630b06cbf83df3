/- Contract of resign.Sure. -/
import Derived.Test.YtafpbfmhhpcalaaDoorResign
namespace Go.Proofs.YtafpbfmhhpcalaaDoor
open Go.RowKit Go.Shelf

/-- A list of elements and an error number are handed back. -/
def GivesSl {α : Type} (R : World → Nat → List Value → α → Prop) (sz : Nat) (w : World) (l : List α) (err : Int) (e : Ending) (w' : World) : Prop :=
  ∃ x, e = .returned (.tuple #[x, .int .i64 err]) ∧ SlR R sz w' w'.heap.size x l ∧ Below w.heap.size w w'
theorem slr_nil {α : Type} {R : World → Nat → List Value → α → Prop} {sz : Nat} (w : World) (B : Nat) : SlR R sz w B (.slice none 0 0) [] := ⟨none, 0, rfl, by simp, by simp, fun i x h => by simp at h⟩

theorem sure_nil {s : Np.Signed} {drift stop : Int} (he : Np.sureErr s drift stop = 0) (h : Np.sureTil s drift stop ≤ Np.sureFrom s drift) : Np.sure s drift stop = [] := by
  unfold Np.sure; rw [if_pos he, if_pos h]
theorem sure_one {s : Np.Signed} {drift stop a b : Int} (he : Np.sureErr s drift stop = 0) (h : a < b) (ha : Np.sureFrom s drift = a) (hb : Np.sureTil s drift stop = b) : Np.sure s drift stop = [⟨a, b⟩] := by
  unfold Np.sure; rw [if_pos he, ha, hb, if_neg (by omega)]
theorem gives_nil {α : Type} {R : World → Nat → List Value → α → Prop} {sz : Nat} {w w' : World} {l : List α} {err n : Int} (hb : Below w.heap.size w w') (hl : l = []) (he : err = n) : GivesSl R sz w l err (.returned (.tuple #[.slice none 0 0, .int .i64 n])) w' :=
  ⟨_, by rw [he], by rw [hl]; exact slr_nil _ _, hb⟩
theorem gives_span {w w1 : World} {l : List Np.Span} {err : Int} {a b : Int} {t : TypeId} (hb : Below w.heap.size w w1) (hl : l = [⟨a, b⟩]) (he : err = 0) :
    GivesSl RSpan 2 w l err (.returned (.tuple #[.slice (some ⟨w1.heap.size, 0, none⟩) 1 1, .int .i64 0])) (w1.alloc (.cells #[.int .i64 a, .int .i64 b] t)) := by
  refine ⟨_, by rw [he], ?_, hb.alloc hb.size _⟩
  subst hl
  refine ⟨_, 1, rfl, by simp, by simp, fun i x hx => ?_⟩
  match i, hx with
  | 0, hx =>
    simp at hx
    subst hx
    refine ⟨w1.heap.size, 0, [.int .i64 a, .int .i64 b], rfl, by simp, rfl, fun j v hj => ?_, rfl⟩
    have := World.cell?_alloc_new w1 #[.int .i64 a, .int .i64 b] t j
    simp only [Nat.zero_add, Nat.zero_mul]
    rw [this, ← hj]; simp
  | i + 1, hx => simp at hx

set_option maxRecDepth 100000 in
set_option maxHeartbeats 2000000 in
theorem sure_any (s : ByteArray) (hs : s.size ≤ 140737488355328) (ty life : Int) (v u : Value) (ds : List Np.Datum) (gs : List Np.Sig) (drift stop : Int) (w : World) (hR : RulesIn w w.heap.size) (hd : SlR RDatum 3 w w.heap.size v ds) (hg : SlR RSig 6 w w.heap.size u gs) :
    Calls Tryd.prog 14 #[.agg #[.string s, .int .i64 ty, .int .i64 life, v, u], .int .i64 drift, .int .i64 stop] w
      (GivesSl RSpan 2 w (Np.sure ⟨⟨s.data.toList, ty, life, ds⟩, gs⟩ drift stop) (Np.sureErr ⟨⟨s.data.toList, ty, life, ds⟩, gs⟩ drift stop)) := by
  have HR := Lib.hid hR
  have HD := Lib.hid hd
  have HG := Lib.hid hg
  obtain ⟨A, c, rfl, hc1, hl1, he1⟩ := hd
  obtain ⟨A2, c2, rfl, hc2, hl2, he2⟩ := hg
  clear hR he1 he2
  have i0 : ∀ w, (Instr.index 86 (.agg #[.int .i64 drift, .int .i64 0, .int .i64 1000, .int .i64 stop, .int .i64 1, .int .i64 20000000]) (.int .i64 0)).run Tryd.prog w = .ok (.agg #[.int .i64 drift, .int .i64 0, .int .i64 1000]) w := fun _ => by kernel_rfl
  have i1 : ∀ w, (Instr.index 86 (.agg #[.int .i64 drift, .int .i64 0, .int .i64 1000, .int .i64 stop, .int .i64 1, .int .i64 20000000]) (.int .i64 1)).run Tryd.prog w = .ok (.agg #[.int .i64 stop, .int .i64 1, .int .i64 20000000]) w := fun _ => by kernel_rfl
  go_enter Tryd.func14, Tryd.ntmps14
  go_wp2_with fail
  have c0 : ((w.alloc (.cells #[.string s, .int .i64 ty, .int .i64 life, .slice A ds.length c, .slice A2 gs.length c2] 41)).alloc (.cells #[.int .i64 drift, .int .i64 0, .int .i64 1000, .int .i64 stop, .int .i64 1, .int .i64 20000000] 86)).cell? ⟨w.heap.size, 0, none⟩ = some (.string s) := by go_simp
  have c1 : ((w.alloc (.cells #[.string s, .int .i64 ty, .int .i64 life, .slice A ds.length c, .slice A2 gs.length c2] 41)).alloc (.cells #[.int .i64 drift, .int .i64 0, .int .i64 1000, .int .i64 stop, .int .i64 1, .int .i64 20000000] 86)).cell? ⟨w.heap.size, 1, none⟩ = some (.int .i64 ty) := by go_simp
  have c2' : ((w.alloc (.cells #[.string s, .int .i64 ty, .int .i64 life, .slice A ds.length c, .slice A2 gs.length c2] 41)).alloc (.cells #[.int .i64 drift, .int .i64 0, .int .i64 1000, .int .i64 stop, .int .i64 1, .int .i64 20000000] 86)).cell? ⟨w.heap.size, 2, none⟩ = some (.int .i64 life) := by go_simp
  have c3 : ((w.alloc (.cells #[.string s, .int .i64 ty, .int .i64 life, .slice A ds.length c, .slice A2 gs.length c2] 41)).alloc (.cells #[.int .i64 drift, .int .i64 0, .int .i64 1000, .int .i64 stop, .int .i64 1, .int .i64 20000000] 86)).cell? ⟨w.heap.size, 3, none⟩ = some (.slice A ds.length c) := by go_simp
  have c4 : ((w.alloc (.cells #[.string s, .int .i64 ty, .int .i64 life, .slice A ds.length c, .slice A2 gs.length c2] 41)).alloc (.cells #[.int .i64 drift, .int .i64 0, .int .i64 1000, .int .i64 stop, .int .i64 1, .int .i64 20000000] 86)).cell? ⟨w.heap.size, 4, none⟩ = some (.slice A2 gs.length c2) := by go_simp
  have hbW : Below w.heap.size w ((w.alloc (.cells #[.string s, .int .i64 ty, .int .i64 life, .slice A ds.length c, .slice A2 gs.length c2] 41)).alloc (.cells #[.int .i64 drift, .int .i64 0, .int .i64 1000, .int .i64 stop, .int .i64 1, .int .i64 20000000] 86)) := ((Below.refl _ w).alloc (Nat.le_refl _) _).alloc (by simp) _
  have hsW : w.heap.size < ((w.alloc (.cells #[.string s, .int .i64 ty, .int .i64 life, .slice A ds.length c, .slice A2 gs.length c2] 41)).alloc (.cells #[.int .i64 drift, .int .i64 0, .int .i64 1000, .int .i64 stop, .int .i64 1, .int .i64 20000000] 86)).heap.size := by simp; omega
  generalize (w.alloc (.cells #[.string s, .int .i64 ty, .int .i64 life, .slice A ds.length c, .slice A2 gs.length c2] 41)).alloc (.cells #[.int .i64 drift, .int .i64 0, .int .i64 1000, .int .i64 stop, .int .i64 1, .int .i64 20000000] 86) = W0 at c0 c1 c2' c3 c4 hbW hsW ⊢
  have HW := Lib.hid hbW
  clear hbW
  go_loopw [19] (fun i wr => ∃ k : Nat, k ≤ 2 ∧ i = .int .i64 k ∧ Below W0.heap.size W0 wr ∧ (1 ≤ k → 0 ≤ drift ∧ drift ≤ 1000) ∧ (2 ≤ k → 1 ≤ stop ∧ stop ≤ 20000000)) (fun i _ => 2 - (intOf i).toNat)
  case atStart => exact ⟨0, by omega, rfl, Below.refl _ _, by omega, by omega⟩
  case round =>
    obtain ⟨k, hk, rfl, hbr, h1, h2⟩ := hrel
    have HB := Lib.hid hbr
    have hsr := hbr.size
    have H1 := Lib.hid h1
    have H2 := Lib.hid h2
    clear h1 h2 hbr
    rcases (by omega : k = 0 ∨ k = 1 ∨ k = 2) with rfl | rfl | rfl
    · by_cases hd : 0 ≤ drift ∧ drift ≤ 1000
      · go_wp2_with (go_at_call 33; refine (bound_any _ _ _ _).mono ?_; rintro e w' ⟨rfl, hb⟩)
        go_roundw
        case rel => exact ⟨1, by omega, rfl, HB.out.trans (((Below.refl _ wr).alloc (Nat.le_refl _) _).trans (hb.mono (by simp)) |>.mono hsr), fun _ => hd, by omega⟩
        case measure => simp [intOf] <;> omega
      · have hd' : (decide (0 ≤ drift) && decide (drift ≤ 1000)) = false := by simp; omega
        go_wp2_with (go_at_call 33; refine (bound_any _ _ _ _).mono ?_; rintro e w' ⟨rfl, hb⟩)
        all_goals first
          | (go_ret2
             have he : Np.sureErr ⟨⟨s.data.toList, ty, life, ds⟩, gs⟩ drift stop = 1 := by rw [Np.sureErr, if_neg (by omega)]
             exact gives_nil (HW.out.trans ((HB.out.trans (((Below.refl _ wr).alloc (Nat.le_refl _) _).trans (hb.mono (by simp)) |>.mono hsr)).mono (by omega))) (by rw [Np.sure, he]; rfl) he)
          | (exfalso; omega)
    · by_cases hd : 1 ≤ stop ∧ stop ≤ 20000000
      · go_wp2_with (go_at_call 33; refine (bound_any _ _ _ _).mono ?_; rintro e w' ⟨rfl, hb⟩)
        go_roundw
        case rel => exact ⟨2, by omega, rfl, HB.out.trans (((Below.refl _ wr).alloc (Nat.le_refl _) _).trans (hb.mono (by simp)) |>.mono hsr), fun _ => H1.out (by omega), fun _ => hd⟩
        case measure => simp [intOf] <;> omega
      · have hd' : (decide (1 ≤ stop) && decide (stop ≤ 20000000)) = false := by simp; omega
        go_wp2_with (go_at_call 33; refine (bound_any _ _ _ _).mono ?_; rintro e w' ⟨rfl, hb⟩)
        all_goals first
          | (go_ret2
             have he : Np.sureErr ⟨⟨s.data.toList, ty, life, ds⟩, gs⟩ drift stop = 1 := by rw [Np.sureErr, if_neg (by omega)]
             exact gives_nil (HW.out.trans ((HB.out.trans (((Below.refl _ wr).alloc (Nat.le_refl _) _).trans (hb.mono (by simp)) |>.mono hsr)).mono (by omega))) (by rw [Np.sure, he]; rfl) he)
          | (exfalso; omega)
    · obtain ⟨hd1, hd2⟩ := H1.out (by omega)
      obtain ⟨hs1, hs2⟩ := H2.out (by omega)
      have d0 : wr.cell? ⟨w.heap.size, 0, none⟩ = some (.string s) := (HB.out.cell hsW).trans c0
      have d1 : wr.cell? ⟨w.heap.size, 1, none⟩ = some (.int .i64 ty) := (HB.out.cell hsW).trans c1
      have d2 : wr.cell? ⟨w.heap.size, 2, none⟩ = some (.int .i64 life) := (HB.out.cell hsW).trans c2'
      have d3 : wr.cell? ⟨w.heap.size, 3, none⟩ = some (.slice A ds.length c) := (HB.out.cell hsW).trans c3
      have d4 : wr.cell? ⟨w.heap.size, 4, none⟩ = some (.slice A2 gs.length c2) := (HB.out.cell hsW).trans c4
      have hbwr : Below w.heap.size w wr := HW.out.trans (HB.out.mono (by omega))
      clear c0 c1 c2' c3 c4
      go_wp2_with fail
      refine (plain_any s hs ty life _ _ ds gs _ ?_ ?_ ?_).mono ?_
      · exact (HR.out.keep hbwr).more (by omega)
      · exact (HD.out.keep rdatum_kept hbwr).more rdatum_more (by omega)
      · exact (HG.out.keep rsig_kept hbwr).more rsig_more (by omega)
      rintro e w1 ⟨rfl, hb⟩
      have hs1z := hb.size
      have hbw1 : Below w.heap.size w w1 := hbwr.trans (hb.mono (by omega))
      have f4 : w1.cell? ⟨w.heap.size, 4, none⟩ = some (.slice A2 gs.length c2) := (hb.cell (by simp; omega)).trans d4
      have HBW := Lib.hid hbw1
      clear hb hbwr d0 d1 d2 d3 d4 hbw1
      by_cases hp : Np.plain ⟨⟨s.data.toList, ty, life, ds⟩, gs⟩ = true
      · have he : Np.sureErr ⟨⟨s.data.toList, ty, life, ds⟩, gs⟩ drift stop = 0 := by rw [Np.sureErr, if_pos ⟨hd1, hd2, hs1, hs2, hp⟩]
        have HE := Lib.hid he
        clear he
        by_cases hne : gs = []
        · subst hne
          go_wp2_with fail
          go_ret2
          exact gives_span HBW.out (sure_one HE.out (by omega) rfl rfl) HE.out
        · obtain ⟨g, gr, rfl⟩ : ∃ g gr, gs = g :: gr := List.exists_cons_of_ne_nil hne
          obtain ⟨A', c', hA', _, _, hel⟩ := HG.out.keep rsig_kept HBW.out
          cases hA'
          obtain ⟨b, o, e, rfl, hbB, _, hce, zs, hzs, hzss, rfl⟩ := hel 0 g rfl
          have e3 : w1.cell? ⟨b, o + 3, none⟩ = some (.int .i64 g.frm) := by have := hce 3 _ rfl; simpa using this
          have e4 : w1.cell? ⟨b, o + 4, none⟩ = some (.int .i64 g.til) := by have := hce 4 _ rfl; simpa using this
          have hps : Np.plainSigs (g :: gr) = true := by
            simp only [Np.plain, Bool.and_eq_true] at hp
            exact hp.2
          have hgb : 0 ≤ g.frm ∧ g.frm ≤ g.til ∧ g.til ≤ 20000000 := by
            simp only [Np.plainSigs, Bool.and_eq_true, Bool.not_eq_true', Bool.or_eq_false_iff, decide_eq_false_iff_not] at hps
            omega
          obtain ⟨hg1, hg2, hg3⟩ := hgb
          clear hce hel hne hzs hps
          have hf : Np.sureFrom ⟨⟨s.data.toList, ty, life, ds⟩, g :: gr⟩ drift = g.frm + drift := rfl
          have ht : Np.sureTil ⟨⟨s.data.toList, ty, life, ds⟩, g :: gr⟩ drift stop = min stop (g.til - drift + 1) := rfl
          have HF := Lib.hid hf
          have HT := Lib.hid ht
          clear hf ht
          by_cases hm : g.til - drift + 1 < stop
          all_goals
            go_wp2_with fail
            · go_ret2
              exact gives_nil HBW.out (sure_nil HE.out (by rw [HT.out, HF.out]; omega)) HE.out
            · go_ret2
              exact gives_span HBW.out (sure_one HE.out (by omega) HF.out (by rw [HT.out]; omega)) HE.out
      · have hp' : Np.plain ⟨⟨s.data.toList, ty, life, ds⟩, gs⟩ = false := by simpa using hp
        have he : Np.sureErr ⟨⟨s.data.toList, ty, life, ds⟩, gs⟩ drift stop = 1 := by rw [Np.sureErr, if_neg (fun h => hp h.2.2.2.2)]
        have HE := Lib.hid he
        clear he hp
        go_wp2_with fail
        go_ret2
        exact gives_nil HBW.out (by rw [Np.sure, HE.out]; rfl) HE.out
end Go.Proofs.YtafpbfmhhpcalaaDoor
