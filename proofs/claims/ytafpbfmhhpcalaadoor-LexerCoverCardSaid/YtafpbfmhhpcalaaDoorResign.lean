/- Contracts of package resign. -/
import Derived.Test.YtafpbfmhhpcalaaDoorFind
import Derived.Test.YtafpbfmhhpcalaaDoorSpec2
import Derived.BigRegion
import Derived.RegionTactic
namespace Go.Proofs.YtafpbfmhhpcalaaDoor
open Go.RowKit Go.Shelf

def RSig (_ : World) (_ : Nat) (e : List Value) (g : Np.Sig) : Prop := ∃ s : ByteArray, s.data.toList = g.zone ∧ s.size ≤ 140737488355328 ∧ e = [.string s, .int .i64 g.key, .int .i64 g.alg, .int .i64 g.frm, .int .i64 g.til, .int .u64 g.sum]
theorem rsig_kept : KeptR RSig := fun _ _ _ _ _ h _ => h
theorem rsig_more : MoreR RSig := fun _ _ _ _ _ h _ => h
def RSpan (_ : World) (_ : Nat) (e : List Value) (x : Np.Span) : Prop := e = [.int .i64 x.frm, .int .i64 x.til]
theorem rspan_kept : KeptR RSpan := fun _ _ _ _ _ h _ => h
theorem rspan_more : MoreR RSpan := fun _ _ _ _ _ h _ => h

theorem bound_any (v l m : Int) (w : World) :
    Calls Tryd.prog 33 #[.agg #[.int .i64 v, .int .i64 l, .int .i64 m]] w fun e w' => e = .returned (.bool (decide (l ≤ v) && decide (v ≤ m))) ∧ Below w.heap.size w w' := by
  by_cases h1 : l ≤ v
  all_goals
    go_enter Tryd.func33, Tryd.ntmps33
    go_wp2
    go_ret
    exact ⟨ret_bool (by simp; omega), (Below.refl _ _).alloc (Nat.le_refl _) _⟩

set_option maxHeartbeats 1000000 in
theorem plain1_any (b1 b2 : Nat) (f t : Int) (w : World) (h1 : w.cell? ⟨b1, 0, none⟩ = some (.int .i64 f)) (h2 : w.cell? ⟨b2, 0, none⟩ = some (.int .i64 t)) (hb1 : b1 < w.heap.size) (hb2 : b2 < w.heap.size) (e0 e1 e2 e5 : Value) (x y : Int) :
    Calls Tryd.prog 77 #[.agg #[e0, e1, e2, .int .i64 x, .int .i64 y, e5], .pointer (some ⟨b1, 0, none⟩), .pointer (some ⟨b2, 0, none⟩)] w fun e w' => e = .returned (.bool ((x != f) || (y != t))) ∧ Below w.heap.size w w' := by
  go_enter Tryd.func77, Tryd.ntmps77
  go_wp2
  all_goals
    go_ret
    go_light
    refine ⟨ret_bool ?_, (Below.refl _ _).alloc (Nat.le_refl _) _⟩
    simp_all

set_option maxRecDepth 100000 in
set_option maxHeartbeats 2000000 in
theorem plain_any (s : ByteArray) (hs : s.size ≤ 140737488355328) (ty life : Int) (v u : Value) (ds : List Np.Datum) (gs : List Np.Sig) (w : World) (hR : RulesIn w w.heap.size) (hd : SlR RDatum 3 w w.heap.size v ds) (hg : SlR RSig 6 w w.heap.size u gs) :
    Calls Tryd.prog 41 #[.agg #[.string s, .int .i64 ty, .int .i64 life, v, u]] w
      fun e w' => e = .returned (.bool (Np.plain ⟨⟨s.data.toList, ty, life, ds⟩, gs⟩)) ∧ Below w.heap.size w w' := by
  have HR := Lib.hid hR
  have HD := Lib.hid hd
  have HG := Lib.hid hg
  obtain ⟨A, c, rfl, hc1, hl1, he1⟩ := hd
  obtain ⟨A2, c2, rfl, hc2, hl2, he2⟩ := hg
  clear hR he1 he2
  go_enter Tryd.func41, Tryd.ntmps41
  go_wp2_with fail
  refine (recValid_any s hs ty life _ ds _ ?_ ?_).mono ?_
  · exact (HR.out.keep ((Below.refl _ w).alloc (Nat.le_refl _) _)).more (by simp)
  · exact (HD.out.keep rdatum_kept ((Below.refl _ w).alloc (Nat.le_refl _) _)).more rdatum_more (by simp)
  rintro e w1 ⟨rfl, hb⟩
  have hb0 : Below w.heap.size w w1 := ((Below.refl _ w).alloc (Nat.le_refl _) _).trans (hb.mono (by simp))
  have hlt1 : w.heap.size < w1.heap.size := by have := hb.size; simp at this; omega
  have c4 : w1.cell? ⟨w.heap.size, 4, none⟩ = some (.slice A2 gs.length c2) := by rw [hb.cell (by simp)]; go_simp
  clear hb
  by_cases hne : gs = []
  · subst hne
    go_wp2_with fail
    all_goals
      go_ret
      go_light
      refine ⟨ret_bool ?_, hb0⟩
      simp_all [Np.plain, Np.plainSigs]
  · obtain ⟨g, gr, rfl⟩ : ∃ g gr, gs = g :: gr := List.exists_cons_of_ne_nil hne
    obtain ⟨A', c', hA', _, _, hel⟩ := HG.out.keep rsig_kept hb0
    cases hA'
    obtain ⟨b, o, e, rfl, hbB, _, hce, zs, hzs, hzss, rfl⟩ := hel 0 g rfl
    have e3 : w1.cell? ⟨b, o + 3, none⟩ = some (.int .i64 g.frm) := by have := hce 3 _ rfl; simpa using this
    have e4 : w1.cell? ⟨b, o + 4, none⟩ = some (.int .i64 g.til) := by have := hce 4 _ rfl; simpa using this
    have hbl : b < w1.heap.size := by omega
    clear hce hel hne hzs
    go_wp2_with fail
    · go_ret
      go_light
      refine ⟨ret_bool ?_, hb0⟩
      simp_all [Np.plain]
    · go_ret
      go_light
      refine ⟨ret_bool ?_, hb0⟩
      have h6 : ¬ gr.length + 1 ≤ 6 := by omega
      simp [Np.plain, h6]
    · have hbl2 : ¬ b = w1.heap.size := by omega
      have hbl3 : ¬ w.heap.size = w1.heap.size := by omega
      have hbl4 : ¬ b = w1.heap.size + 1 := by omega
      have hbl5 : ¬ w.heap.size = w1.heap.size + 1 := by omega
      go_region
      all_goals
        go_wp2_with fail
        · go_ret
          go_light
          refine ⟨ret_bool ?_, Below.drew ((hb0.alloc (by omega) _).alloc (by simp; omega) _)⟩
          simp_all [Np.plain, Np.plainSigs]
        · go_ret
          go_light
          refine ⟨ret_bool ?_, Below.drew ((hb0.alloc (by omega) _).alloc (by simp; omega) _)⟩
          simp_all [Np.plain, Np.plainSigs]
        · go_ret
          go_light
          refine ⟨ret_bool ?_, Below.drew ((hb0.alloc (by omega) _).alloc (by simp; omega) _)⟩
          simp_all [Np.plain, Np.plainSigs]
        · have h1 : g.til ≤ 20000000 := by assumption
          have h2 : 0 ≤ g.frm := by assumption
          have h3 : g.frm ≤ g.til := by assumption
          have h4 : Np.validSet ⟨s.data.toList, ty, life, ds⟩ = true := by assumption
          have h5 : (gr.length : Int) + 1 ≤ 6 := by assumption
          have hfin : Np.plain ⟨⟨s.data.toList, ty, life, ds⟩, g :: gr⟩ = !((g :: gr).any (Np.sameWin g)) := by
            go_light
            have h6 : gr.length + 1 ≤ 6 := by omega
            have a1 : ¬ g.frm < 0 := by omega
            have a2 : ¬ g.til < g.frm := by omega
            have a3 : ¬ 20000000 < g.til := by omega
            simp [Np.plain, Np.plainSigs, h4, h6, a1, a2, a3]
          have HF := Lib.hid hfin
          clear hfin
          refine (containsFuncSig (R := RSig) rsig_kept 77 (enters_of Tryd.func77 (by kernel_rfl) rfl) _ (Np.sameWin g) _ (g :: gr) _ _ (Nat.le_refl _) ?_ ?_).mono ?_
          · exact (HG.out.keep rsig_kept (Below.drew ((hb0.alloc (by omega) _).alloc (by simp; omega) _))).more rsig_more (by simp; omega)
          · intro W x e0 e1 e2 e3 e4 e5 hx hW hBW hRx
            obtain ⟨zz, _, _, hee⟩ := hRx
            simp only [List.cons.injEq, and_true] at hee
            obtain ⟨rfl, rfl, rfl, rfl, rfl, rfl⟩ := hee
            refine (plain1_any _ _ g.frm g.til W ?_ ?_ ?_ ?_ _ _ _ _ _ _)
            · rw [hW.cell (by simp <;> omega)]; go_simp
            · rw [hW.cell (by simp <;> omega)]; go_simp
            · simp at hBW; omega
            · simp at hBW; omega
          · rintro e w2 ⟨rfl, hb2⟩
            go_wp2_with fail
            go_ret
            exact ⟨ret_bool (by rw [HF.out]; simp), (Below.drew ((hb0.alloc (by omega) _).alloc (by simp; omega) _)).trans (hb2.mono (by simp; omega))⟩
end Go.Proofs.YtafpbfmhhpcalaaDoor
