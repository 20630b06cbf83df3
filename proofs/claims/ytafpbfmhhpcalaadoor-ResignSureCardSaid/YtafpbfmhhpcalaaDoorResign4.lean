/- Contract of resign.Times. -/
import Derived.Test.YtafpbfmhhpcalaaDoorResign3
import Derived.Test.YtafpbfmhhpcalaaDoorOwn
namespace Go.Proofs.YtafpbfmhhpcalaaDoor
open Go.RowKit Go.Shelf
attribute [local go_sem] Oper.semAt_some

theorem Tryd.infoInt : (Tryd.prog.info? 3).map (fun i => (i.zero, i.size, i.bytes)) = some (some (.int .i64 0), 1, 8) := by kernel_rfl

/-- The first k bounds are met. -/
def Bounds5 (b s l d f : Int) (k : Nat) : Prop := (1 ≤ k → 0 ≤ d ∧ d ≤ 1000) ∧ (2 ≤ k → 1 ≤ s ∧ s ≤ 10000000) ∧ (3 ≤ k → d ≤ b ∧ b ≤ s - 1) ∧ (4 ≤ k → 1 ≤ l ∧ l ≤ 10000000) ∧ (5 ≤ k → 0 ≤ f ∧ f ≤ 100000)

theorem timesErr_arg {b s l d f : Int} (h : ¬ (0 ≤ d ∧ d ≤ 1000 ∧ 1 ≤ s ∧ s ≤ 10000000 ∧ d ≤ b ∧ b ≤ s - 1 ∧ 1 ≤ l ∧ l ≤ 10000000 ∧ 0 ≤ f ∧ f ≤ 100000)) : Np.timesErr b s l d f = 1 := by
  unfold Np.timesErr; rw [if_neg (show ¬ Np.timesArg b s l d f from h)]
theorem times_nil {b s l d f n : Int} (h : Np.timesErr b s l d f = n) (hn : n ≠ 0) : Np.times b s l d f = [] := by
  unfold Np.times; rw [if_neg (by omega)]

def TmI (w : World) (lb : Nat) (pre : List Int) (S : Nat → Prop) (W : World) : Prop :=
  ∃ v, (∀ k, S k ↔ (k = w.heap.size ∨ k = w.heap.size + 1) ∨ k = lb ∨ v.ownBlock = some k) ∧ Boxed W w.heap.size 24 (.slice none 0 0) ∧ Boxed W (w.heap.size + 1) 25 (.int .i64 0) ∧ Boxed W lb 24 v ∧
    W.ownsRow (lb + 1) 3 1 v pre.length (pre.map (Value.int .i64)) ∧ pre.length ≤ 400 ∧ Below w.heap.size w W
def TmX (w : World) (xs : List Int) (c : Code) (_ : List Int) (S : Nat → Prop) (W : World) : Prop :=
  c = .ret ∧ (S w.heap.size ∧ S (w.heap.size + 1)) ∧ Boxed W w.heap.size 24 (.slice none 0 0) ∧ Boxed W (w.heap.size + 1) 25 (.int .i64 2) ∧ 400 < xs.length ∧ Below w.heap.size w W
theorem tmI_stable (w : World) (lb B : Nat) (hB : w.heap.size ≤ B) : StableAt B (TmI w lb) := by
  rintro pre S W W' ⟨v, hS, h1, h2, h3, h4, h5, h6⟩ hst
  exact ⟨v, hS, boxed_it h1 hst ((hS _).2 (.inl (.inl rfl))), boxed_it h2 hst ((hS _).2 (.inl (.inr rfl))), boxed_it h3 hst ((hS _).2 (.inr (.inl rfl))), ownsRow_it h4 hst (fun g hg => (hS _).2 (.inr (.inr hg))), h5, below_it h6 hst hB (Nat.le_refl _)⟩
theorem tmX_stable (w : World) (xs : List Int) (B : Nat) (hB : w.heap.size ≤ B) (c : Code) : StableAt B (TmX w xs c) := by
  rintro pre S W W' ⟨hc, hS, h1, h2, h3, h4⟩ hst
  exact ⟨hc, hS, boxed_it h1 hst hS.1, boxed_it h2 hst hS.2, h3, below_it h4 hst hB (Nat.le_refl _)⟩

set_option maxRecDepth 100000 in
set_option maxHeartbeats 4000000 in
theorem times_any (b s l d f : Int) (w : World) :
    Calls Tryd.prog 12 #[.int .i64 b, .int .i64 s, .int .i64 l, .int .i64 d, .int .i64 f] w (GivesSl RInt 1 w (Np.times b s l d f) (Np.timesErr b s l d f)) := by
  obtain ⟨r, hr⟩ : ∃ r, wrap64 (s - 1) = r := ⟨_, rfl⟩
  have i0 : ∀ w, (Instr.index 74 (.agg #[.int .i64 d, .int .i64 0, .int .i64 1000, .int .i64 s, .int .i64 1, .int .i64 10000000, .int .i64 b, .int .i64 d, .int .i64 r, .int .i64 l, .int .i64 1, .int .i64 10000000, .int .i64 f, .int .i64 0, .int .i64 100000]) (.int .i64 0)).run Tryd.prog w = .ok (.agg #[.int .i64 d, .int .i64 0, .int .i64 1000]) w := fun _ => by kernel_rfl
  have i1 : ∀ w, (Instr.index 74 (.agg #[.int .i64 d, .int .i64 0, .int .i64 1000, .int .i64 s, .int .i64 1, .int .i64 10000000, .int .i64 b, .int .i64 d, .int .i64 r, .int .i64 l, .int .i64 1, .int .i64 10000000, .int .i64 f, .int .i64 0, .int .i64 100000]) (.int .i64 1)).run Tryd.prog w = .ok (.agg #[.int .i64 s, .int .i64 1, .int .i64 10000000]) w := fun _ => by kernel_rfl
  have i2 : ∀ w, (Instr.index 74 (.agg #[.int .i64 d, .int .i64 0, .int .i64 1000, .int .i64 s, .int .i64 1, .int .i64 10000000, .int .i64 b, .int .i64 d, .int .i64 r, .int .i64 l, .int .i64 1, .int .i64 10000000, .int .i64 f, .int .i64 0, .int .i64 100000]) (.int .i64 2)).run Tryd.prog w = .ok (.agg #[.int .i64 b, .int .i64 d, .int .i64 r]) w := fun _ => by kernel_rfl
  have i3 : ∀ w, (Instr.index 74 (.agg #[.int .i64 d, .int .i64 0, .int .i64 1000, .int .i64 s, .int .i64 1, .int .i64 10000000, .int .i64 b, .int .i64 d, .int .i64 r, .int .i64 l, .int .i64 1, .int .i64 10000000, .int .i64 f, .int .i64 0, .int .i64 100000]) (.int .i64 3)).run Tryd.prog w = .ok (.agg #[.int .i64 l, .int .i64 1, .int .i64 10000000]) w := fun _ => by kernel_rfl
  have i4 : ∀ w, (Instr.index 74 (.agg #[.int .i64 d, .int .i64 0, .int .i64 1000, .int .i64 s, .int .i64 1, .int .i64 10000000, .int .i64 b, .int .i64 d, .int .i64 r, .int .i64 l, .int .i64 1, .int .i64 10000000, .int .i64 f, .int .i64 0, .int .i64 100000]) (.int .i64 4)).run Tryd.prog w = .ok (.agg #[.int .i64 f, .int .i64 0, .int .i64 100000]) w := fun _ => by kernel_rfl
  refine (callsIn_wide (n := 0)).1 ?_
  refine callsIn_of_wp_marks Tryd.func12 rfl trivial ?_ rfl
  simp only [Tryd.ntmps12, List.size_toArray, List.length_cons, List.length_nil, Nat.reduceAdd, Nat.reduceSub, Array.replicate_succ, Array.replicate_zero, List.push_toArray, List.append_toArray, List.nil_append, List.cons_append]
  gi_wp2_with fail
  have HR := Lib.hid hr
  clear hr
  have q0 : Boxed (((w.alloc (.cells #[.slice none 0 0] 24)).alloc (.cells #[.int .i64 0] 25)).alloc (.cells #[.int .i64 d, .int .i64 0, .int .i64 1000, .int .i64 s, .int .i64 1, .int .i64 10000000, .int .i64 b, .int .i64 d, .int .i64 r, .int .i64 l, .int .i64 1, .int .i64 10000000, .int .i64 f, .int .i64 0, .int .i64 100000] 74)) w.heap.size 24 (.slice none 0 0) := ((Boxed.new w _ _).alloc _).alloc _
  have q1 : Boxed (((w.alloc (.cells #[.slice none 0 0] 24)).alloc (.cells #[.int .i64 0] 25)).alloc (.cells #[.int .i64 d, .int .i64 0, .int .i64 1000, .int .i64 s, .int .i64 1, .int .i64 10000000, .int .i64 b, .int .i64 d, .int .i64 r, .int .i64 l, .int .i64 1, .int .i64 10000000, .int .i64 f, .int .i64 0, .int .i64 100000] 74)) (w.heap.size + 1) 25 (.int .i64 0) := by
    have := (Boxed.new (w.alloc (.cells #[.slice none 0 0] 24)) 25 (.int .i64 0)).alloc (.cells #[.int .i64 d, .int .i64 0, .int .i64 1000, .int .i64 s, .int .i64 1, .int .i64 10000000, .int .i64 b, .int .i64 d, .int .i64 r, .int .i64 l, .int .i64 1, .int .i64 10000000, .int .i64 f, .int .i64 0, .int .i64 100000] 74)
    simpa only [World.size_alloc] using this
  have hbW : Below w.heap.size w (((w.alloc (.cells #[.slice none 0 0] 24)).alloc (.cells #[.int .i64 0] 25)).alloc (.cells #[.int .i64 d, .int .i64 0, .int .i64 1000, .int .i64 s, .int .i64 1, .int .i64 10000000, .int .i64 b, .int .i64 d, .int .i64 r, .int .i64 l, .int .i64 1, .int .i64 10000000, .int .i64 f, .int .i64 0, .int .i64 100000] 74)) := (((Below.refl _ w).alloc (Nat.le_refl _) _).alloc (by simp) _).alloc (by simp; omega) _
  have hsW : w.heap.size + 2 < (((w.alloc (.cells #[.slice none 0 0] 24)).alloc (.cells #[.int .i64 0] 25)).alloc (.cells #[.int .i64 d, .int .i64 0, .int .i64 1000, .int .i64 s, .int .i64 1, .int .i64 10000000, .int .i64 b, .int .i64 d, .int .i64 r, .int .i64 l, .int .i64 1, .int .i64 10000000, .int .i64 f, .int .i64 0, .int .i64 100000] 74)).heap.size := by simp <;> omega
  generalize ((w.alloc (.cells #[.slice none 0 0] 24)).alloc (.cells #[.int .i64 0] 25)).alloc (.cells #[.int .i64 d, .int .i64 0, .int .i64 1000, .int .i64 s, .int .i64 1, .int .i64 10000000, .int .i64 b, .int .i64 d, .int .i64 r, .int .i64 l, .int .i64 1, .int .i64 10000000, .int .i64 f, .int .i64 0, .int .i64 100000] 74) = W0 at q0 q1 hbW hsW ⊢
  have HW := Lib.hid hbW
  clear hbW
  gi_loopw [34] (fun i wr => ∃ k : Nat, k ≤ 5 ∧ i = .int .i64 k ∧ Below W0.heap.size W0 wr ∧ Hid (Bounds5 b s l d f k)) (fun i _ => 5 - (intOf i).toNat)
  case atStart => exact ⟨0, by omega, rfl, Below.refl _ _, Lib.hid ⟨by omega, by omega, by omega, by omega, by omega⟩⟩
  case round =>
    obtain ⟨k, hk, rfl, hbr, HP⟩ := hrel
    have HB := Lib.hid hbr
    have hsr := hbr.size
    clear hbr
    rcases (by omega : k = 0 ∨ k = 1 ∨ k = 2 ∨ k = 3 ∨ k = 4 ∨ k = 5) with rfl | rfl | rfl | rfl | rfl | rfl
    · 
      by_cases hd : 0 ≤ d ∧ d ≤ 1000
      · gi_wp2_with (refine ⟨trivial, rfl, ?_⟩; gi_at_call 33; refine (callsIn_wide.2 (bound_any _ _ _ _)).mono ?_; rintro e w' ⟨rfl, hb⟩)
        go_roundw
        case rel => exact ⟨1, by omega, rfl, HB.out.trans (((Below.refl _ wr).alloc (Nat.le_refl _) _).trans (hb.mono (by simp)) |>.mono hsr), Lib.hid ⟨fun _ => hd, by omega, by omega, by omega, by omega⟩⟩
        case measure => simp [intOf] <;> omega
      · have hd' : (decide (0 ≤ d) && decide (d ≤ 1000)) = false := by simp; omega
        gi_wp2_with (refine ⟨trivial, rfl, ?_⟩; gi_at_call 33; refine (callsIn_wide.2 (bound_any _ _ _ _)).mono ?_; rintro e w' ⟨rfl, hb⟩; have hx0 := boxed_below (boxed_below q0 HB.out (by omega)) (((Below.refl wr.heap.size wr).alloc (Nat.le_refl _) _).trans (hb.mono (by simp))) (by omega); have hx1 := boxed_below (boxed_below q1 HB.out (by omega)) (((Below.refl wr.heap.size wr).alloc (Nat.le_refl _) _).trans (hb.mono (by simp))) (by omega); have y0 := hx0.cell; have y1 := hx0.frozen; have y2 := hx1.cell; have y3 := hx1.frozen)
        all_goals first
          | (exfalso; omega)
          | (have z0 := (boxed_far (hx0.set (.slice none 0 0)) (p := ⟨w.heap.size + 1, 0, none⟩) (by simp) (.int .i64 1)).cell
             have z1 := ((boxed_far hx1 (p := ⟨w.heap.size, 0, none⟩) (by simp) (.slice none 0 0)).set (.int .i64 1)).cell
             refine endM0 (v := .tuple #[.slice none 0 0, .int .i64 1]) (by simp [results, Tryd.results12, go_sem, z0, z1]) ?_
             refine gives_nil ?_ (times_nil (timesErr_arg (by omega)) (by omega)) (timesErr_arg (by omega))
             refine Below.setCell (Below.setCell ?_ (by simp) _) (by simp <;> omega) _
             exact HW.out.trans ((HB.out.trans (((Below.refl _ wr).alloc (Nat.le_refl _) _).trans (hb.mono (by simp)) |>.mono hsr)).mono (by omega)))
    · 
      by_cases hd : 1 ≤ s ∧ s ≤ 10000000
      · gi_wp2_with (refine ⟨trivial, rfl, ?_⟩; gi_at_call 33; refine (callsIn_wide.2 (bound_any _ _ _ _)).mono ?_; rintro e w' ⟨rfl, hb⟩)
        go_roundw
        case rel => exact ⟨2, by omega, rfl, HB.out.trans (((Below.refl _ wr).alloc (Nat.le_refl _) _).trans (hb.mono (by simp)) |>.mono hsr), Lib.hid ⟨fun _ => HP.out.1 (by omega), fun _ => hd, by omega, by omega, by omega⟩⟩
        case measure => simp [intOf] <;> omega
      · have hd' : (decide (1 ≤ s) && decide (s ≤ 10000000)) = false := by simp; omega
        gi_wp2_with (refine ⟨trivial, rfl, ?_⟩; gi_at_call 33; refine (callsIn_wide.2 (bound_any _ _ _ _)).mono ?_; rintro e w' ⟨rfl, hb⟩; have hx0 := boxed_below (boxed_below q0 HB.out (by omega)) (((Below.refl wr.heap.size wr).alloc (Nat.le_refl _) _).trans (hb.mono (by simp))) (by omega); have hx1 := boxed_below (boxed_below q1 HB.out (by omega)) (((Below.refl wr.heap.size wr).alloc (Nat.le_refl _) _).trans (hb.mono (by simp))) (by omega); have y0 := hx0.cell; have y1 := hx0.frozen; have y2 := hx1.cell; have y3 := hx1.frozen)
        all_goals first
          | (exfalso; omega)
          | (have z0 := (boxed_far (hx0.set (.slice none 0 0)) (p := ⟨w.heap.size + 1, 0, none⟩) (by simp) (.int .i64 1)).cell
             have z1 := ((boxed_far hx1 (p := ⟨w.heap.size, 0, none⟩) (by simp) (.slice none 0 0)).set (.int .i64 1)).cell
             refine endM0 (v := .tuple #[.slice none 0 0, .int .i64 1]) (by simp [results, Tryd.results12, go_sem, z0, z1]) ?_
             refine gives_nil ?_ (times_nil (timesErr_arg (by omega)) (by omega)) (timesErr_arg (by omega))
             refine Below.setCell (Below.setCell ?_ (by simp) _) (by simp <;> omega) _
             exact HW.out.trans ((HB.out.trans (((Below.refl _ wr).alloc (Nat.le_refl _) _).trans (hb.mono (by simp)) |>.mono hsr)).mono (by omega)))
    · 
      have hs2 := HP.out.2.1 (by omega)
      have hr2 : r = s - 1 := by rw [← HR.out]; exact IntWalk.wrap64_in _ ⟨by omega, by omega⟩
      subst hr2
      by_cases hd : d ≤ b ∧ b ≤ s - 1
      · gi_wp2_with (refine ⟨trivial, rfl, ?_⟩; gi_at_call 33; refine (callsIn_wide.2 (bound_any _ _ _ _)).mono ?_; rintro e w' ⟨rfl, hb⟩)
        go_roundw
        case rel => exact ⟨3, by omega, rfl, HB.out.trans (((Below.refl _ wr).alloc (Nat.le_refl _) _).trans (hb.mono (by simp)) |>.mono hsr), Lib.hid ⟨fun _ => HP.out.1 (by omega), fun _ => HP.out.2.1 (by omega), fun _ => hd, by omega, by omega⟩⟩
        case measure => simp [intOf] <;> omega
      · have hd' : (decide (d ≤ b) && decide (b ≤ s - 1)) = false := by simp; omega
        gi_wp2_with (refine ⟨trivial, rfl, ?_⟩; gi_at_call 33; refine (callsIn_wide.2 (bound_any _ _ _ _)).mono ?_; rintro e w' ⟨rfl, hb⟩; have hx0 := boxed_below (boxed_below q0 HB.out (by omega)) (((Below.refl wr.heap.size wr).alloc (Nat.le_refl _) _).trans (hb.mono (by simp))) (by omega); have hx1 := boxed_below (boxed_below q1 HB.out (by omega)) (((Below.refl wr.heap.size wr).alloc (Nat.le_refl _) _).trans (hb.mono (by simp))) (by omega); have y0 := hx0.cell; have y1 := hx0.frozen; have y2 := hx1.cell; have y3 := hx1.frozen)
        all_goals first
          | (exfalso; omega)
          | (have z0 := (boxed_far (hx0.set (.slice none 0 0)) (p := ⟨w.heap.size + 1, 0, none⟩) (by simp) (.int .i64 1)).cell
             have z1 := ((boxed_far hx1 (p := ⟨w.heap.size, 0, none⟩) (by simp) (.slice none 0 0)).set (.int .i64 1)).cell
             refine endM0 (v := .tuple #[.slice none 0 0, .int .i64 1]) (by simp [results, Tryd.results12, go_sem, z0, z1]) ?_
             refine gives_nil ?_ (times_nil (timesErr_arg (by omega)) (by omega)) (timesErr_arg (by omega))
             refine Below.setCell (Below.setCell ?_ (by simp) _) (by simp <;> omega) _
             exact HW.out.trans ((HB.out.trans (((Below.refl _ wr).alloc (Nat.le_refl _) _).trans (hb.mono (by simp)) |>.mono hsr)).mono (by omega)))
    · 
      by_cases hd : 1 ≤ l ∧ l ≤ 10000000
      · gi_wp2_with (refine ⟨trivial, rfl, ?_⟩; gi_at_call 33; refine (callsIn_wide.2 (bound_any _ _ _ _)).mono ?_; rintro e w' ⟨rfl, hb⟩)
        go_roundw
        case rel => exact ⟨4, by omega, rfl, HB.out.trans (((Below.refl _ wr).alloc (Nat.le_refl _) _).trans (hb.mono (by simp)) |>.mono hsr), Lib.hid ⟨fun _ => HP.out.1 (by omega), fun _ => HP.out.2.1 (by omega), fun _ => HP.out.2.2.1 (by omega), fun _ => hd, by omega⟩⟩
        case measure => simp [intOf] <;> omega
      · have hd' : (decide (1 ≤ l) && decide (l ≤ 10000000)) = false := by simp; omega
        gi_wp2_with (refine ⟨trivial, rfl, ?_⟩; gi_at_call 33; refine (callsIn_wide.2 (bound_any _ _ _ _)).mono ?_; rintro e w' ⟨rfl, hb⟩; have hx0 := boxed_below (boxed_below q0 HB.out (by omega)) (((Below.refl wr.heap.size wr).alloc (Nat.le_refl _) _).trans (hb.mono (by simp))) (by omega); have hx1 := boxed_below (boxed_below q1 HB.out (by omega)) (((Below.refl wr.heap.size wr).alloc (Nat.le_refl _) _).trans (hb.mono (by simp))) (by omega); have y0 := hx0.cell; have y1 := hx0.frozen; have y2 := hx1.cell; have y3 := hx1.frozen)
        all_goals first
          | (exfalso; omega)
          | (have z0 := (boxed_far (hx0.set (.slice none 0 0)) (p := ⟨w.heap.size + 1, 0, none⟩) (by simp) (.int .i64 1)).cell
             have z1 := ((boxed_far hx1 (p := ⟨w.heap.size, 0, none⟩) (by simp) (.slice none 0 0)).set (.int .i64 1)).cell
             refine endM0 (v := .tuple #[.slice none 0 0, .int .i64 1]) (by simp [results, Tryd.results12, go_sem, z0, z1]) ?_
             refine gives_nil ?_ (times_nil (timesErr_arg (by omega)) (by omega)) (timesErr_arg (by omega))
             refine Below.setCell (Below.setCell ?_ (by simp) _) (by simp <;> omega) _
             exact HW.out.trans ((HB.out.trans (((Below.refl _ wr).alloc (Nat.le_refl _) _).trans (hb.mono (by simp)) |>.mono hsr)).mono (by omega)))
    · 
      by_cases hd : 0 ≤ f ∧ f ≤ 100000
      · gi_wp2_with (refine ⟨trivial, rfl, ?_⟩; gi_at_call 33; refine (callsIn_wide.2 (bound_any _ _ _ _)).mono ?_; rintro e w' ⟨rfl, hb⟩)
        go_roundw
        case rel => exact ⟨5, by omega, rfl, HB.out.trans (((Below.refl _ wr).alloc (Nat.le_refl _) _).trans (hb.mono (by simp)) |>.mono hsr), Lib.hid ⟨fun _ => HP.out.1 (by omega), fun _ => HP.out.2.1 (by omega), fun _ => HP.out.2.2.1 (by omega), fun _ => HP.out.2.2.2.1 (by omega), fun _ => hd⟩⟩
        case measure => simp [intOf] <;> omega
      · have hd' : (decide (0 ≤ f) && decide (f ≤ 100000)) = false := by simp; omega
        gi_wp2_with (refine ⟨trivial, rfl, ?_⟩; gi_at_call 33; refine (callsIn_wide.2 (bound_any _ _ _ _)).mono ?_; rintro e w' ⟨rfl, hb⟩; have hx0 := boxed_below (boxed_below q0 HB.out (by omega)) (((Below.refl wr.heap.size wr).alloc (Nat.le_refl _) _).trans (hb.mono (by simp))) (by omega); have hx1 := boxed_below (boxed_below q1 HB.out (by omega)) (((Below.refl wr.heap.size wr).alloc (Nat.le_refl _) _).trans (hb.mono (by simp))) (by omega); have y0 := hx0.cell; have y1 := hx0.frozen; have y2 := hx1.cell; have y3 := hx1.frozen)
        all_goals first
          | (exfalso; omega)
          | (have z0 := (boxed_far (hx0.set (.slice none 0 0)) (p := ⟨w.heap.size + 1, 0, none⟩) (by simp) (.int .i64 1)).cell
             have z1 := ((boxed_far hx1 (p := ⟨w.heap.size, 0, none⟩) (by simp) (.slice none 0 0)).set (.int .i64 1)).cell
             refine endM0 (v := .tuple #[.slice none 0 0, .int .i64 1]) (by simp [results, Tryd.results12, go_sem, z0, z1]) ?_
             refine gives_nil ?_ (times_nil (timesErr_arg (by omega)) (by omega)) (timesErr_arg (by omega))
             refine Below.setCell (Below.setCell ?_ (by simp) _) (by simp <;> omega) _
             exact HW.out.trans ((HB.out.trans (((Below.refl _ wr).alloc (Nat.le_refl _) _).trans (hb.mono (by simp)) |>.mono hsr)).mono (by omega)))
    · obtain ⟨⟨hd1, hd2⟩, ⟨hs1, hs2⟩, ⟨hb1, hb2⟩, ⟨hl1, hl2⟩, ⟨hf1, hf2⟩⟩ := (⟨HP.out.1 (by omega), HP.out.2.1 (by omega), HP.out.2.2.1 (by omega), HP.out.2.2.2.1 (by omega), HP.out.2.2.2.2 (by omega)⟩ : (0 ≤ d ∧ d ≤ 1000) ∧ (1 ≤ s ∧ s ≤ 10000000) ∧ (d ≤ b ∧ b ≤ s - 1) ∧ (1 ≤ l ∧ l ≤ 10000000) ∧ (0 ≤ f ∧ f ≤ 100000))
      have harg : Np.timesArg b s l d f := ⟨hd1, hd2, hs1, hs2, hb1, hb2, hl1, hl2, hf1, hf2⟩
      have HA := Lib.hid harg
      have p0 := boxed_below q0 HB.out (by omega)
      have p1 := boxed_below q1 HB.out (by omega)
      have hbw : Below w.heap.size w wr := HW.out.trans (HB.out.mono (by omega))
      have hsz : w.heap.size + 2 < wr.heap.size := by omega
      have HBW := Lib.hid hbw
      clear harg q0 q1 hbw i0 i1 i2 i3 i4
      have y0 := p0.cell
      have y1 := p0.frozen
      have y2 := p1.cell
      have y3 := p1.frozen
      by_cases hm : f < 1
      all_goals
        gi_wp2_with fail
        · have z0 := (boxed_far (p0.set (.slice none 0 0)) (p := ⟨w.heap.size + 1, 0, none⟩) (by simp) (.int .i64 32)).cell
          have z1 := ((boxed_far p1 (p := ⟨w.heap.size, 0, none⟩) (by simp) (.slice none 0 0)).set (.int .i64 32)).cell
          refine endM0 (v := .tuple #[.slice none 0 0, .int .i64 32]) (by simp [results, Tryd.results12, go_sem, z0, z1]) ?_
          have he : Np.timesErr b s l d f = 32 := by unfold Np.timesErr; rw [if_pos HA.out, if_pos (by unfold Np.timesStep; omega)]
          exact gives_nil (Below.setCell (Below.setCell HBW.out (by simp) _) (by simp <;> omega) _) (times_nil he (by omega)) he
        · have hstep : Np.timesStep l d f = l - max f 1 - 3 * d + 2 := rfl
          obtain ⟨st, hq, hst1, hst3, hst2⟩ : ∃ st, (if f < 1 then l - 1 - 3 * d + 2 else l - f - 3 * d + 2) = st ∧ Np.timesStep l d f = st ∧ 1 ≤ st ∧ st ≤ 20000000 := ⟨_, rfl, by rw [hstep]; split <;> omega, by split <;> omega, by split <;> omega⟩
          first
            | rw [if_pos (by omega)] at hq
            | rw [if_neg (by omega)] at hq
          rw [hq]
          have HST := Lib.hid hst1
          clear hq hstep hst1
          have b2 := Boxed.new wr 24 (.slice none 0 0)
          have hbr : Below w.heap.size w (wr.alloc (.cells #[.slice none 0 0] 24)) := HBW.out.alloc (by omega) _
          refine wpIn_range' (n₀ := w.heap.size) (w0 := w) (first := #[.agg #[.int .i64 b, .int .i64 s, .int .i64 st]]) (captured := #[]) (gf := 34) rfl (enters_of Tryd.func34 (by kernel_rfl) rfl)
            (mk := fun y => #[.agg #[.int .i64 b, .int .i64 s, .int .i64 st], y]) (fun _ => rfl) (times_iter b s st hst3 hst2 (by omega) hs2 (by omega) _ w) hbr (by simp; omega) (fun _ => rfl) (TmI w wr.heap.size) (TmX w (Np.timesFrom b s st))
            (tmI_stable _ _ _ (by simp; omega)) (fun c => tmX_stable _ _ _ (by simp; omega) c)
            (fun k => (k = w.heap.size ∨ k = w.heap.size + 1) ∨ k = wr.heap.size ∨ (Value.slice none 0 0).ownBlock = some k) (by intro k h; simp [Value.ownBlock] at h; omega) (by intro k h; simp [Value.ownBlock] at h; simp; omega)
            ⟨_, fun _ => Iff.rfl, p0.alloc _, p1.alloc _, b2, World.ownsRow_nil _ _ _ _, by simp, hbr⟩ ?round ?done ?stop
          case round =>
            rintro l0 pre x S W hpx hI hSlt
            gi_wp2
            refine ⟨S, RdStep.refl _ _, fun k e => .inl e, hSlt, ?_⟩
            intro lp W₂ hst
            obtain ⟨v, hS, c0, c1, c2, hrow, h400, hB⟩ := tmI_stable w _ _ (by simp; omega) pre S W W₂ hI hst
            obtain ⟨A, cap, rfl⟩ := ownsRow_form hrow
            have c0c := c0.cell
            have c1c := c1.cell
            have c2c := c2.cell
            have c0f := c0.frozen
            have c1f := c1.frozen
            have c2f := c2.frozen
            have hSlt2 : ∀ k, S k → k < W₂.heap.size := fun k e => Nat.lt_of_lt_of_le (hSlt k e) hst.size
            have hxl : pre.length + 1 ≤ (Np.timesFrom b s st).length := by have := hpx.length_le; simpa using this
            have HI := Lib.hid hI
            have HS := Lib.hid hS
            have hlbl := c2.lt
            have HC0 := Lib.hid c0
            have HC1 := Lib.hid c1
            have HC2 := Lib.hid c2
            have HROW := Lib.hid hrow
            have HB := Lib.hid hB
            have HPX := Lib.hid hpx
            obtain ⟨i0, hi, hz0, hz1, hz2⟩ := info_parts Tryd.infoInt
            clear hI hS hpx hst c0 c1 c2 hrow hB
            by_cases h4 : pre.length = 400
            · have h4' : ((pre.length : Int) == 400) = true := by simp [h4]
              have H4 := Lib.hid h4
              clear h4
              gi_wp2_with fail
              refine ⟨S, ?_, fun k e => .inl e, fun k e => ?_, ?_⟩
              · exact ((RdStep.refl S W₂).setCell (p := ⟨w.heap.size, 0, none⟩) (.inl ((HS.out _).2 (.inl (.inl rfl)))) _).setCell (p := ⟨w.heap.size + 1, 0, none⟩) (.inl ((HS.out _).2 (.inl (.inr rfl)))) _
              · have := hSlt2 k e; simpa [World.setCell] using this
              · exact ⟨rfl, ⟨(HS.out _).2 (.inl (.inl rfl)), (HS.out _).2 (.inl (.inr rfl))⟩, boxed_far (HC0.out.set _) (p := ⟨w.heap.size + 1, 0, none⟩) (by simp) _, (boxed_far HC1.out (p := ⟨w.heap.size, 0, none⟩) (by simp) _).set _, by have := H4.out; omega, (HB.out.setCell (p := ⟨w.heap.size, 0, none⟩) (by simp) _).setCell (p := ⟨w.heap.size + 1, 0, none⟩) (by simp) _⟩
            · have h4' : ((pre.length : Int) == 400) = false := by simp; omega
              gi_wp2_with (gi_at_builtin; refine wpListIn_append_at _ rfl _ _ 24 rfl (wr.heap.size + 1) 3 i0 (.int .i64 0) 1 8 Tryd.underlying24 hi hz0 hz1 hz2 rfl (by decide) _ _ _ rfl (HROW.out.alloc _) ⟨W₂.heap.size, 0, none⟩ 1 1 [.int .i64 x] rfl rfl (cell_one_new _ _ _) (by simp [Value.oneCell']) (by unfold maxLen; omega) (by omega) (by simp; omega) ?_; intro v' w1 hown' hgrow hat; obtain ⟨g', cap', rfl⟩ := ownsRow_succ hown'; obtain ⟨hv1, hv2, hr2, hrd, hsub, hlt2, hold⟩ := appended_rd (F := fun k => k = w.heap.size ∨ k = w.heap.size + 1) HS.out (by intro i h; omega) HC2.out HROW.out hown' hgrow hat; have hc1 := hv1.cell; have hf1 := hv1.frozen)
              refine ⟨_, hrd, hsub, hlt2, _, fun _ => Iff.rfl, (hold _ (by omega)).trans HC0.out, (hold _ (by omega)).trans HC1.out, hv2, by simpa using hr2, by simp; omega, ?_⟩
              exact HB.out.trans (hrd.below (by have := HB.out.size; omega) (fun k e => by have := (HS.out k).1 e; rcases this with (h | h) | h | h; omega; omega; omega; exact Nat.le_trans (by omega) (ownsRow_base HROW.out k h).1))
          case done =>
            rintro D S W hD hSD hsub ⟨v, hS, c0, c1, c2, hrow, h400, hB⟩ hK
            have c0c := c0.cell
            have c1c := c1.cell
            have c2c := c2.cell
            have c0f := c0.frozen
            have c1f := c1.frozen
            have hD0 : w.heap.size ≠ D := fun e => hSD ((hS _).2 (.inl (.inl e.symm)))
            have hD1 : w.heap.size + 1 ≠ D := fun e => hSD ((hS _).2 (.inl (.inr e.symm)))
            obtain ⟨A, cap, rfl⟩ := ownsRow_form hrow
            have HROW := Lib.hid hrow
            have HS := Lib.hid hS
            clear hrow hS hsub
            gi_wp2
            have he : Np.timesErr b s l d f = 0 := by unfold Np.timesErr; rw [if_pos HA.out, HST.out, if_neg (by omega), if_neg (by omega)]
            have ht : Np.times b s l d f = Np.timesFrom b s st := by unfold Np.times; rw [if_pos he, HST.out]
            have hK' : ((W.setCell ⟨w.heap.size, 0, none⟩ (.slice A (Np.timesFrom b s st).length cap)).setCell ⟨w.heap.size + 1, 0, none⟩ (.int .i64 0)).heap[D]? = some (.deferred (some [])) := (Below.heap_setCell _ _ _ _ (by simpa using hD1.symm)).trans ((Below.heap_setCell _ _ _ _ (by simpa using hD0.symm)).trans hK)
            have z0 := (boxed_putObj (boxed_far (c0.set (.slice A (Np.timesFrom b s st).length cap)) (p := ⟨w.heap.size + 1, 0, none⟩) (by simp) (.int .i64 0)) hD0 (.deferred none)).cell
            have z1 := (boxed_putObj ((boxed_far c1 (p := ⟨w.heap.size, 0, none⟩) (by simp) (.slice A (Np.timesFrom b s st).length cap)).set (.int .i64 0)) hD1 (.deferred none)).cell
            refine endM1 hK' (v := .tuple #[.slice A (Np.timesFrom b s st).length cap, .int .i64 0]) (by simp [results, Tryd.results12, go_sem, z0, z1]) ?_
            have hrow2 : (((W.setCell ⟨w.heap.size, 0, none⟩ (.slice A (Np.timesFrom b s st).length cap)).setCell ⟨w.heap.size + 1, 0, none⟩ (.int .i64 0)).putObj D (.deferred none)).ownsRow (wr.heap.size + 1) 3 1 (.slice A (Np.timesFrom b s st).length cap) (Np.timesFrom b s st).length ((Np.timesFrom b s st).flatMap fun x => [.int .i64 x]) := by
              rw [← map_flat]
              refine ownsRow_keep HROW.out (fun g hg => ?_)
              have hg1 := (ownsRow_base HROW.out g hg).1
              rw [World.putObj_heap_other (fun e => hSD (by rw [← e]; exact (HS.out _).2 (.inr (.inr hg)))), Below.heap_setCell _ _ _ _ (by simp; omega), Below.heap_setCell _ _ _ _ (by simp; omega)]
            refine ⟨_, by rw [he], ?_, ?_⟩
            · rw [ht]
              exact slr_of_own (R := RInt) _ (by simp) hrow2 (by omega) (by simp [RInt])
            · exact below_putObj ((hB.setCell (p := ⟨w.heap.size, 0, none⟩) (by simp) _).setCell (p := ⟨w.heap.size + 1, 0, none⟩) (by simp) _) (by simp at hD; omega) _
          case stop =>
            rintro D c pre S W hD hSD hsub hpre ⟨rfl, hS, c0, c1, h4, hB⟩ hK
            have hD0 : w.heap.size ≠ D := fun e => hSD (by rw [← e]; exact hS.1)
            have hD1 : w.heap.size + 1 ≠ D := fun e => hSD (by rw [← e]; exact hS.2)
            gi_wp2
            have z0 := (boxed_putObj c0 hD0 (.deferred none)).cell
            have z1 := (boxed_putObj c1 hD1 (.deferred none)).cell
            have he : Np.timesErr b s l d f = 2 := by unfold Np.timesErr; rw [if_pos HA.out, HST.out, if_neg (by omega), if_pos h4]
            refine endM1 hK (v := .tuple #[.slice none 0 0, .int .i64 2]) (by simp [results, Tryd.results12, go_sem, z0, z1]) ?_
            exact gives_nil (below_putObj hB (by simp at hD; omega) _) (times_nil he (by omega)) he
end Go.Proofs.YtafpbfmhhpcalaaDoor
