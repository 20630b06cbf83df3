/- Contract of record.Valid. -/
import Derived.Test.YtnbolgdccdnjeaaGreatDoorRec2
namespace Go.Proofs.YtnbolgdccdnjeaaGreatDoor
open Go.RowKit

/-- The package-level table of rules lies below B. -/
def RulesIn (w : World) (B : Nat) : Prop := 0 < B ∧ ∀ k : Nat, k < 9 → CellsAt w 0 (k * 8) (ruleVal (Np.ruleOf k)).toList
theorem RulesIn.keep {w w' : World} {B : Nat} (h : RulesIn w B) (hb : Below B w w') : RulesIn w' B := ⟨h.1, fun k hk => (h.2 k hk).keep hb h.1⟩
theorem RulesIn.more {w : World} {B B' : Nat} (h : RulesIn w B) (hB : B ≤ B') : RulesIn w B' := ⟨Nat.lt_of_lt_of_le h.1 hB, h.2⟩

/-- A datum in three cells. -/
def RDatum (_ : World) (_ : Nat) (e : List Value) (d : Np.Datum) : Prop := ∃ s : ByteArray, s.data.toList = d.text ∧ s.size ≤ 140737488355328 ∧ e = [.string s, .int .i64 d.n, .int .i64 d.m]
theorem rdatum_kept : KeptR RDatum := fun _ _ _ _ _ h _ => h
theorem rdatum_more : MoreR RDatum := fun _ _ _ _ _ h _ => h

theorem below_of_eq {w w' : World} (h : w' = w) : Below w.heap.size w w' := by rw [h]; exact Below.refl _ _
theorem validDatum_bool (k ln mn lm mm : Int) (ev si wi : Bool) (s : ByteArray) (hs : s.size ≤ 140737488355328) (n m : Int) (w : World) (t : Bool) (ht : Np.validDatum ⟨k, ln, mn, lm, mm, ev, si, wi⟩ ⟨s.data.toList, n, m⟩ = t) :
    Calls Tryz.prog 63 #[.agg #[.int .i64 k, .int .i64 ln, .int .i64 mn, .int .i64 lm, .int .i64 mm, .bool ev, .bool si, .bool wi], .agg #[.string s, .int .i64 n, .int .i64 m]] w
      fun e w' => e = .returned (.bool t) ∧ Below w.heap.size w w' := by
  subst ht
  exact validDatum_any k ln mn lm mm ev si wi s hs n m w
def ValidRel (w1 : World) (o : Obj) (r : Np.Rule) (ds : List Np.Datum) (i : Value) (wr : World) : Prop :=
  ∃ j : Nat, j ≤ ds.length ∧ i = .int .i64 j ∧ Below (w1.alloc o).heap.size (w1.alloc o) wr ∧ Np.goodData r none ds = Np.goodData r (ds.take j).getLast? (ds.drop j)

set_option maxRecDepth 100000 in
set_option maxHeartbeats 4000000 in
theorem recValid_any (s : ByteArray) (hs : s.size ≤ 140737488355328) (ty life : Int) (v : Value) (ds : List Np.Datum) (w : World) (hR : RulesIn w w.heap.size) (hd : SlR RDatum 3 w w.heap.size v ds) :
    Calls Tryz.prog 27 #[.agg #[.string s, .int .i64 ty, .int .i64 life, v]] w
      fun e w' => e = .returned (.bool (Np.validSet ⟨s.data.toList, ty, life, ds⟩)) ∧ Below w.heap.size w w' := by
  have HR := Lib.hid hR
  have HD := Lib.hid hd
  obtain ⟨A, c, rfl, hc1, hl1, he1⟩ := hd
  clear hR he1
  have HF : Hid (∀ t : Bool, t = Np.validSet ⟨s.data.toList, ty, life, ds⟩ → (.bool t : Value) = .bool (Np.validSet ⟨s.data.toList, ty, life, ds⟩)) := fun t ht => by rw [ht]
  go_enter Tryz.func27, Tryz.ntmps27
  go_wp2_with fail
  refine (nameValid_any _ hs _).mono ?_
  rintro e w1 ⟨rfl, hb⟩
  have hb0 : Below w.heap.size w w1 := ((Below.refl _ w).alloc (Nat.le_refl _) _).trans (hb.mono (by simp))
  have hsz : w.heap.size + 1 ≤ w1.heap.size := by have := hb.size; simpa using this
  have hlt1 : w.heap.size < w1.heap.size := by omega
  have c0 : w1.cell? ⟨w.heap.size, 0, none⟩ = some (.string s) := by rw [hb.cell (by simp)]; go_simp
  have c1 : w1.cell? ⟨w.heap.size, 1, none⟩ = some (.int .i64 ty) := by rw [hb.cell (by simp)]; go_simp
  have c2 : w1.cell? ⟨w.heap.size, 2, none⟩ = some (.int .i64 life) := by rw [hb.cell (by simp)]; go_simp
  have c3 : w1.cell? ⟨w.heap.size, 3, none⟩ = some (.slice A ds.length c) := by rw [hb.cell (by simp)]; go_simp
  have HB := Lib.hid hb
  clear hb
  by_cases hty : 1 ≤ ty ∧ ty ≤ 8
  · obtain ⟨k, rfl⟩ := Int.eq_ofNat_of_zero_le (by omega : 0 ≤ ty)
    have hk9 : k < 9 := by omega
    have hrr := (HR.out.keep hb0).2 k hk9
    have r0 : w1.cell? ⟨0, k * 8, none⟩ = some (.int .i64 (Np.ruleOf k).text) := hrr 0 _ rfl
    have r1 : w1.cell? ⟨0, k * 8 + 1, none⟩ = some (.int .i64 (Np.ruleOf k).leastN) := hrr 1 _ rfl
    have r2 : w1.cell? ⟨0, k * 8 + 2, none⟩ = some (.int .i64 (Np.ruleOf k).mostN) := hrr 2 _ rfl
    have r3 : w1.cell? ⟨0, k * 8 + 3, none⟩ = some (.int .i64 (Np.ruleOf k).leastM) := hrr 3 _ rfl
    have r4 : w1.cell? ⟨0, k * 8 + 4, none⟩ = some (.int .i64 (Np.ruleOf k).mostM) := hrr 4 _ rfl
    have r5 : w1.cell? ⟨0, k * 8 + 5, none⟩ = some (.bool (Np.ruleOf k).even) := hrr 5 _ rfl
    have r6 : w1.cell? ⟨0, k * 8 + 6, none⟩ = some (.bool (Np.ruleOf k).single) := hrr 6 _ rfl
    have r7 : w1.cell? ⟨0, k * 8 + 7, none⟩ = some (.bool (Np.ruleOf k).wild) := hrr 7 _ rfl
    clear hrr
    go_wp2_with (first
      | (go_at_call 61; refine (within_int _ _ _ _).mono ?_; rintro e w' ⟨rfl, rfl⟩)
      | (go_at_call 62; refine (isWildcard_any _ hs _).mono ?_; rintro e w' ⟨rfl, rfl⟩))
    all_goals first
      | (go_ret
         go_light
         refine ⟨ret_bool ?_, by first | exact hb0 | exact hb0.alloc (by omega) _⟩
         simp_all [Np.validSet] <;> (intros; omega))
      | skip
    all_goals
      have hv : Np.validSet ⟨s.data.toList, k, life, ds⟩ = Np.goodData (Np.ruleOf k) none ds := by
        go_light
        simp_all [Np.validSet] <;> (intros; omega)
    rotate_left 3
    all_goals
      have HV := Lib.hid hv
      clear hv HF
      go_loopw [52] (fun i wr => ValidRel w1 (Obj.cells (ruleVal (Np.ruleOf k)) 105) (Np.ruleOf k) ds i wr) (fun i _ => ds.length - (intOf i).toNat)
      case atStart =>
        refine ⟨0, Nat.zero_le _, rfl, below_of_eq ?_, rfl⟩
        go_light
        simp_all [ruleVal]
      case round =>
        obtain ⟨j, hj, rfl, hbw, hg⟩ := hrel
        have HG := Lib.hid hg
        clear hg
        by_cases hlt : j < ds.length
        · have hwz := hbw.size
          simp only [World.size_alloc] at hwz
          have hbw0 : Below w.heap.size w wr := (hb0.alloc (by omega) _).trans (hbw.mono (by simp; omega))
          have hw0 : w.heap.size < wr.heap.size := by omega
          have hw1 : w1.heap.size < wr.heap.size := by omega
          have d3 : wr.cell? ⟨w.heap.size, 3, none⟩ = some (.slice A ds.length c) := by rw [hbw.cell (by simp; omega)]; rw [World.cell?_alloc_lt _ _ _ (by simpa using hlt1)]; exact c3
          have q0 : wr.cell? ⟨w1.heap.size, 0, none⟩ = some (.int .i64 (Np.ruleOf k).text) := by rw [hbw.cell (by simp)]; exact World.cell?_alloc_new w1 _ _ _
          have q1 : wr.cell? ⟨w1.heap.size, 1, none⟩ = some (.int .i64 (Np.ruleOf k).leastN) := by rw [hbw.cell (by simp)]; exact World.cell?_alloc_new w1 _ _ _
          have q2 : wr.cell? ⟨w1.heap.size, 2, none⟩ = some (.int .i64 (Np.ruleOf k).mostN) := by rw [hbw.cell (by simp)]; exact World.cell?_alloc_new w1 _ _ _
          have q3 : wr.cell? ⟨w1.heap.size, 3, none⟩ = some (.int .i64 (Np.ruleOf k).leastM) := by rw [hbw.cell (by simp)]; exact World.cell?_alloc_new w1 _ _ _
          have q4 : wr.cell? ⟨w1.heap.size, 4, none⟩ = some (.int .i64 (Np.ruleOf k).mostM) := by rw [hbw.cell (by simp)]; exact World.cell?_alloc_new w1 _ _ _
          have q5 : wr.cell? ⟨w1.heap.size, 5, none⟩ = some (.bool (Np.ruleOf k).even) := by rw [hbw.cell (by simp)]; exact World.cell?_alloc_new w1 _ _ _
          have q6 : wr.cell? ⟨w1.heap.size, 6, none⟩ = some (.bool (Np.ruleOf k).single) := by rw [hbw.cell (by simp)]; exact World.cell?_alloc_new w1 _ _ _
          have q7 : wr.cell? ⟨w1.heap.size, 7, none⟩ = some (.bool (Np.ruleOf k).wild) := by rw [hbw.cell (by simp)]; exact World.cell?_alloc_new w1 _ _ _
          obtain ⟨A', c', hA', _, _, hel⟩ := HD.out.keep rdatum_kept hbw0
          cases hA'
          obtain ⟨b, o, e, rfl, hbB, _, hce, sd, hsd, hsds, rfl⟩ := hel j _ (List.getElem?_eq_getElem hlt)
          have e0 : wr.cell? ⟨b, o + j * 3, none⟩ = some (.string sd) := hce 0 _ rfl
          have e1 : wr.cell? ⟨b, o + j * 3 + 1, none⟩ = some (.int .i64 ds[j].n) := hce 1 _ rfl
          have e2 : wr.cell? ⟨b, o + j * 3 + 2, none⟩ = some (.int .i64 ds[j].m) := hce 2 _ rfl
          have hbr : b < wr.heap.size := by omega
          have HBW := Lib.hid hbw
          have HB0 := Lib.hid hbw0
          have HEL := Lib.hid hel
          have HSD := Lib.hid hsd
          clear hce hbw hbw0 hel hsd c0 c1 c2 c3 r0 r1 r2 r3 r4 r5 r6 r7
          go_wp2_with fail
          have p0 := World.cell?_alloc_new wr #[.string sd, .int .i64 ds[j].n, .int .i64 ds[j].m] 43 0
          have p1 := World.cell?_alloc_new wr #[.string sd, .int .i64 ds[j].n, .int .i64 ds[j].m] 43 1
          have p2 := World.cell?_alloc_new wr #[.string sd, .int .i64 ds[j].n, .int .i64 ds[j].m] 43 2
          have keep : ∀ b o, b < wr.heap.size → (wr.alloc (.cells #[.string sd, .int .i64 ds[j].n, .int .i64 ds[j].m] 43)).cell? ⟨b, o, none⟩ = wr.cell? ⟨b, o, none⟩ := fun b o h => World.cell?_alloc_lt _ _ _ h
          have hsx : (wr.alloc (.cells #[.string sd, .int .i64 ds[j].n, .int .i64 ds[j].m] 43)).heap.size = wr.heap.size + 1 := World.size_alloc _ _
          have hbx : Below wr.heap.size wr (wr.alloc (.cells #[.string sd, .int .i64 ds[j].n, .int .i64 ds[j].m] 43)) := (Below.refl _ _).alloc (Nat.le_refl _) _
          generalize wr.alloc (.cells #[.string sd, .int .i64 ds[j].n, .int .i64 ds[j].m] 43) = wx at p0 p1 p2 keep hsx hbx ⊢
          have hx0 : w.heap.size < wx.heap.size := by omega
          have hx1 : w1.heap.size < wx.heap.size := by omega
          have hx2 : wr.heap.size < wx.heap.size := by omega
          have hx3 : b < wx.heap.size := by omega
          have hgc : ∀ (g : Grow wx) (p : Addr), p.block < wx.heap.size → g.w.cell? p = wx.cell? p := fun g p h => g.cell p h
          have HBX := Lib.hid hbx
          clear hbx hsx
          have hdj : (⟨sd.data.toList, ds[j].n, ds[j].m⟩ : Np.Datum) = ds[j] := by rw [HSD.out]
          have HDJ := Lib.hid hdj
          clear hdj
          by_cases hvd : Np.validDatum (Np.ruleOf k) ⟨sd.data.toList, ds[j].n, ds[j].m⟩ = true
          · have HVD := Lib.hid hvd
            clear hvd
            by_cases hj0 : j = 0
            · subst hj0
              refine wp_region_grow (by kernel_rfl) (by kernel_rfl) ?_
              repeat (go_big_quiet_step ((go_at_call 63; exact Calls.grow_of (validDatum_bool _ _ _ _ _ _ _ _ _ hsds _ _ _ true HVD.out))))
              refine wpQuiet_nil ?_
              rintro _ ⟨g, rfl⟩
              go_wp2_with fail
              go_roundw
              case rel =>
                go_light
                have h1 := Np.goodData_first (r := Np.ruleOf k) (List.getElem?_eq_getElem hlt) (by rw [← HDJ.out]; exact HVD.out)
                exact ⟨1, hlt, by go_num, HBW.out.trans ((HBX.out.trans (g.below.mono (by omega))).mono (by simp; omega)), by rw [← h1]; exact HG.out⟩
              case measure => simp [intOf] <;> omega
            · obtain ⟨i, rfl⟩ : ∃ i, j = i + 1 := ⟨j - 1, by omega⟩
              try (exfalso; omega)
              all_goals
                obtain ⟨b', o', e', hA2, hbB', _, hce', sq, hsq, hsqs, rfl⟩ := HEL.out i _ (List.getElem?_eq_getElem (by omega))
                cases hA2
                have f0 : wr.cell? ⟨b, o + i * 3, none⟩ = some (.string sq) := hce' 0 _ rfl
                have f1 : wr.cell? ⟨b, o + i * 3 + 1, none⟩ = some (.int .i64 (ds[i]'(by omega)).n) := hce' 1 _ rfl
                have f2 : wr.cell? ⟨b, o + i * 3 + 2, none⟩ = some (.int .i64 (ds[i]'(by omega)).m) := hce' 2 _ rfl
                have hdi : (⟨sq.data.toList, (ds[i]'(by omega)).n, (ds[i]'(by omega)).m⟩ : Np.Datum) = ds[i]'(by omega) := by rw [hsq]
                have HDI := Lib.hid hdi
                clear hce' hsq hdi
                refine wp_region_grow (by kernel_rfl) (by kernel_rfl) ?_
                repeat (go_big_quiet_step (first
                  | (go_at_call 63; exact Calls.grow_of (validDatum_bool _ _ _ _ _ _ _ _ _ hsds _ _ _ true HVD.out))
                  | (go_at_call 64; exact Calls.grow_of (compareData_any _ _ _ _ _ _ _))))
                refine wpQuiet_nil ?_
                rintro _ ⟨g, rfl⟩
                have h1 := Np.goodData_next (r := Np.ruleOf k) (List.getElem?_eq_getElem (by omega : i < ds.length)) (List.getElem?_eq_getElem hlt) (by rw [← HDJ.out]; exact HVD.out)
                rw [← HDJ.out, ← HDI.out] at h1
                have H1 := Lib.hid h1
                clear h1
                go_wp2_with fail
                · go_ret
                  refine ⟨ret_bool ?_, HB0.out.trans ((HBX.out.trans (g.below.mono (by omega))).mono (by omega))⟩
                  rw [HV.out, HG.out, H1.out, if_neg (by omega)]
                · go_roundw
                  case rel =>
                    go_light
                    exact ⟨i + 1 + 1, hlt, by go_num, HBW.out.trans ((HBX.out.trans (g.below.mono (by omega))).mono (by simp; omega)), by rw [HG.out, H1.out, if_pos (by omega)]⟩
                  case measure => simp [intOf] <;> omega
          · have hvd' : Np.validDatum (Np.ruleOf k) ⟨sd.data.toList, ds[j].n, ds[j].m⟩ = false := by simpa using hvd
            have HVD := Lib.hid hvd'
            clear hvd hvd'
            refine wp_region_grow (by kernel_rfl) (by kernel_rfl) ?_
            repeat (go_big_quiet_step ((go_at_call 63; exact Calls.grow_of (validDatum_bool _ _ _ _ _ _ _ _ _ hsds _ _ _ false HVD.out))))
            refine wpQuiet_nil ?_
            rintro _ ⟨g, rfl⟩
            go_wp2_with fail
            go_ret
            refine ⟨ret_bool ?_, HB0.out.trans ((HBX.out.trans (g.below.mono (by omega))).mono (by omega))⟩
            rw [HV.out, HG.out, Np.goodData_bad (List.getElem?_eq_getElem hlt) (by rw [← HDJ.out]; exact HVD.out)]
        · go_wp2_with fail
          go_ret
          refine ⟨ret_bool ?_, (hb0.alloc (by omega) _).trans (hbw.mono (by simp; omega))⟩
          rw [HV.out, HG.out, List.drop_eq_nil_of_le (by omega)]
          rfl
  · have hv : Np.validSet ⟨s.data.toList, ty, life, ds⟩ = false := by
      simp only [Np.validSet]
      have : (decide (1 ≤ ty) && decide (ty ≤ 8)) = false := by simp; omega
      rw [this]; simp
    have HV := Lib.hid hv
    clear hv
    have hty' : (decide (1 ≤ ty) && decide (ty ≤ 8)) = false := by simp; omega
    go_wp2_with (first
      | (go_at_call 61; refine (within_int _ _ _ _).mono ?_; rintro e w' ⟨rfl, rfl⟩))
    all_goals
      go_ret
      exact ⟨ret_bool HV.out.symm, hb0⟩
end Go.Proofs.YtnbolgdccdnjeaaGreatDoor
