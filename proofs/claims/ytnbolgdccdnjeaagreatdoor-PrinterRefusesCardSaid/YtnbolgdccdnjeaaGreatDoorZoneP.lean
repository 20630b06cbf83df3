/- Contract of the printer's zone. -/
import Derived.Test.YtnbolgdccdnjeaaGreatDoorEntry2
namespace Go.Proofs.YtnbolgdccdnjeaaGreatDoor
open Go.RowKit
abbrev WT : TypeId := 85
/-- What writing a zone leaves: its text, or as much of it that there are too many bytes. -/
def GivesZone (B b : Nat) (r : Option Nat) (l : List UInt8) (z : Np.Zone) (w : World) (e : Ending) (w' : World) : Prop :=
  e = .returned (.tuple #[]) ∧ ∃ r' t, t <+: Np.zoneText z ∧ (t = Np.zoneText z ∨ 8000 < (l ++ t).length) ∧ Bld WT B b r' (l ++ t) w' ∧ BS b r w r' w'
/-- A row of texts of the call's own lies apart from a builder. -/
theorem strsX_own {b : Nat} {r : Option Nat} {w : World} {base : Nat} {v : Value} {ws : List (List UInt8)} (h : w.ownsRow base 9 1 v ws.length (ws.map strs)) (hb : b < base) (hr : ∀ k, r = some k → k < base) (hl : ws.length ≤ 1000000) : StrsX b r w v ws := by
  have hh := h
  rcases h.2 with ⟨rfl, h0⟩ | ⟨g, cap, cur, rfl, hbg, hg, hnc, _, _, _⟩
  · have : ws = [] := List.eq_nil_of_length_eq_zero h0
    subst this
    exact ⟨none, 0, rfl, by simp, by simp, fun i x hx => by simp at hx⟩
  · refine ⟨_, cap, rfl, hnc, hl, fun i x hx => ⟨g, 0, rfl, (Array.getElem?_eq_some_iff.1 hg).1, by omega, fun e => by have := hr g e; omega, ?_⟩⟩
    have := hh.cells (g := g) rfl i (strs x) (by simp [hx])
    have hadd : (⟨g, 0, none⟩ : Addr).add i = ⟨g, 0 + i, none⟩ := by unfold Addr.add; split <;> simp_all
    rw [hadd] at this
    exact this
def ZRel (B b : Nat) (r : Option Nat) (l : List UInt8) (ap : List UInt8) (v : Value) (sets : List Np.Signed) (N : Nat) (w : World) (i : Value) (wr : World) : Prop :=
  ∃ k : Nat, k ≤ sets.length ∧ i = .int .i64 k ∧ ∃ r', Hid (Bld WT B b r' (l ++ (Np.zoneHead ⟨ap, sets⟩ ++ Np.setsText ap (sets.take k))) wr) ∧ Hid (BS b r w r' wr) ∧ Hid (N < wr.heap.size ∧ r' ≠ some N ∧ wr.heap[N]? = some (.cells #[strs ap, v] 32 (0, 0))) ∧
    (l ++ (Np.zoneHead ⟨ap, sets⟩ ++ Np.setsText ap (sets.take k))).length ≤ 9000
theorem setsText_take {apex : List UInt8} {l : List Np.Signed} {k : Nat} {x : Np.Signed} (h : l[k]? = some x) : Np.setsText apex (l.take (k + 1)) = Np.setsText apex (l.take k) ++ Np.lineText (Np.entryWords apex x.set) := by
  obtain ⟨hl, rfl⟩ := List.getElem?_eq_some_iff.1 h
  unfold Np.setsText
  rw [List.take_succ_eq_append_getElem hl, List.flatMap_append]; simp
theorem setsText_prefix {apex : List UInt8} (l : List Np.Signed) (k : Nat) : Np.setsText apex (l.take k) <+: Np.setsText apex l := by
  unfold Np.setsText
  conv => rhs; rw [← List.take_append_drop k l]
  rw [List.flatMap_append]
  exact List.prefix_append _ _
theorem cells_strs3 (w : World) (base : Nat) (x y z : List UInt8) (hb : base ≤ w.heap.size) : (w.alloc (.cells #[strs x, strs y, strs z] 9)).ownsRow base 9 1 (.slice (some ⟨w.heap.size, 0, none⟩) 3 3) [x, y, z].length ([x, y, z].map strs) :=
  ⟨rfl, .inr ⟨w.heap.size, 3, _, rfl, hb, heap_alloc_new _ _, by simp, by simp [maxLen], rfl, rfl⟩⟩
theorem cells_strs1 (w : World) (base : Nat) (x : List UInt8) (hb : base ≤ w.heap.size) : (w.alloc (.cells #[strs x] 9)).ownsRow base 9 1 (.slice (some ⟨w.heap.size, 0, none⟩) 1 1) [x].length ([x].map strs) :=
  ⟨rfl, .inr ⟨w.heap.size, 1, _, rfl, hb, heap_alloc_new _ _, by simp, by simp [maxLen], rfl, rfl⟩⟩
set_option maxRecDepth 100000 in
set_option maxHeartbeats 4000000 in
theorem zoneP_any (B b : Nat) (r : Option Nat) (l : List UInt8) (ap : List UInt8) (v : Value) (sets : List Np.Signed) (w : World) (hB : Bld WT B b r l w) (hl : l.length ≤ 8000) (hr : Np.rightZ ⟨ap, sets⟩ = true) (hp : Np.plainZ ⟨ap, sets⟩ = true)
    (hBw : B ≤ w.heap.size) (hP : PowIn w) (hPB : 7 < B) (hWd : WordsIn w B) (hd : SlR RSigned 5 w B v sets) :
    Calls Tryz.prog 38 #[.pointer (some ⟨b, 0, none⟩), .agg #[strs ap, v]] w (GivesZone B b r l ⟨ap, sets⟩ w) := by
  have hrow := hB.row
  have hBb : B ≤ b := hrow.1
  have hbw : b < w.heap.size := hrow.2.1
  have HRW := Lib.hid hrow.2.2
  have HB := Lib.hid hB
  have HP := Lib.hid hP
  have HWD := Lib.hid hWd
  have HD := Lib.hid hd
  obtain ⟨A, c, rfl, hc1, hl1, -⟩ := hd
  have hr' := hr
  have hp' := hp
  unfold Np.rightZ at hr'
  unfold Np.plainZ at hp'
  simp only [Bool.and_eq_true] at hr' hp'
  have hsa : ap.length ≤ 60 := (Np.name_form hr'.1.1).1
  have HVS := Lib.hid (Np.goodSets_valid hr'.2)
  have HPS := Lib.hid (List.all_eq_true.1 hp'.2)
  have hhead : (Np.joinB [[122, 111, 110, 101], ap, [123]]).length ≤ 200 := by simp [Np.joinB]; omega
  have hheadl : (Np.zoneHead ⟨ap, sets⟩).length ≤ 201 := by
    unfold Np.zoneHead Np.lineText
    rw [List.length_append]; simp only [List.length_singleton]; omega
  clear hrow hB hP hWd hr hp hr' hp'
  go_enter Tryz.func38, Tryz.ntmps38
  go_wp2_with fail
  have hba : Below w.heap.size w (w.alloc (.cells #[strs ap, .slice A sets.length c] 32)) := (Below.refl _ _).alloc (Nat.le_refl _) _
  have hN : (w.alloc (.cells #[strs ap, .slice A sets.length c] 32)).heap[w.heap.size]? = some (.cells #[strs ap, .slice A sets.length c] 32 (0, 0)) := heap_alloc_new _ _
  have hsz : (w.alloc (.cells #[strs ap, .slice A sets.length c] 32)).heap.size = w.heap.size + 1 := World.size_alloc _ _
  have hbb := cells_strs3 (w.alloc (.cells #[strs ap, .slice A sets.length c] 32)) (w.heap.size + 1) [122, 111, 110, 101] ap [123] (by simp)
  rw [hsz] at hbb
  have hbl : Below (w.alloc (.cells #[strs ap, .slice A sets.length c] 32)).heap.size (w.alloc (.cells #[strs ap, .slice A sets.length c] 32)) ((w.alloc (.cells #[strs ap, .slice A sets.length c] 32)).alloc (.cells #[strs [122, 111, 110, 101], strs ap, strs [123]] 9)) := (Below.refl _ _).alloc (Nat.le_refl _) _
  have hblw : Below w.heap.size w ((w.alloc (.cells #[strs ap, .slice A sets.length c] 32)).alloc (.cells #[strs [122, 111, 110, 101], strs ap, strs [123]] 9)) := hba.trans (hbl.mono (by rw [hsz]; omega))
  have hsz2 : ((w.alloc (.cells #[strs ap, .slice A sets.length c] 32)).alloc (.cells #[strs [122, 111, 110, 101], strs ap, strs [123]] 9)).heap.size = w.heap.size + 1 + 1 := by rw [World.size_alloc, hsz]
  have hN2 : ((w.alloc (.cells #[strs ap, .slice A sets.length c] 32)).alloc (.cells #[strs [122, 111, 110, 101], strs ap, strs [123]] 9)).heap[w.heap.size]? = some (.cells #[strs ap, .slice A sets.length c] 32 (0, 0)) := (hbl.block _ (by rw [hsz]; omega)).trans hN
  refine (line_any B b r l _ [[122, 111, 110, 101], ap, [123]] _ (HB.out.keep hblw) (strsX_own hbb (by omega) (fun k hk => by have := (HRW.out k hk).2; omega) (by simp)) (by omega) (by omega) (by rw [hsz2]; omega)).mono ?_
  rintro e w1 ⟨rfl, r1, hb1, hs1⟩
  have hr0 : r ≠ some w.heap.size := fun e => by have := (HRW.out _ e).2; omega
  have hr1 : r1 ≠ some w.heap.size := hs1.free (by rw [hsz2]; omega) hr0
  have hN3 : w1.heap[w.heap.size]? = some (.cells #[strs ap, .slice A sets.length c] 32 (0, 0)) := (hs1.keep _ (by rw [hsz2]; omega) (by omega) hr0).trans hN2
  have hz1 : w.heap.size < w1.heap.size := by have := hs1.size; rw [hsz2] at this; omega
  have HS1 := Lib.hid ((BS.of_below hblw).trans hs1)
  have HB1 := Lib.hid hb1
  have HN3 := Lib.hid hN3
  have c1 : w1.cell? ⟨w.heap.size, 1, none⟩ = some (.slice A sets.length c) := by rw [Lib.cell_of_heap hN3]; rfl
  clear hba hN hsz hbb hbl hblw hsz2 hN2 hs1 hb1 hN3
  go_wp2_with fail
  go_loopw [14] (fun i wr => ZRel B b r1 l ap (.slice A sets.length c) sets w.heap.size w1 i wr) (fun i _ => sets.length - (intOf i).toNat)
  case atStart =>
    refine ⟨0, Nat.zero_le _, rfl, r1, Lib.hid ?_, Lib.hid (BS.refl _ _ _), Lib.hid ⟨hz1, hr1, HN3.out⟩, ?_⟩
    · have := HB1.out
      simpa [Np.setsText, Np.zoneHead] using this
    · simp [Np.setsText]; omega
  case round =>
    obtain ⟨k, hk, rfl, r2, HBk, HSk, HNk, hlen⟩ := hrel
    have hszk := HNk.out.1
    have hr2 : r2 ≠ some w.heap.size := HNk.out.2.1
    have hrowk := HBk.out.row
    have hbk : b < wr.heap.size := hrowk.2.1
    have HRK := Lib.hid hrowk.2.2
    have hNk := HNk.out.2.2
    have q0 : wr.cell? ⟨w.heap.size, 0, none⟩ = some (strs ap) := by rw [Lib.cell_of_heap hNk]; rfl
    have HSw := Lib.hid (HS1.out.trans HSk.out)
    have HBel := Lib.hid (HSw.out.below hBb (fun k hk => (HRW.out k hk).1) hBw)
    clear hrowk hNk c1
    generalize hT : l ++ (Np.zoneHead ⟨ap, sets⟩ ++ Np.setsText ap (sets.take k)) = T at HBk hlen
    have HT := Lib.hid hT
    clear hT
    by_cases hlt : k < sets.length
    · have hget := List.getElem?_eq_getElem hlt
      obtain ⟨bs, o, c', sn, dv, sv, hA, hbB, _, hsn, hsz, hdv, hsv, e0, e1, e2, e3, e4⟩ := signed_at (HD.out.keep rsigned_kept HBel.out) hget
      cases hA
      have hvs := HVS.out _ (List.getElem_mem hlt)
      have hps := HPS.out _ (List.getElem_mem hlt)
      generalize hx : sets[k] = x at *
      clear hx
      obtain ⟨Ad, cd, rfl, hcd, hld⟩ := slr_form hdv
      obtain ⟨As, cs, rfl, hcs, hls⟩ := slr_form hsv
      have h8 := (Np.plain_parts hps).2.1
      obtain ⟨_, v2, v3, _⟩ := Np.valid_parts hvs
      have hset : (⟨sn.data.toList, x.set.type, x.set.life, x.set.data⟩ : Np.DSet) = x.set := by rw [hsn]
      have hbd := Np.entry_bd (apex := ap) hvs (by omega)
      have HVX := Lib.hid hvs
      have HX := Lib.hid hget
      have HSET := Lib.hid hset
      have HDV := Lib.hid hdv
      clear hdv hsv hget hvs hps hset hsn
      go_wp2_with fail
      have hbm : Below wr.heap.size wr (wr.alloc (.cells #[.string sn, .int .i64 x.set.type, .int .i64 x.set.life, .slice Ad x.set.data.length cd, .slice As x.sigs.length cs] 41)) := (Below.refl _ _).alloc (Nat.le_refl _) _
      have hszm : (wr.alloc (.cells #[.string sn, .int .i64 x.set.type, .int .i64 x.set.life, .slice Ad x.set.data.length cd, .slice As x.sigs.length cs] 41)).heap.size = wr.heap.size + 1 := World.size_alloc _ _
      generalize wr.alloc (.cells #[.string sn, .int .i64 x.set.type, .int .i64 x.set.life, .slice Ad x.set.data.length cd, .slice As x.sigs.length cs] 41) = wm at hbm hszm ⊢
      have HBM := Lib.hid hbm
      have HSZM := Lib.hid hszm
      have HBelm := Lib.hid (HBel.out.trans (hbm.mono (by have := HBel.out.size; omega)))
      have hwm : wr.heap.size + 1 ≤ wm.heap.size := by omega
      have hBwr : B ≤ wr.heap.size := by have := HBel.out.size; omega
      have hent := entry_any ⟨ap.toArray⟩ sn x.set.type x.set.life (.slice Ad x.set.data.length cd) x.set.data wm (by rw [HSET.out]; exact HVX.out) (by omega) (HP.out.keepAt HBelm.out hPB) ((HWD.out.keep HBelm.out).more (by omega)) ((HDV.out.keep rdatum_kept (hbm.mono hBwr)).more rdatum_more (by omega))
      rw [HSET.out] at hent
      have HENT := Lib.hid hent
      clear hent hbm hszm e0 e1 e2 e3 e4
      refine HENT.out.mono ?_
      rintro e w3 ⟨v3, rfl, hown3, hb3⟩
      have hs3 : wm.heap.size ≤ w3.heap.size := hb3.size
      have HB3 := Lib.hid (HBM.out.trans (hb3.mono (by omega)))
      have HX3 := Lib.hid (strsX_own (b := b) (r := r2) hown3 (by omega) (fun j hj => by have := (HRK.out j hj).2; omega) (by simp only; omega))
      clear hown3 hb3
      go_wp2_with fail
      refine (line_any B b r2 T v3 (Np.entryWords ap x.set) _ (HBk.out.keep HB3.out) HX3.out (by omega) (by omega) (by omega)).mono ?_
      rintro e w4 ⟨rfl, r4, hb4, hs4⟩
      have HB4 := Lib.hid hb4
      have HS4 := Lib.hid ((BS.of_below (b := b) (r := r2) HB3.out).trans hs4)
      have hN4 : w4.heap[w.heap.size]? = some (.cells #[strs ap, .slice (some ⟨bs, o, none⟩) sets.length c] 32 (0, 0)) := ((HS4.out.keep _ hszk (by omega) hr2).trans HNk.out.2.2)
      have HN4 := Lib.hid hN4
      have hr4 := HS4.out.free hszk hr2
      have hsz4 := HS4.out.size
      have hll : (T ++ Np.lineText (Np.entryWords ap x.set)).length ≤ 12000 := by
        have h2 := hbd.2
        simp only [Np.lineText, List.length_append, List.length_singleton]
        omega
      have hTn : T ++ Np.lineText (Np.entryWords ap x.set) = l ++ (Np.zoneHead ⟨ap, sets⟩ ++ Np.setsText ap (sets.take (k + 1))) := by
        rw [← HT.out, setsText_take HX.out]; simp
      generalize hT2 : T ++ Np.lineText (Np.entryWords ap x.set) = T2 at HB4 hll hTn
      have HTN := Lib.hid hTn
      clear hb4 hs4 hN4 hT2 hTn
      go_wp2_with (go_at_call 39; refine (len_any B b r4 T2 _ HB4.out).mono ?_; rintro e w' ⟨rfl, rfl⟩)
      · have h8k : (8000 : Int) < (T2.length : Int) := by assumption
        go_end0
        refine ⟨rfl, r4, Np.zoneHead ⟨ap, sets⟩ ++ Np.setsText ap (sets.take (k + 1)), ?_, .inr ?_, ?_, HSw.out.trans HS4.out⟩
        · unfold Np.zoneText
          rw [List.append_assoc]
          refine (List.prefix_append_right_inj _).2 ?_
          exact (setsText_prefix sets (k + 1)).trans (List.prefix_append _ _)
        · rw [← HTN.out]; omega
        · rw [← HTN.out]; exact HB4.out
      · have h8k : (T2.length : Int) ≤ 8000 := by assumption
        go_roundw
        case rel => exact ⟨k + 1, by omega, by go_num, r4, Lib.hid (by rw [← HTN.out]; exact HB4.out), Lib.hid (HSk.out.trans HS4.out), Lib.hid ⟨by omega, hr4, HN4.out⟩, by rw [← HTN.out]; omega⟩
        case measure => simp [intOf] <;> omega
    · go_wp2_with fail
      have hown := cells_strs1 wr wr.heap.size [125] (Nat.le_refl _)
      have hbl : Below wr.heap.size wr (wr.alloc (.cells #[strs [125]] 9)) := (Below.refl _ _).alloc (Nat.le_refl _) _
      have HBL := Lib.hid hbl
      have HOWN := Lib.hid hown
      clear hown hbl
      have hBwr : B ≤ wr.heap.size := by have := HBel.out.size; omega
      refine (line_any B b r2 T _ [[125]] _ (HBk.out.keep HBL.out) (strsX_own HOWN.out hbk (fun j hj => (HRK.out j hj).2) (by simp)) (by omega) (by simp [Np.joinB]) (by simp; omega)).mono ?_
      rintro e w4 ⟨rfl, r4, hb4, hs4⟩
      have HB4 := Lib.hid hb4
      have HS4 := Lib.hid ((BS.of_below (b := b) (r := r2) HBL.out).trans hs4)
      clear hb4 hs4
      go_wp2_with fail
      go_end0
      have ht : T ++ Np.lineText [[125]] = l ++ Np.zoneText ⟨ap, sets⟩ := by
        rw [← HT.out, List.take_of_length_le (by omega)]
        simp [Np.zoneText]
      refine ⟨rfl, r4, Np.zoneText ⟨ap, sets⟩, List.prefix_refl _, .inl rfl, ?_, HSw.out.trans HS4.out⟩
      rw [← ht]; exact HB4.out
end Go.Proofs.YtnbolgdccdnjeaaGreatDoor
