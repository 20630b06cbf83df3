/- Joined by program from: ZoneP, Writ, Print. No condition. -/
import Derived.Test.YtnbolgdccdnjeaaGreatDoorBA
import Derived.Test.YtnbolgdccdnjeaaGreatDoorLA
import Derived.Test.YtnbolgdccdnjeaaGreatDoorNB
import Derived.Test.YtnbolgdccdnjeaaGreatDoorPA
import Derived.Test.YtnbolgdccdnjeaaGreatDoorCA
/- Contract of the printer's zone. -/
namespace Go.Proofs.YtnbolgdccdnjeaaGreatDoor
open Go.RowKit
abbrev WT : TypeId := 85
/-- What writing a zone leaves: its text, or as much of it that there are too many bytes. -/
def GivesZone (B b : Nat) (r : Option Nat) (l : List UInt8) (z : Np.Zone) (w : World) (e : Ending) (w' : World) : Prop :=
  e = .returned (.tuple #[]) ∧ ∃ r' t, t <+: Np.zoneText z ∧ (t = Np.zoneText z ∨ 8000 < (l ++ t).length) ∧ Bld WT B b r' (l ++ t) w' ∧ BS b r w r' w'
/-- A row of texts of the call's own lies apart from a builder. -/
theorem strsX_own {b : Nat} {r : Option Nat} {w : World} {base : Nat} {v : Value} {ws : List (List UInt8)} (h : w.ownsRow base 9 1 v ws.length (ws.map strs)) (hb : b < base) (hr : ∀ k, r = some k → k < base) (hl : ws.length ≤ 1000000) : StrsX b r w v ws := by
  have hh := h
  rcases h.2 with ⟨rfl, h0⟩ | ⟨g, cap, cur, rfl, hbg, hg, hnc, _, _, _⟩
  · have : ws = [] := List.eq_nil_of_length_eq_zero h0
    subst this
    exact ⟨none, 0, rfl, by simp, by simp, fun i x hx => by simp at hx⟩
  · refine ⟨_, cap, rfl, hnc, hl, fun i x hx => ⟨g, 0, rfl, (Array.getElem?_eq_some_iff.1 hg).1, by omega, fun e => by have := hr g e; omega, ?_⟩⟩
    have := hh.cells (g := g) rfl i (strs x) (by simp [hx])
    have hadd : (⟨g, 0, none⟩ : Addr).add i = ⟨g, 0 + i, none⟩ := by unfold Addr.add; split <;> simp_all
    rw [hadd] at this
    exact this
def ZRel (B b : Nat) (r : Option Nat) (l : List UInt8) (ap : List UInt8) (v : Value) (sets : List Np.Signed) (N : Nat) (w : World) (i : Value) (wr : World) : Prop :=
  ∃ k : Nat, k ≤ sets.length ∧ i = .int .i64 k ∧ ∃ r', Hid (Bld WT B b r' (l ++ (Np.zoneHead ⟨ap, sets⟩ ++ Np.setsText ap (sets.take k))) wr) ∧ Hid (BS b r w r' wr) ∧ Hid (N < wr.heap.size ∧ r' ≠ some N ∧ wr.heap[N]? = some (.cells #[strs ap, v] 32 (0, 0))) ∧
    (l ++ (Np.zoneHead ⟨ap, sets⟩ ++ Np.setsText ap (sets.take k))).length ≤ 9000
theorem setsText_take {apex : List UInt8} {l : List Np.Signed} {k : Nat} {x : Np.Signed} (h : l[k]? = some x) : Np.setsText apex (l.take (k + 1)) = Np.setsText apex (l.take k) ++ Np.lineText (Np.entryWords apex x.set) := by
  obtain ⟨hl, rfl⟩ := List.getElem?_eq_some_iff.1 h
  unfold Np.setsText
  rw [List.take_succ_eq_append_getElem hl, List.flatMap_append]; simp
theorem setsText_prefix {apex : List UInt8} (l : List Np.Signed) (k : Nat) : Np.setsText apex (l.take k) <+: Np.setsText apex l := by
  unfold Np.setsText
  conv => rhs; rw [← List.take_append_drop k l]
  rw [List.flatMap_append]
  exact List.prefix_append _ _
theorem cells_strs3 (w : World) (base : Nat) (x y z : List UInt8) (hb : base ≤ w.heap.size) : (w.alloc (.cells #[strs x, strs y, strs z] 9)).ownsRow base 9 1 (.slice (some ⟨w.heap.size, 0, none⟩) 3 3) [x, y, z].length ([x, y, z].map strs) :=
  ⟨rfl, .inr ⟨w.heap.size, 3, _, rfl, hb, heap_alloc_new _ _, by simp, by simp [maxLen], rfl, rfl⟩⟩
theorem cells_strs1 (w : World) (base : Nat) (x : List UInt8) (hb : base ≤ w.heap.size) : (w.alloc (.cells #[strs x] 9)).ownsRow base 9 1 (.slice (some ⟨w.heap.size, 0, none⟩) 1 1) [x].length ([x].map strs) :=
  ⟨rfl, .inr ⟨w.heap.size, 1, _, rfl, hb, heap_alloc_new _ _, by simp, by simp [maxLen], rfl, rfl⟩⟩
set_option maxRecDepth 100000 in
set_option maxHeartbeats 4000000 in
theorem zoneP_any (B b : Nat) (r : Option Nat) (l : List UInt8) (ap : List UInt8) (v : Value) (sets : List Np.Signed) (w : World) (hB : Bld WT B b r l w) (hl : l.length ≤ 8000) (hr : Np.rightZ ⟨ap, sets⟩ = true) (hp : Np.plainZ ⟨ap, sets⟩ = true)
    (hBw : B ≤ w.heap.size) (hP : PowIn w) (hPB : 7 < B) (hWd : WordsIn w B) (hd : SlR RSigned 5 w B v sets) :
    Calls Tryz.prog 38 #[.pointer (some ⟨b, 0, none⟩), .agg #[strs ap, v]] w (GivesZone B b r l ⟨ap, sets⟩ w) := by
  have hrow := hB.row
  have hBb : B ≤ b := hrow.1
  have hbw : b < w.heap.size := hrow.2.1
  have HRW := Lib.hid hrow.2.2
  have HB := Lib.hid hB
  have HP := Lib.hid hP
  have HWD := Lib.hid hWd
  have HD := Lib.hid hd
  obtain ⟨A, c, rfl, hc1, hl1, -⟩ := hd
  have hr' := hr
  have hp' := hp
  unfold Np.rightZ at hr'
  unfold Np.plainZ at hp'
  simp only [Bool.and_eq_true] at hr' hp'
  have hsa : ap.length ≤ 60 := (Np.name_form hr'.1.1).1
  have HVS := Lib.hid (Np.goodSets_valid hr'.2)
  have HPS := Lib.hid (List.all_eq_true.1 hp'.2)
  have hhead : (Np.joinB [[122, 111, 110, 101], ap, [123]]).length ≤ 200 := by simp [Np.joinB]; omega
  have hheadl : (Np.zoneHead ⟨ap, sets⟩).length ≤ 201 := by
    unfold Np.zoneHead Np.lineText
    rw [List.length_append]; simp only [List.length_singleton]; omega
  clear hrow hB hP hWd hr hp hr' hp'
  go_enter Tryz.func38, Tryz.ntmps38
  go_wp2_with fail
  have hba : Below w.heap.size w (w.alloc (.cells #[strs ap, .slice A sets.length c] 32)) := (Below.refl _ _).alloc (Nat.le_refl _) _
  have hN : (w.alloc (.cells #[strs ap, .slice A sets.length c] 32)).heap[w.heap.size]? = some (.cells #[strs ap, .slice A sets.length c] 32 (0, 0)) := heap_alloc_new _ _
  have hsz : (w.alloc (.cells #[strs ap, .slice A sets.length c] 32)).heap.size = w.heap.size + 1 := World.size_alloc _ _
  have hbb := cells_strs3 (w.alloc (.cells #[strs ap, .slice A sets.length c] 32)) (w.heap.size + 1) [122, 111, 110, 101] ap [123] (by simp)
  rw [hsz] at hbb
  have hbl : Below (w.alloc (.cells #[strs ap, .slice A sets.length c] 32)).heap.size (w.alloc (.cells #[strs ap, .slice A sets.length c] 32)) ((w.alloc (.cells #[strs ap, .slice A sets.length c] 32)).alloc (.cells #[strs [122, 111, 110, 101], strs ap, strs [123]] 9)) := (Below.refl _ _).alloc (Nat.le_refl _) _
  have hblw : Below w.heap.size w ((w.alloc (.cells #[strs ap, .slice A sets.length c] 32)).alloc (.cells #[strs [122, 111, 110, 101], strs ap, strs [123]] 9)) := hba.trans (hbl.mono (by rw [hsz]; omega))
  have hsz2 : ((w.alloc (.cells #[strs ap, .slice A sets.length c] 32)).alloc (.cells #[strs [122, 111, 110, 101], strs ap, strs [123]] 9)).heap.size = w.heap.size + 1 + 1 := by rw [World.size_alloc, hsz]
  have hN2 : ((w.alloc (.cells #[strs ap, .slice A sets.length c] 32)).alloc (.cells #[strs [122, 111, 110, 101], strs ap, strs [123]] 9)).heap[w.heap.size]? = some (.cells #[strs ap, .slice A sets.length c] 32 (0, 0)) := (hbl.block _ (by rw [hsz]; omega)).trans hN
  refine (line_any B b r l _ [[122, 111, 110, 101], ap, [123]] _ (HB.out.keep hblw) (strsX_own hbb (by omega) (fun k hk => by have := (HRW.out k hk).2; omega) (by simp)) (by omega) (by omega) (by rw [hsz2]; omega)).mono ?_
  rintro e w1 ⟨rfl, r1, hb1, hs1⟩
  have hr0 : r ≠ some w.heap.size := fun e => by have := (HRW.out _ e).2; omega
  have hr1 : r1 ≠ some w.heap.size := hs1.free (by rw [hsz2]; omega) hr0
  have hN3 : w1.heap[w.heap.size]? = some (.cells #[strs ap, .slice A sets.length c] 32 (0, 0)) := (hs1.keep _ (by rw [hsz2]; omega) (by omega) hr0).trans hN2
  have hz1 : w.heap.size < w1.heap.size := by have := hs1.size; rw [hsz2] at this; omega
  have HS1 := Lib.hid ((BS.of_below hblw).trans hs1)
  have HB1 := Lib.hid hb1
  have HN3 := Lib.hid hN3
  have c1 : w1.cell? ⟨w.heap.size, 1, none⟩ = some (.slice A sets.length c) := by rw [Lib.cell_of_heap hN3]; rfl
  clear hba hN hsz hbb hbl hblw hsz2 hN2 hs1 hb1 hN3
  go_wp2_with fail
  go_loopw [14] (fun i wr => ZRel B b r1 l ap (.slice A sets.length c) sets w.heap.size w1 i wr) (fun i _ => sets.length - (intOf i).toNat)
  case atStart =>
    refine ⟨0, Nat.zero_le _, rfl, r1, Lib.hid ?_, Lib.hid (BS.refl _ _ _), Lib.hid ⟨hz1, hr1, HN3.out⟩, ?_⟩
    · have := HB1.out
      simpa [Np.setsText, Np.zoneHead] using this
    · simp [Np.setsText]; omega
  case round =>
    obtain ⟨k, hk, rfl, r2, HBk, HSk, HNk, hlen⟩ := hrel
    have hszk := HNk.out.1
    have hr2 : r2 ≠ some w.heap.size := HNk.out.2.1
    have hrowk := HBk.out.row
    have hbk : b < wr.heap.size := hrowk.2.1
    have HRK := Lib.hid hrowk.2.2
    have hNk := HNk.out.2.2
    have q0 : wr.cell? ⟨w.heap.size, 0, none⟩ = some (strs ap) := by rw [Lib.cell_of_heap hNk]; rfl
    have HSw := Lib.hid (HS1.out.trans HSk.out)
    have HBel := Lib.hid (HSw.out.below hBb (fun k hk => (HRW.out k hk).1) hBw)
    clear hrowk hNk c1
    generalize hT : l ++ (Np.zoneHead ⟨ap, sets⟩ ++ Np.setsText ap (sets.take k)) = T at HBk hlen
    have HT := Lib.hid hT
    clear hT
    by_cases hlt : k < sets.length
    · have hget := List.getElem?_eq_getElem hlt
      obtain ⟨bs, o, c', sn, dv, sv, hA, hbB, _, hsn, hsz, hdv, hsv, e0, e1, e2, e3, e4⟩ := signed_at (HD.out.keep rsigned_kept HBel.out) hget
      cases hA
      have hvs := HVS.out _ (List.getElem_mem hlt)
      have hps := HPS.out _ (List.getElem_mem hlt)
      generalize hx : sets[k] = x at *
      clear hx
      obtain ⟨Ad, cd, rfl, hcd, hld⟩ := slr_form hdv
      obtain ⟨As, cs, rfl, hcs, hls⟩ := slr_form hsv
      have h8 := (Np.plain_parts hps).2.1
      obtain ⟨_, v2, v3, _⟩ := Np.valid_parts hvs
      have hset : (⟨sn.data.toList, x.set.type, x.set.life, x.set.data⟩ : Np.DSet) = x.set := by rw [hsn]
      have hbd := Np.entry_bd (apex := ap) hvs (by omega)
      have HVX := Lib.hid hvs
      have HX := Lib.hid hget
      have HSET := Lib.hid hset
      have HDV := Lib.hid hdv
      clear hdv hsv hget hvs hps hset hsn
      go_wp2_with fail
      have hbm : Below wr.heap.size wr (wr.alloc (.cells #[.string sn, .int .i64 x.set.type, .int .i64 x.set.life, .slice Ad x.set.data.length cd, .slice As x.sigs.length cs] 41)) := (Below.refl _ _).alloc (Nat.le_refl _) _
      have hszm : (wr.alloc (.cells #[.string sn, .int .i64 x.set.type, .int .i64 x.set.life, .slice Ad x.set.data.length cd, .slice As x.sigs.length cs] 41)).heap.size = wr.heap.size + 1 := World.size_alloc _ _
      generalize wr.alloc (.cells #[.string sn, .int .i64 x.set.type, .int .i64 x.set.life, .slice Ad x.set.data.length cd, .slice As x.sigs.length cs] 41) = wm at hbm hszm ⊢
      have HBM := Lib.hid hbm
      have HSZM := Lib.hid hszm
      have HBelm := Lib.hid (HBel.out.trans (hbm.mono (by have := HBel.out.size; omega)))
      have hwm : wr.heap.size + 1 ≤ wm.heap.size := by omega
      have hBwr : B ≤ wr.heap.size := by have := HBel.out.size; omega
      have hent := entry_any ⟨ap.toArray⟩ sn x.set.type x.set.life (.slice Ad x.set.data.length cd) x.set.data wm (by rw [HSET.out]; exact HVX.out) (by omega) (HP.out.keepAt HBelm.out hPB) ((HWD.out.keep HBelm.out).more (by omega)) ((HDV.out.keep rdatum_kept (hbm.mono hBwr)).more rdatum_more (by omega))
      rw [HSET.out] at hent
      have HENT := Lib.hid hent
      clear hent hbm hszm e0 e1 e2 e3 e4
      refine HENT.out.mono ?_
      rintro e w3 ⟨v3, rfl, hown3, hb3⟩
      have hs3 : wm.heap.size ≤ w3.heap.size := hb3.size
      have HB3 := Lib.hid (HBM.out.trans (hb3.mono (by omega)))
      have HX3 := Lib.hid (strsX_own (b := b) (r := r2) hown3 (by omega) (fun j hj => by have := (HRK.out j hj).2; omega) (by simp only; omega))
      clear hown3 hb3
      go_wp2_with fail
      refine (line_any B b r2 T v3 (Np.entryWords ap x.set) _ (HBk.out.keep HB3.out) HX3.out (by omega) (by omega) (by omega)).mono ?_
      rintro e w4 ⟨rfl, r4, hb4, hs4⟩
      have HB4 := Lib.hid hb4
      have HS4 := Lib.hid ((BS.of_below (b := b) (r := r2) HB3.out).trans hs4)
      have hN4 : w4.heap[w.heap.size]? = some (.cells #[strs ap, .slice (some ⟨bs, o, none⟩) sets.length c] 32 (0, 0)) := ((HS4.out.keep _ hszk (by omega) hr2).trans HNk.out.2.2)
      have HN4 := Lib.hid hN4
      have hr4 := HS4.out.free hszk hr2
      have hsz4 := HS4.out.size
      have hll : (T ++ Np.lineText (Np.entryWords ap x.set)).length ≤ 12000 := by
        have h2 := hbd.2
        simp only [Np.lineText, List.length_append, List.length_singleton]
        omega
      have hTn : T ++ Np.lineText (Np.entryWords ap x.set) = l ++ (Np.zoneHead ⟨ap, sets⟩ ++ Np.setsText ap (sets.take (k + 1))) := by
        rw [← HT.out, setsText_take HX.out]; simp
      generalize hT2 : T ++ Np.lineText (Np.entryWords ap x.set) = T2 at HB4 hll hTn
      have HTN := Lib.hid hTn
      clear hb4 hs4 hN4 hT2 hTn
      go_wp2_with (go_at_call 39; refine (len_any B b r4 T2 _ HB4.out).mono ?_; rintro e w' ⟨rfl, rfl⟩)
      · have h8k : (8000 : Int) < (T2.length : Int) := by assumption
        go_end0
        refine ⟨rfl, r4, Np.zoneHead ⟨ap, sets⟩ ++ Np.setsText ap (sets.take (k + 1)), ?_, .inr ?_, ?_, HSw.out.trans HS4.out⟩
        · unfold Np.zoneText
          rw [List.append_assoc]
          refine (List.prefix_append_right_inj _).2 ?_
          exact (setsText_prefix sets (k + 1)).trans (List.prefix_append _ _)
        · rw [← HTN.out]; omega
        · rw [← HTN.out]; exact HB4.out
      · have h8k : (T2.length : Int) ≤ 8000 := by assumption
        go_roundw
        case rel => exact ⟨k + 1, by omega, by go_num, r4, Lib.hid (by rw [← HTN.out]; exact HB4.out), Lib.hid (HSk.out.trans HS4.out), Lib.hid ⟨by omega, hr4, HN4.out⟩, by rw [← HTN.out]; omega⟩
        case measure => simp [intOf] <;> omega
    · go_wp2_with fail
      have hown := cells_strs1 wr wr.heap.size [125] (Nat.le_refl _)
      have hbl : Below wr.heap.size wr (wr.alloc (.cells #[strs [125]] 9)) := (Below.refl _ _).alloc (Nat.le_refl _) _
      have HBL := Lib.hid hbl
      have HOWN := Lib.hid hown
      clear hown hbl
      have hBwr : B ≤ wr.heap.size := by have := HBel.out.size; omega
      refine (line_any B b r2 T _ [[125]] _ (HBk.out.keep HBL.out) (strsX_own HOWN.out hbk (fun j hj => (HRK.out j hj).2) (by simp)) (by omega) (by simp [Np.joinB]) (by simp; omega)).mono ?_
      rintro e w4 ⟨rfl, r4, hb4, hs4⟩
      have HB4 := Lib.hid hb4
      have HS4 := Lib.hid ((BS.of_below (b := b) (r := r2) HBL.out).trans hs4)
      clear hb4 hs4
      go_wp2_with fail
      go_end0
      have ht : T ++ Np.lineText [[125]] = l ++ Np.zoneText ⟨ap, sets⟩ := by
        rw [← HT.out, List.take_of_length_le (by omega)]
        simp [Np.zoneText]
      refine ⟨rfl, r4, Np.zoneText ⟨ap, sets⟩, List.prefix_refl _, .inl rfl, ?_, HSw.out.trans HS4.out⟩
      rw [← ht]; exact HB4.out
end Go.Proofs.YtnbolgdccdnjeaaGreatDoor
/- Contracts of package printer: what can be written. -/
namespace Go.Proofs.YtnbolgdccdnjeaaGreatDoor
open Go.RowKit
theorem isDigits_any (s : ByteArray) (hs : s.size ≤ 100000) (w : World) (r : Bool) (hr : s.data.toList.all Np.isDig = r) :
    Calls Tryz.prog 72 #[.string s] w fun e w' => e = .returned (.bool r) ∧ Below w.heap.size w w' := by
  have hi : (Lib.trimS s.data.toList digits = []) ↔ s.data.toList.all Np.isDig = true := trim_nil _
  generalize hts : Lib.trimS s.data.toList digits = ts at hi
  have HTS := Lib.hid hts
  clear hts
  cases r with
  | true =>
    have h0 : ts = [] := hi.2 hr
    subst h0
    clear hi hr
    go_enter Tryz.func72, Tryz.ntmps72
    go_wp2_with fail
    refine (trim_digits s hs _).mono ?_
    rw [HTS.out, show bytesOf [] = ⟨#[]⟩ from rfl]
    rintro e w1 ⟨rfl, hb⟩
    have HB := Lib.hid hb
    clear hb
    go_wp2_with fail
    go_ret
    exact ⟨rfl, HB.out⟩
  | false =>
    have h0 : ts ≠ [] := fun e => by rw [hi.1 e] at hr; cases hr
    have hte := bytesOf_nil h0
    clear hi hr
    generalize hbs : bytesOf ts = bs at hte
    have HBS := Lib.hid hbs
    clear hbs
    go_enter Tryz.func72, Tryz.ntmps72
    go_wp2_with fail
    refine (trim_digits s hs _).mono ?_
    rw [HTS.out, HBS.out]
    rintro e w1 ⟨rfl, hb⟩
    have HB := Lib.hid hb
    clear hb
    go_wp2_with fail
    go_ret
    exact ⟨by simp, HB.out⟩
def WritRel (w1 : World) (l : List Np.Signed) (i : Value) (wr : World) : Prop :=
  ∃ k : Nat, k ≤ l.length ∧ i = .int .i64 k ∧ Hid (Below w1.heap.size w1 wr) ∧ Hid (∀ j x, j < k → l[j]? = some x → Np.plainS x = true)
theorem plainZ_yes {a : List UInt8} {l : List Np.Signed} (ha : a.all Np.isDig = false) (h : ∀ j x, j < l.length → l[j]? = some x → Np.plainS x = true) : Np.plainZ ⟨a, l⟩ = true := by
  unfold Np.plainZ
  simp only [ha, Bool.not_false, Bool.true_and, List.all_eq_true]
  intro x hx
  obtain ⟨j, hj, rfl⟩ := List.mem_iff_getElem.1 hx
  exact h j _ hj (List.getElem?_eq_getElem hj)
theorem plainZ_no {a : List UInt8} {l : List Np.Signed} {j : Nat} {x : Np.Signed} (hx : l[j]? = some x) (h : Np.plainS x = false) : Np.plainZ ⟨a, l⟩ = false := by
  unfold Np.plainZ
  have : l.all Np.plainS = false := by rw [List.all_eq_false]; exact ⟨x, List.mem_of_getElem? hx, by simp [h]⟩
  simp only [this, Bool.and_false]
def WritIn (wo : World) (ds : List Np.Datum) (i : Value) (wr : World) : Prop :=
  ∃ k : Nat, k ≤ ds.length ∧ i = .int .i64 k ∧ Hid (Below wo.heap.size wo wr) ∧ Hid (∀ j d, j < k → ds[j]? = some d → d.text.all Np.isDig = false)
set_option maxRecDepth 100000 in
set_option maxHeartbeats 4000000 in
theorem isWritable_any (a : ByteArray) (v : Value) (l : List Np.Signed) (w : World) (hr : Np.rightZ ⟨a.data.toList, l⟩ = true) (hd : SlR RSigned 5 w w.heap.size v l) :
    Calls Tryz.prog 37 #[.agg #[.string a, v]] w fun e w' => e = .returned (.bool (Np.plainZ ⟨a.data.toList, l⟩)) ∧ Below w.heap.size w w' := by
  unfold Np.rightZ at hr
  simp only [Bool.and_eq_true] at hr
  have hsa : a.size ≤ 60 := by have := (Np.name_form hr.1.1).1; rwa [size_list] at this
  have HVS := Lib.hid (Np.goodSets_valid hr.2)
  have HD := Lib.hid hd
  obtain ⟨A, c, rfl, hc1, hl1, -⟩ := hd
  clear hr
  have HW : Hid (∀ o, Below w.heap.size w (w.alloc o)) := Lib.hid (fun o => (Below.refl _ w).alloc (Nat.le_refl _) _)
  cases hda : a.data.toList.all Np.isDig with
  | true =>
    have hf : Np.plainZ ⟨a.data.toList, l⟩ = false := by unfold Np.plainZ; rw [hda]; rfl
    rw [hf]
    have HDA := Lib.hid hda
    clear hf hda
    go_enter Tryz.func37, Tryz.ntmps37
    go_wp2_with fail
    refine (isDigits_any a (by omega) _ true HDA.out).mono ?_
    rintro e w1 ⟨rfl, hb⟩
    have HB := Lib.hid ((HW.out _).trans (hb.mono (by simp)))
    clear hb
    go_wp2_with fail
    go_ret
    exact ⟨rfl, HB.out⟩
  | false =>
    have HDA := Lib.hid hda
    clear hda
    go_enter Tryz.func37, Tryz.ntmps37
    go_wp2_with fail
    refine (isDigits_any a (by omega) _ false HDA.out).mono ?_
    rintro e w1 ⟨rfl, hb⟩
    have c1 : w1.cell? ⟨w.heap.size, 1, none⟩ = some (.slice A l.length c) := by rw [hb.cell (by simp)]; go_simp
    have hlt1 : w.heap.size < w1.heap.size := by have := hb.size; simp at this; omega
    have HB1 := Lib.hid ((HW.out _).trans (hb.mono (by simp)))
    clear hb
    go_wp2_with fail
    go_loopw [13] (fun i wr => WritRel w1 l i wr) (fun i _ => l.length - (intOf i).toNat)
    case atStart => exact ⟨0, Nat.zero_le _, rfl, Lib.hid (Below.refl _ _), Lib.hid (fun j x hj => by omega)⟩
    case round =>
      obtain ⟨k, hk, rfl, HBr, HA⟩ := hrel
      by_cases hlt : k < l.length
      · have hbw0 : Below w.heap.size w wr := HB1.out.trans (HBr.out.mono (by omega))
        have hget := List.getElem?_eq_getElem hlt
        obtain ⟨b, o, c', sn, dv, sv, hA, hbB, _, hsn, hsz, hdv, hsv, e0, e1, e2, e3, e4⟩ := signed_at (HD.out.keep rsigned_kept hbw0) hget
        cases hA
        have hvs := HVS.out _ (List.getElem_mem hlt)
        generalize hx : l[k] = x at *
        clear hx
        obtain ⟨Ad, cd, rfl, hcd, hld⟩ := slr_form hdv
        obtain ⟨As, cs, rfl, hcs, hls⟩ := slr_form hsv
        obtain ⟨v1, v2, v3, _, _, _, _, v8⟩ := Np.valid_parts hvs
        have hnl : sn.size ≤ 60 := by have := (Np.name_form v1).1; rw [← hsn, size_list] at this; exact this
        have hwr : w.heap.size < wr.heap.size := by have := HBr.out.size; omega
        have HX := Lib.hid hget
        have HSN := Lib.hid hsn
        have HDV := Lib.hid hdv
        have HBW0 := Lib.hid hbw0
        have HGD := Lib.hid (Np.goodData_all v8)
        have hnext : Np.plainS x = true → ∀ j y, j < k + 1 → l[j]? = some y → Np.plainS y = true := fun h j y hj hy => by
          by_cases e : j = k
          · subst e; rw [HX.out] at hy; cases hy; exact h
          · exact HA.out j y (by omega) hy
        have HN := Lib.hid hnext
        clear hdv hsv hget hsn hbw0 hvs v1 v8 hnext c1
        have hba : ∀ o, Below wr.heap.size wr (wr.alloc o) := fun o => (Below.refl _ _).alloc (Nat.le_refl _) _
        have HBA := Lib.hid hba
        clear hba
        by_cases hsg : x.sigs.length = 0
        · have hsg0 : x.sigs = [] := List.eq_nil_of_length_eq_zero hsg
          have hsi : (x.sigs.length : Int) ≤ 0 := by omega
          by_cases h8 : x.set.type = 8
          · have hp : Np.plainS x = false := by unfold Np.plainS; rw [decide_eq_false (by simp [h8])]; simp
            have HP := Lib.hid hp
            clear hp
            go_wp2_with fail
            go_ret
            exact ⟨ret_bool (plainZ_no HX.out HP.out).symm, HBW0.out.trans ((HBA.out _).mono (by omega))⟩
          · have h8b : (x.set.type == 8) = false := by simpa using h8
            cases hdn : sn.data.toList.all Np.isDig with
            | true =>
              have hp : Np.plainS x = false := by unfold Np.plainS; rw [← HSN.out, hdn]; simp
              have HP := Lib.hid hp
              have HDN := Lib.hid hdn
              clear hp hdn
              go_wp2_with fail
              refine (isDigits_any sn (by omega) _ true HDN.out).mono ?_
              rintro e w2 ⟨rfl, hb2⟩
              have HB2 := Lib.hid (HBW0.out.trans (((HBA.out _).trans (hb2.mono (by simp))).mono (by omega)))
              clear hb2
              go_wp2_with fail
              go_ret
              exact ⟨ret_bool (plainZ_no HX.out HP.out).symm, HB2.out⟩
            | false =>
              have HDN := Lib.hid hdn
              clear hdn
              go_wp2_with fail
              refine (isDigits_any sn (by omega) _ false HDN.out).mono ?_
              rintro e w2 ⟨rfl, hb2⟩
              have p1 : w2.cell? ⟨wr.heap.size, 1, none⟩ = some (.int .i64 x.set.type) := by rw [hb2.cell (by simp)]; exact World.cell?_alloc_new _ _ _ _
              have p3 : w2.cell? ⟨wr.heap.size, 3, none⟩ = some (.slice Ad x.set.data.length cd) := by rw [hb2.cell (by simp)]; exact World.cell?_alloc_new _ _ _ _
              have hz2 : wr.heap.size < w2.heap.size := by have := hb2.size; simp at this; omega
              have HB2 := Lib.hid ((HBA.out _).trans (hb2.mono (by simp)))
              clear hb2 e0 e1 e2 e3 e4
              by_cases h23 : x.set.type = 2 ∨ x.set.type = 3
              · have h2a : ((x.set.type != 2) && (x.set.type != 3)) = false := by
                  rcases h23 with h | h <;> simp [h]
                have hspl : Np.plainS x = x.set.data.all fun d => !d.text.all Np.isDig := by
                  unfold Np.plainS
                  rw [← HSN.out, HDN.out, hsg0, decide_eq_true h8]
                  have : (decide (x.set.type = 2) || decide (x.set.type = 3)) = true := by simpa using h23
                  rw [this]; simp
                have HSPL := Lib.hid hspl
                have hdt : ∀ d ∈ x.set.data, d.text.length ≤ 60 := fun d hd => (Np.datum_bd (by omega) (by omega) (HGD.out d hd)).2.2.2.2.2
                have HDT := Lib.hid hdt
                have HB2r := Lib.hid (HBr.out.trans (HB2.out.mono HBr.out.size))
                have HB20 := Lib.hid (HBW0.out.trans (HB2.out.mono (by omega)))
                have HD2 := Lib.hid (HDV.out.keep rdatum_kept (HB2.out.mono (by omega)))
                clear hspl hdt HDV HBW0 HB2 hsg0 hsg
                generalize hty : x.set.type = ty at *
                clear hty
                rcases h23 with rfl | rfl
                all_goals
                  go_wp2_with fail
                  obtain ⟨wo, rfl⟩ : ∃ wo : World, wo = w2 := ⟨_, rfl⟩
                  go_loopw [47] (fun i wr => WritIn wo x.set.data i wr) (fun i _ => x.set.data.length - (intOf i).toNat)
                  case atStart => exact ⟨0, Nat.zero_le _, rfl, Lib.hid (Below.refl _ _), Lib.hid (fun j d hj => by omega)⟩
                  case round =>
                    obtain ⟨i, hi, rfl, HBi, HAi⟩ := hrel
                    by_cases hlti : i < x.set.data.length
                    · have hgeti := List.getElem?_eq_getElem hlti
                      obtain ⟨bd, od, cd', sd, hAd, hbd, _, hsd, hsdz, f0, f1, f2⟩ := datum_at (HD2.out.keep rdatum_kept (HBi.out.mono (by omega))) hgeti
                      cases hAd
                      have hdl := HDT.out _ (List.getElem_mem hlti)
                      generalize hxd : x.set.data[i] = d at *
                      clear hxd
                      have hsd60 : sd.size ≤ 60 := by rw [← size_list, hsd]; exact hdl
                      have HGI := Lib.hid hgeti
                      have HSD := Lib.hid hsd
                      clear hgeti hsd hdl
                      have hbai : ∀ o, Below wr.heap.size wr (wr.alloc o) := fun o => (Below.refl _ _).alloc (Nat.le_refl _) _
                      have HBAI := Lib.hid hbai
                      clear hbai
                      cases hdd : sd.data.toList.all Np.isDig with
                      | true =>
                        have hp : Np.plainS x = false := by
                          rw [HSPL.out, List.all_eq_false]
                          exact ⟨d, List.mem_of_getElem? HGI.out, by rw [← HSD.out, hdd]; simp⟩
                        have HP := Lib.hid hp
                        have HDD := Lib.hid hdd
                        clear hp hdd
                        go_wp2_with fail
                        refine (isDigits_any sd (by omega) _ true HDD.out).mono ?_
                        rintro e w5 ⟨rfl, hb5⟩
                        have HB5 := Lib.hid (HB20.out.trans ((HBi.out.trans (((HBAI.out _).trans (hb5.mono (by simp))).mono HBi.out.size)).mono (by omega)))
                        clear hb5
                        go_wp2_with fail
                        go_ret
                        exact ⟨ret_bool (plainZ_no HX.out HP.out).symm, HB5.out⟩
                      | false =>
                        have HDD := Lib.hid hdd
                        clear hdd
                        go_wp2_with fail
                        refine (isDigits_any sd (by omega) _ false HDD.out).mono ?_
                        rintro e w5 ⟨rfl, hb5⟩
                        have HB5 := Lib.hid (HBi.out.trans (((HBAI.out _).trans (hb5.mono (by simp))).mono HBi.out.size))
                        clear hb5
                        go_wp2_with fail
                        go_roundw
                        case rel =>
                          refine ⟨i + 1, by omega, by go_num, HB5, Lib.hid (fun j y hj hy => ?_)⟩
                          by_cases e : j = i
                          · subst e; rw [HGI.out] at hy; cases hy; rw [← HSD.out]; exact HDD.out
                          · exact HAi.out j y (by omega) hy
                        case measure => simp [intOf] <;> omega
                    · have hp : Np.plainS x = true := by
                        rw [HSPL.out, List.all_eq_true]
                        intro d hd
                        obtain ⟨j, hj, rfl⟩ := List.mem_iff_getElem.1 hd
                        rw [HAi.out j _ (by omega) (List.getElem?_eq_getElem hj)]; rfl
                      have HP := Lib.hid hp
                      clear hp
                      go_wp2_with fail
                      go_roundw
                      case rel => exact ⟨k + 1, by omega, by go_num, Lib.hid (HB2r.out.trans (HBi.out.mono (by have := HBr.out.size; omega))), Lib.hid (HN.out HP.out)⟩
                      case measure => simp [intOf] <;> omega
              · have h2 : (x.set.type != 2) = true := by simp; omega
                have h3 : (x.set.type != 3) = true := by simp; omega
                have hp : Np.plainS x = true := by
                  unfold Np.plainS
                  rw [← HSN.out, HDN.out, hsg0, decide_eq_true h8]
                  have : (decide (x.set.type = 2) || decide (x.set.type = 3)) = false := by simp; omega
                  rw [this]; rfl
                have HP := Lib.hid hp
                clear hp h23
                go_wp2_with fail
                go_roundw
                case rel => exact ⟨k + 1, by omega, by go_num, Lib.hid (HBr.out.trans (HB2.out.mono HBr.out.size)), Lib.hid (HN.out HP.out)⟩
                case measure => simp [intOf] <;> omega
        · have hsi : (0 : Int) < (x.sigs.length : Int) := by omega
          have hsn0 : 0 < x.sigs.length := by omega
          have hsd0 : decide (0 < x.sigs.length) = true := decide_eq_true hsn0
          have hp : Np.plainS x = false := by
            unfold Np.plainS
            have : x.sigs.isEmpty = false := by cases hs : x.sigs with
              | nil => rw [hs] at hsg; simp at hsg
              | cons => rfl
            rw [this]; rfl
          have HP := Lib.hid hp
          clear hp
          go_wp2_with fail
          go_ret
          exact ⟨ret_bool (plainZ_no HX.out HP.out).symm, HBW0.out.trans ((HBA.out _).mono (by omega))⟩
      · go_wp2_with fail
        go_ret
        refine ⟨ret_bool ?_, HB1.out.trans (HBr.out.mono (by omega))⟩
        exact (plainZ_yes HDA.out (fun j x hj hx => HA.out j x (by omega) hx)).symm
end Go.Proofs.YtnbolgdccdnjeaaGreatDoor
/- Contract of printer.Print. -/
namespace Go.Proofs.YtnbolgdccdnjeaaGreatDoor
open Go.RowKit
theorem print_1 {l : List Np.Zone} {z : Np.Zone} (hz : z ∈ l) (h : Np.rightZ z = false) : Np.print l = ([], 1) := by
  unfold Np.print
  rw [if_pos (by rw [List.all_eq_false]; exact ⟨z, hz, by simp [h]⟩)]
theorem print_5 {l : List Np.Zone} (h1 : l.all Np.rightZ = true) (h : Np.twice (l.map (·.apex)) = true) : Np.print l = ([], 5) := by
  unfold Np.print
  rw [if_neg (by simp [h1]), if_pos h]
theorem print_12 {l : List Np.Zone} {z : Np.Zone} (h1 : l.all Np.rightZ = true) (h2 : Np.twice (l.map (·.apex)) = false) (hz : z ∈ l) (h : Np.plainZ z = false) : Np.print l = ([], 12) := by
  unfold Np.print
  rw [if_neg (by simp [h1]), if_neg (by simp [h2]), if_pos (by rw [List.all_eq_false]; exact ⟨z, hz, by simp [h]⟩)]
theorem print_2 {l : List Np.Zone} (h1 : l.all Np.rightZ = true) (h2 : Np.twice (l.map (·.apex)) = false) (h3 : l.all Np.plainZ = true) (h : 8000 < (l.flatMap Np.zoneText).length) : Np.print l = ([], 2) := by
  unfold Np.print
  rw [if_neg (by simp [h1]), if_neg (by simp [h2]), if_neg (by simp [h3]), if_pos h]
theorem print_2b {l : List Np.Zone} (h1 : l.all Np.rightZ = true) (h2 : Np.twice (l.map (·.apex)) = false) (h3 : l.all Np.plainZ = true) (h4 : (l.flatMap Np.zoneText).length ≤ 8000) (h : (Np.lex (l.flatMap Np.zoneText)).2.1 ≠ 0) : Np.print l = ([], 2) := by
  unfold Np.print
  rw [if_neg (by simp [h1]), if_neg (by simp [h2]), if_neg (by simp [h3]), if_neg (by omega), if_pos h]
theorem all_of_at {α : Type} {p : α → Bool} {l : List α} (h : ∀ j x, j < l.length → l[j]? = some x → p x = true) : l.all p = true := by
  rw [List.all_eq_true]
  intro x hx
  obtain ⟨j, hj, rfl⟩ := List.mem_iff_getElem.1 hx
  exact h j _ hj (List.getElem?_eq_getElem hj)
theorem twice_at : ∀ {l : List (List UInt8)} {j : Nat} {x : List UInt8}, l[j]? = some x → x ∈ l.take j → Np.twice l = true := by
  intro l
  induction l with
  | nil => intro j x h; simp at h
  | cons y l ih =>
    intro j x h hm
    cases j with
    | zero => simp at hm
    | succ j =>
      simp only [List.getElem?_cons_succ, List.take_succ_cons] at h hm
      rw [Np.twice, Bool.or_eq_true]
      rcases List.mem_cons.1 hm with e | e
      · left; subst e; simpa using List.mem_of_getElem? h
      · exact .inr (ih h e)
theorem twice_none : ∀ {l : List (List UInt8)}, (∀ j x, l[j]? = some x → x ∉ l.take j) → Np.twice l = false := by
  intro l
  induction l with
  | nil => intro _; rfl
  | cons y l ih =>
    intro h
    rw [Np.twice, Bool.or_eq_false_iff]
    constructor
    · simp only [List.contains_eq_mem, decide_eq_false_iff_not]
      intro hm
      obtain ⟨j, hj, e⟩ := List.mem_iff_getElem.1 hm
      refine h (j + 1) y (by simp [List.getElem?_eq_getElem hj, e]) (by simp)
    · exact ih (fun j x hx hm => h (j + 1) x (by simpa using hx) (by simp [hm]))
/-- The apexes that were met. -/
def metOf (l : List Np.Zone) : List (List UInt8 × Value) := l.map fun z => (z.apex, .bool true)
theorem met_lookup (l : List Np.Zone) (x : List UInt8) : ((metOf l).lookup x).getD (.bool false) = .bool (decide (x ∈ l.map (·.apex))) ∧ (x ∉ l.map (·.apex) → (metOf l).lookup x = none) := by
  induction l with
  | nil => exact ⟨rfl, fun _ => rfl⟩
  | cons z l ih =>
    by_cases h : x = z.apex
    · have : ((metOf (z :: l)).lookup x) = some (.bool true) := by simp [metOf, h]
      rw [this]
      exact ⟨by simp [h], fun hn => absurd (by simp [h]) hn⟩
    · have hb : (x == z.apex) = false := by simpa using h
      have : ((metOf (z :: l)).lookup x) = (metOf l).lookup x := by simp [metOf, List.lookup_cons, hb]
      rw [this]
      refine ⟨by rw [ih.1]; simp [h], fun hn => ih.2 (fun e => hn (by simp [e]))⟩
def PrA (p : Np.Zone → Bool) (w : World) (zs : List Np.Zone) (i : Value) (wr : World) : Prop :=
  ∃ k : Nat, k ≤ zs.length ∧ i = .int .i64 k ∧ Hid (Below w.heap.size w wr) ∧ Hid (∀ j z, j < k → zs[j]? = some z → p z = true)
def PrB (M : Nat) (w : World) (zs : List Np.Zone) (i : Value) (wr : World) : Prop :=
  ∃ k : Nat, k ≤ zs.length ∧ i = .int .i64 k ∧ Hid (Below w.heap.size w wr) ∧ Hid (MapS M (metOf (zs.take k)) wr) ∧ Hid (∀ j z, j < k → zs[j]? = some z → z.apex ∉ (zs.take j).map (·.apex))
def PrC (b : Nat) (w : World) (zs : List Np.Zone) (i : Value) (wr : World) : Prop :=
  ∃ k : Nat, k ≤ zs.length ∧ i = .int .i64 k ∧ Hid (Below w.heap.size w wr) ∧ (∃ r, Hid (Bld WT b b r ((zs.take k).flatMap Np.zoneText) wr)) ∧ ((zs.take k).flatMap Np.zoneText).length ≤ 8000
set_option maxRecDepth 100000 in
set_option maxHeartbeats 8000000 in
theorem print_any (v : Value) (zs : List Np.Zone) (w : World) (hR : RulesIn w w.heap.size) (hE : ErrIn w) (hP : PowIn w) (hWd : WordsIn w w.heap.size) (hz : SlR RZone 2 w w.heap.size v zs) :
    Calls Tryz.prog 16 #[v] w fun e w' => e = .returned (.tuple #[strs (Np.print zs).1, .int .i64 (Np.print zs).2]) ∧ Below w.heap.size w w' := by
  have HR := Lib.hid hR
  have HE := Lib.hid hE
  have HP := Lib.hid hP
  have HWD := Lib.hid hWd
  have HZ := Lib.hid hz
  obtain ⟨A, c, rfl, hc1, hl1, -⟩ := hz
  have hmm : ∀ (n : Int) (w : World), (Instr.makeMap 79 (some (.int .i64 n))).run Tryz.prog w = .ok (.map (some w.heap.size)) (w.alloc (.map #[] 0)) := fun n w => by
    simp [Instr.makeMap, run_underlying Tryz.underlying79, asInt, asIntOf, Result.andThen]
  have hret : ∀ (_ : List UInt8 × Int) (x : List UInt8) (n : Int), Np.print zs = (x, n) → (Ending.returned (.tuple #[strs x, .int .i64 n])) = .returned (.tuple #[strs (Np.print zs).1, .int .i64 (Np.print zs).2]) := fun _ x n h => by rw [h]
  have HRET := Lib.hid hret
  clear hR hE hP hWd hret
  go_enter Tryz.func16, Tryz.ntmps16
  go_wp2_with fail
  go_loopw [19] (fun i wr => PrA Np.rightZ w zs i wr) (fun i _ => zs.length - (intOf i).toNat)
  case atStart => exact ⟨0, Nat.zero_le _, rfl, Lib.hid (Below.refl _ _), Lib.hid (fun j z h => by omega)⟩
  case round =>
    obtain ⟨k, hk, rfl, HB, HA⟩ := hrel
    by_cases hlt : k < zs.length
    · have hget := List.getElem?_eq_getElem hlt
      obtain ⟨b, o, c', sn, sv, hA, hbB, _, hsn, hsz, hsv, e0, e1⟩ := zone_at (HZ.out.keep rzone_kept HB.out) hget
      cases hA
      have HM := Lib.hid (List.getElem_mem hlt)
      generalize hx : zs[k] = z at *
      clear hx
      obtain ⟨As, cs, rfl, hcs, hls⟩ := slr_form hsv
      have HX := Lib.hid hget
      have hzz : (⟨sn.data.toList, z.sets⟩ : Np.Zone) = z := by rw [hsn]
      have HZZ := Lib.hid hzz
      have HSV := Lib.hid hsv
      have hwr := HB.out.size
      clear hget hsn hsv hzz
      have hba : ∀ o, Below wr.heap.size wr (wr.alloc o) := fun o => (Below.refl _ _).alloc (Nat.le_refl _) _
      have HBA := Lib.hid hba
      clear hba
      go_wp2_with fail
      have hwa := HBA.out (.cells #[.string sn, .slice As z.sets.length cs] 32)
      generalize wr.alloc (.cells #[.string sn, .slice As z.sets.length cs] 32) = wa at hwa ⊢
      have HWA := Lib.hid hwa
      have HBa := Lib.hid (HB.out.trans (hwa.mono hwr))
      have hwas := hwa.size
      clear hwa
      refine (isOrdered_any sn hsz _ z.sets _ ((HR.out.keep HBa.out).more (by omega)) ((HSV.out.keep rsigned_kept (HWA.out.mono hwr)).more rsigned_more (by omega))).mono ?_
      rw [HZZ.out]
      rintro e w2 ⟨rfl, hb2⟩
      have HB2 := Lib.hid (HBa.out.trans (hb2.mono (by omega)))
      clear hb2
      cases hrz : Np.rightZ z with
      | false =>
        have HRZ := Lib.hid hrz
        clear hrz
        go_wp2_with fail
        go_ret2
        exact ⟨HRET.out ([], 1) [] 1 (print_1 HM.out HRZ.out), HB2.out⟩
      | true =>
        have HRZ := Lib.hid hrz
        clear hrz
        go_wp2_with fail
        go_roundw
        case rel =>
          refine ⟨k + 1, by omega, by go_num, HB2, Lib.hid (fun j y hj hy => ?_)⟩
          by_cases e : j = k
          · subst e; rw [HX.out] at hy; cases hy; exact HRZ.out
          · exact HA.out j y (by omega) hy
        case measure => simp [intOf] <;> omega
    · have hall1 : zs.all Np.rightZ = true := all_of_at (fun j x hj hx => HA.out j x (by omega) hx)
      have HALL1 := Lib.hid hall1
      clear hall1
      obtain ⟨w1, rfl⟩ : ∃ w1 : World, w1 = wr := ⟨_, rfl⟩
      have HB1 := HB
      have hw1 := HB1.out.size
      go_wp2_with fail
      clear hlt hk HA
      go_loopw [32] (fun i wr => PrB w1.heap.size w zs i wr) (fun i _ => zs.length - (intOf i).toNat)
      case atStart => exact ⟨0, Nat.zero_le _, rfl, Lib.hid (HB1.out.alloc hw1 _), Lib.hid (MapS.made w1), Lib.hid (fun j z h => by omega)⟩
      case round =>
        obtain ⟨k, hk, rfl, HB, HMp, HA⟩ := hrel
        by_cases hlt : k < zs.length
        · have hget := List.getElem?_eq_getElem hlt
          obtain ⟨b, o, c', sn, sv, hA, hbB, _, hsn, hsz, hsv, e0, e1⟩ := zone_at (HZ.out.keep rzone_kept HB.out) hget
          cases hA
          have HM := Lib.hid (List.getElem_mem hlt)
          generalize hx : zs[k] = z at *
          clear hx
          obtain ⟨As, cs, rfl, hcs, hls⟩ := slr_form hsv
          have HX := Lib.hid hget
          obtain rfl : sn = ⟨z.apex.toArray⟩ := str_ext (by simpa using hsn)
          have hwr := HB.out.size
          have hMl := HMp.out.lt
          clear hget hsn hsv
          have hba : ∀ o, Below wr.heap.size wr (wr.alloc o) := fun o => (Below.refl _ _).alloc (Nat.le_refl _) _
          have HBA := Lib.hid hba
          clear hba
          obtain ⟨hl1', hl2'⟩ := met_lookup (zs.take k) z.apex
          by_cases hin : z.apex ∈ (zs.take k).map (·.apex)
          · have HV : Hid (((metOf (zs.take k)).lookup z.apex).getD (.bool false) = .bool true) := Lib.hid (by rw [hl1', decide_eq_true hin])
            have htw : Np.twice (zs.map (·.apex)) = true := twice_at (j := k) (x := z.apex) (by rw [List.getElem?_map, HX.out]; rfl) (by rw [← List.map_take]; exact hin)
            have HTW := Lib.hid htw
            clear hl1' hl2' htw hin
            go_wp2_with (at_lookup; refine wpList_lookup_str _ rfl _ _ 79 rfl 9 4 Tryz.underlying79 Tryz.underlying9 w1.heap.size (metOf (zs.take k)) rfl (HMp.out.keep (HBA.out _) hMl) z.apex rfl (.bool false) (by kernel_rfl) ?_; rw [HV.out])
            go_ret2
            exact ⟨HRET.out ([], 5) [] 5 (print_5 HALL1.out HTW.out), HB.out.trans ((HBA.out _).mono hwr)⟩
          · have HV : Hid (((metOf (zs.take k)).lookup z.apex).getD (.bool false) = .bool false) := Lib.hid (by rw [hl1', decide_eq_false hin])
            have HNO := Lib.hid (hl2' hin)
            have HIN := Lib.hid hin
            clear hl1' hl2' hin
            have hM1 : w1.heap.size ≠ wr.heap.size := by omega
            go_wp2_with (first
              | (at_lookup; refine wpList_lookup_str _ rfl _ _ 79 rfl 9 4 Tryz.underlying79 Tryz.underlying9 w1.heap.size (metOf (zs.take k)) rfl (HMp.out.keep (HBA.out _) hMl) z.apex rfl (.bool false) (by kernel_rfl) ?_; rw [HV.out])
              | (at_mapUpdate; refine wpList_update_str _ rfl _ _ _ 79 rfl 9 4 Tryz.underlying79 Tryz.underlying9 w1.heap.size (metOf (zs.take k)) rfl (HMp.out.keep (HBA.out _) hMl) z.apex rfl (.bool true) rfl HNO.out ?_; intro w5 hm5 ht5; have H5 := Lib.hid (And.intro hm5 ht5); clear hm5 ht5))
            go_roundw
            case rel =>
              refine ⟨k + 1, by omega, by go_num, Lib.hid ((HB.out.trans ((HBA.out _).mono hwr)).trans (H5.out.2.below hw1)), Lib.hid ?_, Lib.hid (fun j y hj hy => ?_)⟩
              · have h5 := H5.out.1
                have ht : metOf (zs.take (k + 1)) = metOf (zs.take k) ++ [(z.apex, .bool true)] := by
                  obtain ⟨hl', he'⟩ := List.getElem?_eq_some_iff.1 HX.out
                  rw [List.take_succ_eq_append_getElem hl', he']; simp [metOf]
                rw [ht]; exact h5
              · by_cases e : j = k
                · subst e; rw [HX.out] at hy; cases hy; exact HIN.out
                · exact HA.out j y (by omega) hy
            case measure => simp [intOf] <;> omega
        · have htw : Np.twice (zs.map (·.apex)) = false := twice_none (fun j x hx hm => by
            rw [List.getElem?_map, Option.map_eq_some_iff] at hx
            obtain ⟨z, hz1, rfl⟩ := hx
            exact HA.out j z (by have := (List.getElem?_eq_some_iff.1 hz1).1; omega) hz1 (by rw [List.map_take]; exact hm))
          have HTW := Lib.hid htw
          clear htw
          obtain ⟨w2, rfl⟩ : ∃ w2 : World, w2 = wr := ⟨_, rfl⟩
          have HB2 := HB
          have hw2 := HB2.out.size
          go_wp2_with fail
          clear hlt hk HA HMp
          go_loopw [46] (fun i wr => PrA Np.plainZ w zs i wr) (fun i _ => zs.length - (intOf i).toNat)
          case atStart => exact ⟨0, Nat.zero_le _, rfl, HB2, Lib.hid (fun j z h => by omega)⟩
          case round =>
            obtain ⟨k, hk, rfl, HB, HA⟩ := hrel
            by_cases hlt : k < zs.length
            · have hget := List.getElem?_eq_getElem hlt
              obtain ⟨b, o, c', sn, sv, hA, hbB, _, hsn, hsz, hsv, e0, e1⟩ := zone_at (HZ.out.keep rzone_kept HB.out) hget
              cases hA
              have HM := Lib.hid (List.getElem_mem hlt)
              generalize hx : zs[k] = z at *
              clear hx
              obtain ⟨As, cs, rfl, hcs, hls⟩ := slr_form hsv
              have HX := Lib.hid hget
              have hzz : (⟨sn.data.toList, z.sets⟩ : Np.Zone) = z := by rw [hsn]
              have HZZ := Lib.hid hzz
              have HSV := Lib.hid hsv
              have hwr := HB.out.size
              clear hget hsn hsv hzz
              have hba : ∀ o, Below wr.heap.size wr (wr.alloc o) := fun o => (Below.refl _ _).alloc (Nat.le_refl _) _
              have HBA := Lib.hid hba
              clear hba
              go_wp2_with fail
              have hwa := HBA.out (.cells #[.string sn, .slice As z.sets.length cs] 32)
              generalize wr.alloc (.cells #[.string sn, .slice As z.sets.length cs] 32) = wa at hwa ⊢
              have HWA := Lib.hid hwa
              have HBa := Lib.hid (HB.out.trans (hwa.mono hwr))
              have hwas := hwa.size
              clear hwa
              refine (isWritable_any sn _ z.sets _ (by rw [HZZ.out]; exact List.all_eq_true.1 HALL1.out z HM.out) ((HSV.out.keep rsigned_kept (HWA.out.mono hwr)).more rsigned_more (by omega))).mono ?_
              rw [HZZ.out]
              rintro e w4 ⟨rfl, hb4⟩
              have HB4 := Lib.hid (HBa.out.trans (hb4.mono (by omega)))
              clear hb4
              cases hrz : Np.plainZ z with
              | false =>
                have HRZ := Lib.hid hrz
                clear hrz
                go_wp2_with fail
                go_ret2
                exact ⟨HRET.out ([], 12) [] 12 (print_12 HALL1.out HTW.out HM.out HRZ.out), HB4.out⟩
              | true =>
                have HRZ := Lib.hid hrz
                clear hrz
                go_wp2_with fail
                go_roundw
                case rel =>
                  refine ⟨k + 1, by omega, by go_num, HB4, Lib.hid (fun j y hj hy => ?_)⟩
                  by_cases e : j = k
                  · subst e; rw [HX.out] at hy; cases hy; exact HRZ.out
                  · exact HA.out j y (by omega) hy
                case measure => simp [intOf] <;> omega
            · have hall3 : zs.all Np.plainZ = true := all_of_at (fun j x hj hx => HA.out j x (by omega) hx)
              have HALL3 := Lib.hid hall3
              clear hall3
              obtain ⟨w3, rfl⟩ : ∃ w3 : World, w3 = wr := ⟨_, rfl⟩
              have HB3 := HB
              have hw3 := HB3.out.size
              go_wp2_with fail
              clear hlt hk HA
              go_loopw [56] (fun i wr => PrC w3.heap.size w zs i wr) (fun i _ => zs.length - (intOf i).toNat)
              case atStart => exact ⟨0, Nat.zero_le _, rfl, Lib.hid (HB3.out.alloc hw3 _), ⟨none, Lib.hid (Bld.fresh WT w3)⟩, by simp⟩
              case round =>
                obtain ⟨k, hk, rfl, HB, ⟨r, HBl⟩, hlen⟩ := hrel
                have hrow := HBl.out.row
                have hbw : w3.heap.size < wr.heap.size := hrow.2.1
                have HRW := Lib.hid hrow.2.2
                clear hrow
                generalize hT : (zs.take k).flatMap Np.zoneText = T at HBl hlen
                have HT := Lib.hid hT
                clear hT
                by_cases hlt : k < zs.length
                · have hget := List.getElem?_eq_getElem hlt
                  obtain ⟨b, o, c', sn, sv, hA, hbB, _, hsn, hsz, hsv, e0, e1⟩ := zone_at (HZ.out.keep rzone_kept HB.out) hget
                  cases hA
                  have HM := Lib.hid (List.getElem_mem hlt)
                  generalize hx : zs[k] = z at *
                  clear hx
                  obtain ⟨As, cs, rfl, hcs, hls⟩ := slr_form hsv
                  have HX := Lib.hid hget
                  obtain rfl : sn = ⟨z.apex.toArray⟩ := str_ext (by simpa using hsn)
                  have HSV := Lib.hid hsv
                  have hwr := HB.out.size
                  clear hget hsn hsv
                  have hba : ∀ o, Below wr.heap.size wr (wr.alloc o) := fun o => (Below.refl _ _).alloc (Nat.le_refl _) _
                  have HBA := Lib.hid hba
                  clear hba
                  go_wp2_with fail
                  have hwa := HBA.out (.cells #[strs z.apex, .slice As z.sets.length cs] 32)
                  generalize wr.alloc (.cells #[strs z.apex, .slice As z.sets.length cs] 32) = wa at hwa ⊢
                  have HWA := Lib.hid hwa
                  have HBa := Lib.hid (HB.out.trans (hwa.mono hwr))
                  have hwas := hwa.size
                  clear hwa
                  refine (zoneP_any w3.heap.size w3.heap.size r T z.apex _ z.sets _ (HBl.out.keep HWA.out) hlen (List.all_eq_true.1 HALL1.out z HM.out) (List.all_eq_true.1 HALL3.out z HM.out) (by omega) (HP.out.keep HBa.out) (by have := HP.out.lt; omega) ((HWD.out.keep HBa.out).more hw3) ((HSV.out.keep rsigned_kept (HWA.out.mono hwr)).more rsigned_more hw3)).mono ?_
                  rintro e w5 ⟨rfl, r5, t5, hpre, hcase, hb5, hs5⟩
                  have HS5 := Lib.hid ((BS.of_below (b := w3.heap.size) (r := r) HWA.out).trans hs5)
                  have HB5 := Lib.hid hb5
                  have HPRE := Lib.hid hpre
                  have HCASE := Lib.hid hcase
                  have HBel5 := Lib.hid (HB.out.trans (HS5.out.below (n := w.heap.size) hw3 (fun j hj => by have := (HRW.out j hj).1; omega) hwr))
                  clear hb5 hs5 hpre hcase e0 e1
                  have htake : (zs.take (k + 1)).flatMap Np.zoneText = T ++ Np.zoneText z := by
                    obtain ⟨hl', he'⟩ := List.getElem?_eq_some_iff.1 HX.out
                    rw [List.take_succ_eq_append_getElem hl', he', List.flatMap_append, HT.out]; simp
                  have hall : (T ++ Np.zoneText z).length ≤ (zs.flatMap Np.zoneText).length := by
                    rw [← htake]
                    conv => rhs; rw [← List.take_append_drop (k + 1) zs]
                    rw [List.flatMap_append, List.length_append]; omega
                  have hall2 : (T ++ t5).length ≤ (T ++ Np.zoneText z).length := by
                    have : t5.length ≤ (Np.zoneText z).length := HPRE.out.length_le
                    rw [List.length_append, List.length_append]; omega
                  have HTK := Lib.hid htake
                  have HALL := Lib.hid (Nat.le_trans hall2 hall)
                  clear htake hall hall2
                  generalize hT5 : T ++ t5 = T5 at HB5
                  have HT5 := Lib.hid hT5
                  clear hT5
                  go_wp2_with (go_at_call 39; refine (len_any w3.heap.size w3.heap.size r5 T5 _ HB5.out).mono ?_; rintro e w' ⟨rfl, rfl⟩)
                  · have h8k : (8000 : Int) < (T5.length : Int) := by assumption
                    go_ret2
                    refine ⟨HRET.out ([], 2) [] 2 (print_2 HALL1.out HTW.out HALL3.out ?_), HBel5.out⟩
                    have := HALL.out
                    rw [HT5.out] at this
                    omega
                  · have h8k : (T5.length : Int) ≤ 8000 := by assumption
                    have hteq : T5 = T ++ Np.zoneText z := by
                      rw [← HT5.out]
                      rcases HCASE.out with h | h
                      · rw [h]
                      · rw [HT5.out] at h; omega
                    have HTE := Lib.hid hteq
                    clear hteq
                    go_roundw
                    case rel => exact ⟨k + 1, by omega, by go_num, HBel5, ⟨r5, Lib.hid (by rw [HTK.out, ← HTE.out]; exact HB5.out)⟩, by rw [HTK.out, ← HTE.out]; omega⟩
                    case measure => simp [intOf] <;> omega
                · have htot : T = zs.flatMap Np.zoneText := by rw [← HT.out, List.take_of_length_le (by omega)]
                  have HTOT := Lib.hid htot
                  clear htot
                  have HRd := Lib.hid HBl.out.read
                  go_wp2_with fail
                  refine (string_any w3.heap.size w3.heap.size T _ HRd.out).mono ?_
                  rintro e w5 ⟨rfl, hr5, hb5⟩
                  have HR5 := Lib.hid hr5
                  have HB5 := Lib.hid (HB.out.trans (hb5.mono hw3))
                  clear hr5 hb5
                  go_wp2_with fail
                  have hlx := lex_any ⟨T.toArray⟩ (show T.length ≤ 140737488355328 by omega) w5 (HE.out.keep HB5.out)
                  rw [show (⟨T.toArray⟩ : ByteArray).data.toList = T from rfl] at hlx
                  have HLX := Lib.hid hlx
                  clear hlx
                  refine HLX.out.mono ?_
                  generalize hq : Np.lex T = q
                  have HQ := Lib.hid hq
                  clear hq
                  obtain ⟨ts, er, pos⟩ := q
                  rintro e w6 ⟨v6, rfl, hx6, hb6⟩
                  obtain ⟨A6, c6, rfl, -, -, -⟩ := hx6
                  have HB6 := Lib.hid (HB5.out.trans (hb6.mono HB5.out.size))
                  have HR6 := Lib.hid (HR5.out.keep hb6)
                  clear hb6
                  simp only
                  by_cases her : er = 0
                  · have hne : (er != 0) = false := by simp [her]
                    have hpr : Np.print zs = (T, 0) := by
                      rw [HTOT.out]
                      exact Np.print_of HALL1.out HTW.out HALL3.out (by rw [← HTOT.out]; exact hlen) (by rw [← HTOT.out, HQ.out]; exact her)
                    have HPR := Lib.hid hpr
                    clear hpr her
                    go_wp2_with fail
                    refine (string_any w3.heap.size w3.heap.size T _ HR6.out).mono ?_
                    rintro e w7 ⟨rfl, hr7, hb7⟩
                    have HB7 := Lib.hid (HB6.out.trans (hb7.mono hw3))
                    clear hr7 hb7
                    go_wp2_with fail
                    go_ret2
                    exact ⟨HRET.out (T, 0) T 0 HPR.out, HB7.out⟩
                  · have hne : (er != 0) = true := by simpa using her
                    have hpr : Np.print zs = ([], 2) := print_2b HALL1.out HTW.out HALL3.out (by rw [← HTOT.out]; exact hlen) (by rw [← HTOT.out, HQ.out]; exact her)
                    have HPR := Lib.hid hpr
                    clear hpr her
                    go_wp2_with fail
                    go_ret2
                    exact ⟨HRET.out ([], 2) [] 2 HPR.out, HB6.out⟩
end Go.Proofs.YtnbolgdccdnjeaaGreatDoor
