/- The head of layer 5: few zones, the example, and what is printed of examples. -/
import Derived.Test.YtnbolgdccdnjeaaGreatDoorBB
namespace Go.Proofs.YtnbolgdccdnjeaaGreatDoor
open Go.RowKit
/-- What Few says of zones. -/
def GivesFew (zs : List Np.Zone) (w : World) (e : Ending) (w' : World) : Prop :=
  ∃ b : Bool, e = .returned (.bool b) ∧ w = w' ∧ (b = true → zs.length ≤ 10 ∧ ∀ z ∈ zs, z.sets.length ≤ 300 ∧ ∀ x ∈ z.sets, x.set.data.length ≤ 20)
def FewRel (zs : List Np.Zone) (i : Value) : Prop := ∃ k : Nat, k ≤ zs.length ∧ k ≤ 10 ∧ i = .int .i64 k ∧ Hid (∀ j z, j < k → zs[j]? = some z → z.sets.length ≤ 300 ∧ ∀ x ∈ z.sets, x.set.data.length ≤ 20)
def FewIn (l : List Np.Signed) (i : Value) : Prop := ∃ k : Nat, k ≤ l.length ∧ i = .int .i64 k ∧ Hid (∀ j x, j < k → l[j]? = some x → x.set.data.length ≤ 20)
set_option maxRecDepth 100000 in
set_option maxHeartbeats 2000000 in
theorem few_any (v : Value) (zs : List Np.Zone) (w : World) (hz : SlR RZone 2 w w.heap.size v zs) : Calls Tryz.prog 15 #[v] w (GivesFew zs w) := by
  have HZ := Lib.hid hz
  obtain ⟨A, c, rfl, hc1, hl1, -⟩ := hz
  go_enter Tryz.func15, Tryz.ntmps15
  go_wp2_with fail
  go_loop [3] (fun i => FewRel zs i) (fun i => zs.length - (intOf i).toNat)
  case atStart => exact ⟨0, Nat.zero_le _, by omega, rfl, Lib.hid (fun j z h => by omega)⟩
  case round =>
    obtain ⟨k, hk, hk10, rfl, HA⟩ := hrel
    by_cases hlt : k < zs.length ∧ k < 10
    · obtain ⟨hlt1, hlt2⟩ := hlt
      have hlt3 : (k : Int) < 10 := by omega
      have hget := List.getElem?_eq_getElem hlt1
      obtain ⟨b, o, c', sn, sv, hA, hbB, _, hsn, hsz, hsv, e0, e1⟩ := zone_at HZ.out hget
      cases hA
      generalize hx : zs[k] = z at *
      clear hx
      obtain ⟨As, cs, rfl, hcs, hls⟩ := slr_form hsv
      have HX := Lib.hid hget
      have HSV := Lib.hid hsv
      clear hget hsn hsv e0
      by_cases h300 : z.sets.length ≤ 300
      · have h3 : (z.sets.length : Int) ≤ 300 := by omega
        go_wp2_with fail
        go_loop [4] (fun i => FewIn z.sets i) (fun i => z.sets.length - (intOf i).toNat)
        case atStart => exact ⟨0, Nat.zero_le _, rfl, Lib.hid (fun j x h => by omega)⟩
        case round =>
          obtain ⟨i, hi, rfl, HAi⟩ := hrel
          by_cases hlti : i < z.sets.length
          · have hgeti := List.getElem?_eq_getElem hlti
            obtain ⟨b2, o2, c2', sn2, dv2, sv2, hA2, hbB2, _, hsn2, hsz2, hdv2, _, _, _, _, f3, _⟩ := signed_at HSV.out hgeti
            cases hA2
            generalize hx2 : z.sets[i] = x at *
            clear hx2
            obtain ⟨Ad, cd, rfl, hcd, hld⟩ := slr_form hdv2
            have HXi := Lib.hid hgeti
            clear hgeti hsn2 hdv2
            by_cases h20 : x.set.data.length ≤ 20
            · have h2 : (x.set.data.length : Int) ≤ 20 := by omega
              go_wp2_with fail
              go_round
              case rel =>
                refine ⟨i + 1, by omega, by go_num, Lib.hid (fun j y hj hy => ?_)⟩
                by_cases e : j = i
                · subst e; rw [HXi.out] at hy; cases hy; exact h20
                · exact HAi.out j y (by omega) hy
              case measure => simp [intOf] <;> omega
            · have h2 : (20 : Int) < (x.set.data.length : Int) := by omega
              go_wp2_with fail
              go_ret
              exact ⟨false, rfl, rfl, fun h => by cases h⟩
          · go_wp2_with fail
            go_round
            case rel =>
              refine ⟨k + 1, by omega, by omega, by go_num, Lib.hid (fun j y hj hy => ?_)⟩
              by_cases e : j = k
              · subst e; rw [HX.out] at hy; cases hy
                refine ⟨h300, fun x hx => ?_⟩
                obtain ⟨m, hm, rfl⟩ := List.mem_iff_getElem.1 hx
                exact HAi.out m _ (by omega) (List.getElem?_eq_getElem hm)
              · exact HA.out j y (by omega) hy
            case measure => simp [intOf] <;> omega
      · have h3 : (300 : Int) < (z.sets.length : Int) := by omega
        go_wp2_with fail
        go_ret
        exact ⟨false, rfl, rfl, fun h => by cases h⟩
    · have HL := Lib.hid hlt
      clear hlt
      by_cases h1 : k < zs.length
      · have h10 : (10 : Int) ≤ (k : Int) := by have := HL.out; omega
        have h11 : (10 : Int) < (zs.length : Int) := by omega
        go_wp2_with fail
        go_ret
        exact ⟨false, by simp; omega, rfl, fun h => by cases h⟩
      · have h11 : (zs.length : Int) ≤ 10 := by omega
        go_wp2_with fail
        go_ret
        refine ⟨true, by simp, rfl, fun _ => ⟨by omega, fun z hz => ?_⟩⟩
        obtain ⟨m, hm, rfl⟩ := List.mem_iff_getElem.1 hz
        exact HA.out m _ (by omega) (List.getElem?_eq_getElem hm)
/-! The example. -/
theorem cellsAt_new (w : World) (cs : Array Value) (t : TypeId) : CellsAt (w.alloc (.cells cs t)) w.heap.size 0 cs.toList := fun j v hj => by
  rw [Nat.zero_add]
  have := World.cell?_alloc_new w cs t j
  rw [this]; simpa using hj
/-- A block of cells, read as a slice. -/
theorem slr_block {α : Type} {R : World → Nat → List Value → α → Prop} {sz : Nat} {w : World} {B g cap : Nat} {cs : List Value} {xs : List α} (hc : CellsAt w g 0 cs) (hg : g < B) (hcap : xs.length ≤ cap) (hl : xs.length ≤ 140737488355328)
    (hx : ∀ i x, xs[i]? = some x → ∃ e, e.length = sz ∧ (cs.drop (i * sz)).take sz = e ∧ R w B e x) : SlR R sz w B (.slice (some ⟨g, 0, none⟩) xs.length cap) xs := by
  refine ⟨_, cap, rfl, hcap, hl, fun i x h => ?_⟩
  obtain ⟨e, h1, h2, h3⟩ := hx i x h
  refine ⟨g, 0, e, rfl, hg, h1, fun j v hj => ?_, h3⟩
  have : cs[i * sz + j]? = some v := by
    rw [← h2, List.getElem?_take] at hj
    split at hj
    · rw [List.getElem?_drop] at hj; exact hj
    · cases hj
  have := hc (i * sz + j) v this
  rw [Nat.zero_add] at this ⊢
  exact this
def exZones : List Np.Zone := [⟨[120], [⟨⟨[120], 2, 300, [⟨[97, 46, 110, 115], 0, 0⟩, ⟨[98, 46, 110, 115], 0, 0⟩]⟩, []⟩, ⟨⟨[119, 46, 120], 1, 5, [⟨[], 7, 0⟩]⟩, []⟩]⟩]
def exText : List UInt8 := [122, 111, 110, 101, 32, 120, 32, 123, 10, 32, 32, 64, 32, 115, 101, 114, 118, 101, 114, 32, 97, 46, 110, 115, 44, 32, 98, 46, 110, 115, 59, 10, 32, 32, 119, 46, 120, 32, 97, 100, 100, 114, 32, 108, 105, 102, 101, 32, 53, 32, 55, 59, 10, 125, 10]
theorem ex_print : Np.print exZones = (exText, 0) := by rw [Np.print_ref]; decide +kernel
theorem nil_print : Np.print [] = ([], 0) := by rw [Np.print_ref]; decide +kernel
theorem seven_print : Np.print [⟨[55], []⟩] = ([], 12) := by rw [Np.print_ref]; decide +kernel
theorem two_print : Np.print [⟨[120], []⟩, ⟨[120], []⟩] = ([], 5) := by rw [Np.print_ref]; decide +kernel
theorem star_print : Np.print [⟨[42], []⟩] = ([], 1) := by rw [Np.print_ref]; decide +kernel
theorem six_worlds (w : World) (c1 c2 c3 c4 c5 c6 : Array Value) (t1 t2 t3 t4 t5 t6 : TypeId) (W : World) (hW : W = (((((w.alloc (.cells c1 t1)).alloc (.cells c2 t2)).alloc (.cells c3 t3)).alloc (.cells c4 t4)).alloc (.cells c5 t5)).alloc (.cells c6 t6)) :
    CellsAt W w.heap.size 0 c1.toList ∧ CellsAt W (w.heap.size + 1 + 1) 0 c3.toList ∧ CellsAt W (w.heap.size + 1 + 1 + 1 + 1) 0 c5.toList ∧ CellsAt W (w.heap.size + 1 + 1 + 1 + 1 + 1) 0 c6.toList ∧ W.heap.size = w.heap.size + 1 + 1 + 1 + 1 + 1 + 1 ∧ Below w.heap.size w W := by
  have al : ∀ (u : World) (o : Obj) (n : Nat), n ≤ u.heap.size → Below n u (u.alloc o) := fun u o n h => (Below.refl _ _).alloc h _
  obtain ⟨W1, h1⟩ : ∃ W1, W1 = w.alloc (.cells c1 t1) := ⟨_, rfl⟩
  obtain ⟨W2, h2⟩ : ∃ W2, W2 = W1.alloc (.cells c2 t2) := ⟨_, rfl⟩
  obtain ⟨W3, h3⟩ : ∃ W3, W3 = W2.alloc (.cells c3 t3) := ⟨_, rfl⟩
  obtain ⟨W4, h4⟩ : ∃ W4, W4 = W3.alloc (.cells c4 t4) := ⟨_, rfl⟩
  obtain ⟨W5, h5⟩ : ∃ W5, W5 = W4.alloc (.cells c5 t5) := ⟨_, rfl⟩
  rw [← h1, ← h2, ← h3, ← h4, ← h5] at hW
  have s1 : W1.heap.size = w.heap.size + 1 := by rw [h1]; simp
  have s2 : W2.heap.size = w.heap.size + 1 + 1 := by rw [h2, World.size_alloc, s1]
  have s3 : W3.heap.size = w.heap.size + 1 + 1 + 1 := by rw [h3, World.size_alloc, s2]
  have s4 : W4.heap.size = w.heap.size + 1 + 1 + 1 + 1 := by rw [h4, World.size_alloc, s3]
  have s5 : W5.heap.size = w.heap.size + 1 + 1 + 1 + 1 + 1 := by rw [h5, World.size_alloc, s4]
  have s6 : W.heap.size = w.heap.size + 1 + 1 + 1 + 1 + 1 + 1 := by rw [hW, World.size_alloc, s5]
  have b1 : ∀ n, n ≤ w.heap.size → Below n w W1 := fun n h => by rw [h1]; exact al _ _ _ h
  have b2 : ∀ n, n ≤ W1.heap.size → Below n W1 W2 := fun n h => by rw [h2]; exact al _ _ _ h
  have b3 : ∀ n, n ≤ W2.heap.size → Below n W2 W3 := fun n h => by rw [h3]; exact al _ _ _ h
  have b4 : ∀ n, n ≤ W3.heap.size → Below n W3 W4 := fun n h => by rw [h4]; exact al _ _ _ h
  have b5 : ∀ n, n ≤ W4.heap.size → Below n W4 W5 := fun n h => by rw [h5]; exact al _ _ _ h
  have b6 : ∀ n, n ≤ W5.heap.size → Below n W5 W := fun n h => by rw [hW]; exact al _ _ _ h
  have k1 : CellsAt W1 w.heap.size 0 c1.toList := by rw [h1]; exact cellsAt_new _ _ _
  have k3 : CellsAt W3 (w.heap.size + 1 + 1) 0 c3.toList := by rw [h3, ← s2]; exact cellsAt_new _ _ _
  have k5 : CellsAt W5 (w.heap.size + 1 + 1 + 1 + 1) 0 c5.toList := by rw [h5, ← s4]; exact cellsAt_new _ _ _
  have k6 : CellsAt W (w.heap.size + 1 + 1 + 1 + 1 + 1) 0 c6.toList := by rw [hW, ← s5]; exact cellsAt_new _ _ _
  refine ⟨k1.keep (B := w.heap.size + 1) (((((b2 _ (by omega)).trans (b3 _ (by omega))).trans (b4 _ (by omega))).trans (b5 _ (by omega))).trans (b6 _ (by omega))) (by omega),
    k3.keep (B := w.heap.size + 1 + 1 + 1) (((b4 _ (by omega)).trans (b5 _ (by omega))).trans (b6 _ (by omega))) (by omega),
    k5.keep (B := w.heap.size + 1 + 1 + 1 + 1 + 1) (b6 _ (by omega)) (by omega), k6, s6, (((((b1 _ (by omega)).trans (b2 _ (by omega))).trans (b3 _ (by omega))).trans (b4 _ (by omega))).trans (b5 _ (by omega))).trans (b6 _ (by omega))⟩
theorem rdatum_mk (w : World) (B : Nat) (d : Np.Datum) (h : d.text.length ≤ 1000) : RDatum w B [strs d.text, .int .i64 d.n, .int .i64 d.m] d := ⟨⟨d.text.toArray⟩, rfl, show d.text.length ≤ 140737488355328 by omega, rfl⟩
set_option maxRecDepth 100000 in
set_option maxHeartbeats 2000000 in
theorem example_any (w : World) : Calls Tryz.prog 35 #[] w (GivesR RZone 2 w exZones) := by
  go_enter Tryz.func35, Tryz.ntmps35
  go_wp2_with fail
  go_ret
  obtain ⟨k1, k3, k5, k6, hs, hb⟩ := six_worlds w _ _ _ _ _ _ _ _ _ _ _ _ _ rfl
  refine ⟨_, rfl, ?_, hb⟩
  generalize hW : (World.alloc (World.alloc (World.alloc (World.alloc (World.alloc (World.alloc w _) _) _) _) _) _) = W at k1 k3 k5 k6 hs hb ⊢
  clear hW
  have d1 : SlR RDatum 3 W W.heap.size (.slice (some ⟨w.heap.size, 0, none⟩) 2 2) [⟨[97, 46, 110, 115], 0, 0⟩, ⟨[98, 46, 110, 115], 0, 0⟩] :=
    slr_block (α := Np.Datum) (xs := [⟨[97, 46, 110, 115], 0, 0⟩, ⟨[98, 46, 110, 115], 0, 0⟩]) k1 (by omega) (by simp) (by simp) (fun i x hx => by
      match i, hx with
      | 0, hx => simp at hx; subst hx; exact ⟨_, rfl, rfl, rdatum_mk _ _ _ (by simp)⟩
      | 1, hx => simp at hx; subst hx; exact ⟨_, rfl, rfl, rdatum_mk _ _ _ (by simp)⟩
      | i + 2, hx => simp at hx)
  have d2 : SlR RDatum 3 W W.heap.size (.slice (some ⟨w.heap.size + 1 + 1, 0, none⟩) 1 1) [⟨[], 7, 0⟩] :=
    slr_block (α := Np.Datum) (xs := [⟨[], 7, 0⟩]) k3 (by omega) (by simp) (by simp) (fun i x hx => by
      match i, hx with
      | 0, hx => simp at hx; subst hx; exact ⟨_, rfl, rfl, rdatum_mk _ _ _ (by simp)⟩
      | i + 1, hx => simp at hx)
  have d3 : SlR RSigned 5 W W.heap.size (.slice (some ⟨w.heap.size + 1 + 1 + 1 + 1, 0, none⟩) 2 2) [⟨⟨[120], 2, 300, [⟨[97, 46, 110, 115], 0, 0⟩, ⟨[98, 46, 110, 115], 0, 0⟩]⟩, []⟩, ⟨⟨[119, 46, 120], 1, 5, [⟨[], 7, 0⟩]⟩, []⟩] :=
    slr_block (α := Np.Signed) (xs := [⟨⟨[120], 2, 300, [⟨[97, 46, 110, 115], 0, 0⟩, ⟨[98, 46, 110, 115], 0, 0⟩]⟩, []⟩, ⟨⟨[119, 46, 120], 1, 5, [⟨[], 7, 0⟩]⟩, []⟩]) k5 (by omega) (by simp) (by simp) (fun i x hx => by
      match i, hx with
      | 0, hx => simp at hx; subst hx; exact ⟨_, rfl, rfl, ⟨#[120]⟩, _, _, rfl, by decide, d1, slr_none _ _, rfl⟩
      | 1, hx => simp at hx; subst hx; exact ⟨_, rfl, rfl, ⟨#[119, 46, 120]⟩, _, _, rfl, by decide, d2, slr_none _ _, rfl⟩
      | i + 2, hx => simp at hx)
  exact slr_block (xs := exZones) k6 (by omega) (by simp [exZones]) (by simp [exZones]) (fun i x hx => by
    match i, hx with
    | 0, hx => simp [exZones] at hx; subst hx; exact ⟨_, rfl, rfl, ⟨#[120]⟩, _, rfl, by decide, d3, rfl⟩
    | i + 1, hx => simp [exZones] at hx)
/-- Zones without sets. -/
theorem zones1 (w : World) (x : List UInt8) (hx : x.length ≤ 100) : SlR RZone 2 (w.alloc (.cells #[strs x, .slice none 0 0] 32)) (w.alloc (.cells #[strs x, .slice none 0 0] 32)).heap.size (.slice (some ⟨w.heap.size, 0, none⟩) 1 1) [⟨x, []⟩] :=
  slr_block (xs := [(⟨x, []⟩ : Np.Zone)]) (cellsAt_new w #[strs x, .slice none 0 0] 32) (by simp) (by simp) (by simp) (fun i z hz => by
    match i, hz with
    | 0, hz => simp at hz; subst hz; exact ⟨_, rfl, rfl, ⟨x.toArray⟩, _, rfl, show x.length ≤ 140737488355328 by omega, slr_none _ _, rfl⟩
    | i + 1, hz => simp at hz)
theorem zones2 (w : World) (x y : List UInt8) (hx : x.length ≤ 100) (hy : y.length ≤ 100) : SlR RZone 2 (w.alloc (.cells #[strs x, .slice none 0 0, strs y, .slice none 0 0] 32)) (w.alloc (.cells #[strs x, .slice none 0 0, strs y, .slice none 0 0] 32)).heap.size (.slice (some ⟨w.heap.size, 0, none⟩) 2 2) [⟨x, []⟩, ⟨y, []⟩] :=
  slr_block (xs := [(⟨x, []⟩ : Np.Zone), ⟨y, []⟩]) (cellsAt_new w #[strs x, .slice none 0 0, strs y, .slice none 0 0] 32) (by simp) (by simp) (by simp) (fun i z hz => by
    match i, hz with
    | 0, hz => simp at hz; subst hz; exact ⟨_, rfl, rfl, ⟨x.toArray⟩, _, rfl, show x.length ≤ 140737488355328 by omega, slr_none _ _, rfl⟩
    | 1, hz => simp at hz; subst hz; exact ⟨_, rfl, rfl, ⟨y.toArray⟩, _, rfl, show y.length ≤ 140737488355328 by omega, slr_none _ _, rfl⟩
    | i + 2, hz => simp at hz)
/-- What the printer asks of memory. -/
structure PrintIn (w : World) : Prop where
  rules : RulesIn w w.heap.size
  err : ErrIn w
  pow : PowIn w
  words : WordsIn w w.heap.size
theorem PrintIn.keep {w w' : World} (h : PrintIn w) (hb : Below w.heap.size w w') : PrintIn w' := ⟨(h.rules.keep hb).more hb.size, h.err.keep hb, h.pow.keep hb, (h.words.keep hb).more hb.size⟩
theorem print_at (v : Value) (zs : List Np.Zone) (w : World) (hI : PrintIn w) (hz : SlR RZone 2 w w.heap.size v zs) {x : List UInt8} {n : Int} (h : Np.print zs = (x, n)) :
    Calls Tryz.prog 16 #[v] w fun e w' => e = .returned (.tuple #[strs x, .int .i64 n]) ∧ Below w.heap.size w w' := by
  have := print_any v zs w hI.rules hI.err hI.pow hI.words hz
  rw [h] at this
  exact this
set_option maxRecDepth 100000 in
set_option maxHeartbeats 2000000 in
theorem head05_any (w : World) (hI : PrintIn w) : Calls Tryz.prog 14 #[] w fun e w' => e = .returned (.bool true) ∧ Below w.heap.size w w' := by
  have HI := Lib.hid hI
  clear hI
  go_enter Tryz.func14, Tryz.ntmps14
  go_wp2_with fail
  refine (example_any _).mono ?_
  rintro e w1 ⟨v1, rfl, hx1, hb1⟩
  have HX1 := Lib.hid hx1
  have HB1 := Lib.hid hb1
  clear hx1 hb1
  go_wp2_with fail
  refine (print_at v1 exZones _ (HI.out.keep HB1.out) HX1.out ex_print).mono ?_
  rintro e w2 ⟨rfl, hb2⟩
  have HB2 := Lib.hid (HB1.out.trans (hb2.mono HB1.out.size))
  clear hb2
  go_wp2_with fail
  refine (print_at _ [] _ (HI.out.keep HB2.out) (slr_none _ _) nil_print).mono ?_
  rintro e w3 ⟨rfl, hb3⟩
  have HB3 := Lib.hid (HB2.out.trans (hb3.mono HB2.out.size))
  clear hb3
  have al : ∀ (u : World) (o : Obj), Below u.heap.size u (u.alloc o) := fun u o => (Below.refl _ _).alloc (Nat.le_refl _) _
  have AL := Lib.hid al
  clear al
  go_wp2_with fail
  refine (print_at _ [⟨[55], []⟩] _ ((HI.out.keep HB3.out).keep (AL.out _ _)) (zones1 w3 [55] (by simp)) seven_print).mono ?_
  rintro e w4 ⟨rfl, hb4⟩
  have HB4 := Lib.hid (HB3.out.trans (((AL.out _ _).trans (hb4.mono (by simp))).mono HB3.out.size))
  clear hb4
  go_wp2_with fail
  refine (print_at _ [⟨[120], []⟩, ⟨[120], []⟩] _ ((HI.out.keep HB4.out).keep (AL.out _ _)) (zones2 w4 [120] [120] (by simp) (by simp)) two_print).mono ?_
  rintro e w5 ⟨rfl, hb5⟩
  have HB5 := Lib.hid (HB4.out.trans (((AL.out _ _).trans (hb5.mono (by simp))).mono HB4.out.size))
  clear hb5
  go_wp2_with fail
  refine (print_at _ [⟨[42], []⟩] _ ((HI.out.keep HB5.out).keep (AL.out _ _)) (zones1 w5 [42] (by simp)) star_print).mono ?_
  rintro e w6 ⟨rfl, hb6⟩
  have HB6 := Lib.hid (HB5.out.trans (((AL.out _ _).trans (hb6.mono (by simp))).mono HB5.out.size))
  clear hb6
  have hex : (exText == [122, 111, 110, 101, 32, 120, 32, 123, 10, 32, 32, 64, 32, 115, 101, 114, 118, 101, 114, 32, 97, 46, 110, 115, 44, 32, 98, 46, 110, 115, 59, 10, 32, 32, 119, 46, 120, 32, 97, 100, 100, 114, 32, 108, 105, 102, 101, 32, 53, 32, 55, 59, 10, 125, 10]) = true := by decide
  go_wp2_with fail
  go_ret
  exact ⟨rfl, HB6.out⟩
end Go.Proofs.YtnbolgdccdnjeaaGreatDoor
