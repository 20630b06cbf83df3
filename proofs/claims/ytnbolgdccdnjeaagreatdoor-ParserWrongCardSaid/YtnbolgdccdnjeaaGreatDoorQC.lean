/- Joined by program from: ParSort, Par10, Par13. No condition. -/
import Derived.Test.YtnbolgdccdnjeaaGreatDoorShelf6
import Derived.Test.YtnbolgdccdnjeaaGreatDoorSA
import Derived.Test.YtnbolgdccdnjeaaGreatDoorDB
import Derived.Test.YtnbolgdccdnjeaaGreatDoorPB
import Derived.Test.YtnbolgdccdnjeaaGreatDoorQA
/- slices.SortFunc on rows of the call's own. No condition. -/
namespace Go.Proofs.YtnbolgdccdnjeaaGreatDoor
open Go.RowKit Go.Sort
section
variable {α : Type} [Inhabited α]
theorem flatK_list (enc : α → List Value) (k : Nat) (hk : ∀ x, (enc x).length = k) (h0 : 0 < k) (xs : List α) : (flatK enc k xs.toArray).toList = (xs.map enc).flatten := by
  have hlen : (xs.map enc).flatten.length = xs.length * k := by
    clear h0
    induction xs with
    | nil => simp
    | cons y ys ih => rw [List.map_cons, List.flatten_cons, List.length_append, ih, hk, List.length_cons, Nat.succ_mul]; omega
  apply List.ext_getElem?
  intro t
  by_cases ht : t < xs.length * k
  · have h1 : t / k < xs.length := (Nat.div_lt_iff_lt_mul h0).2 ht
    have h2 : t % k < k := Nat.mod_lt _ h0
    have hr : (xs.map enc)[t / k]? = some (enc xs[t / k]) := by simp [h1]
    have hu : (enc xs[t / k])[t % k]? = some ((enc xs[t / k])[t % k]'(by rw [hk]; exact h2)) := List.getElem?_eq_getElem _
    have h3 := flatten_at (xs.map enc) (t / k) (t % k) _ _ (by intro r hr; obtain ⟨x, _, rfl⟩ := List.mem_map.1 hr; exact hk x) hr hu
    rw [show t / k * k + t % k = t by rw [Nat.mul_comm]; exact Nat.div_add_mod t k] at h3
    rw [h3]
    have hs : t < (flatK enc k xs.toArray).size := by simpa using ht
    rw [Array.getElem?_toList, Array.getElem?_eq_getElem hs]
    congr 1
    have h4 := get_flatK enc k xs.toArray t (by simpa using ht)
    rw [getElem!_pos (flatK enc k xs.toArray) t hs] at h4
    rw [h4]
    rw [getElem!_pos xs.toArray (t / k) (by simpa using h1)]
    rw [getElem!_pos _ (t % k) (by rw [hk]; exact h2)]
    simp
  · rw [List.getElem?_eq_none (by simp; omega), List.getElem?_eq_none (by rw [hlen]; omega)]
theorem holdsK_own (enc : α → List Value) (k : Nat) (hk : ∀ x, (enc x).length = k) (h0 : 0 < k) {w : World} {g : Nat} {cur : Array Value} {e : TypeId} {xs : List α} (hb : w.heap[g]? = some (.cells cur e (0, 0))) (ht : cur.toList.take (xs.length * k) = (xs.map enc).flatten) : HoldsK enc k w g 0 xs.toArray := by
  intro j hj
  have hj' : j < xs.length * k := by simpa using hj
  refine ⟨?_, by simp [World.frozen?, hb]⟩
  have h1 : (cur.toList.take (xs.length * k))[j]? = (flatK enc k xs.toArray).toList[j]? := by rw [ht, flatK_list enc k hk h0]
  rw [List.getElem?_take_of_lt hj'] at h1
  simp only [World.cell?, hb, Nat.zero_add, Option.isSome_none, Bool.false_eq_true, if_false]
  rw [← Array.getElem?_toList, h1]
  have hs : j < (flatK enc k xs.toArray).size := by simpa using hj'
  rw [Array.getElem?_toList, Array.getElem?_eq_getElem hs, getElem!_pos _ j hs]
  rfl
theorem heap_sortedK (enc : α → List Value) (k : Nat) {w : World} {g n : Nat} {os : Array Obj} {cur : Array Value} {e : TypeId} {fr : Nat × Nat} (d : Array α) (hb : w.heap[g]? = some (.cells cur e fr)) :
    (sortWorldK enc k w g 0 n d os).heap[g]? = some (.cells (putCells id 0 (flatK enc k d) cur) e fr) := by
  have hl : g < w.heap.size := (Array.getElem?_eq_some_iff.1 hb).1
  unfold sortWorldK putRowK
  rw [heap_grow_old _ _ (by simpa [putRow, mapBlock, Sort.ahead] using hl)]
  simp [putRow, mapBlock, Sort.ahead, Array.getElem?_modify, hb, onCells]
theorem grownBy_sortedK (enc : α → List Value) (k : Nat) {w : World} {g n : Nat} {os : Array Obj} (d : Array α) : w.grownBy (sortWorldK enc k w g 0 n d os) (some g) := by
  unfold sortWorldK putRowK
  refine ⟨rfl, rfl, rfl, by simp, fun q hq hne => ?_⟩
  rw [heap_grow_old _ _ (by simpa using hq)]
  have : g ≠ q := fun e => hne (by rw [e])
  simp [putRow, mapBlock, Sort.ahead, Array.getElem?_modify, this]
theorem ownsRow_sortedK (enc : α → List Value) (k : Nat) (hk : ∀ x, (enc x).length = k) (h0 : 0 < k) {w : World} {base g cap n : Nat} {e : TypeId} {os : Array Obj} {cur : Array Value} {xs ys : List α} (hl : ys.length = xs.length) (hbase : base ≤ g) (hb : w.heap[g]? = some (.cells cur e (0, 0)))
    (h1 : xs.length ≤ cap) (h2 : cap ≤ maxLen) (h3 : cur.size = cap * k) :
    (sortWorldK enc k w g 0 n ys.toArray os).ownsRow base e k (.slice (some ⟨g, 0, none⟩) xs.length cap) xs.length (ys.map enc).flatten := by
  have hfl : (ys.map enc).flatten.length = ys.length * k := by
    rw [← flatK_list enc k hk h0 ys]; simp
  have hle : ys.length * k ≤ cur.size := by rw [h3]; exact Nat.mul_le_mul_right k (by omega)
  refine ⟨by rw [hfl, hl], .inr ⟨g, cap, _, rfl, hbase, heap_sortedK enc k _ hb, h1, h2, by simp [putCells, h3], ?_⟩⟩
  rw [← hl]
  apply List.ext_getElem?
  intro j
  by_cases hj : j < ys.length * k
  · rw [List.getElem?_take_of_lt hj, Array.getElem?_toList, ← flatK_list enc k hk h0 ys]
    have hs : j < (flatK enc k ys.toArray).size := by simpa using hj
    rw [Array.getElem?_toList, Array.getElem?_eq_getElem hs]
    have hj2 : j < cur.size := by omega
    simp [putCells, hj, hj2]
  · rw [List.getElem?_take_eq_none (by omega), List.getElem?_eq_none (by rw [hfl]; omega)]
end
/-- What grows without taking a draw back. -/
theorem grow_of_below {W w' : World} (h : D.Below W.heap.size W w') : ∃ q os, w' = grow (W.drewN q) os := by
  refine ⟨w'.drawn - W.drawn, w'.heap.extract W.heap.size w'.heap.size, ?_⟩
  have hh : w'.heap = W.heap ++ w'.heap.extract W.heap.size w'.heap.size := by
    apply Array.ext_getElem?
    intro j
    rcases Nat.lt_or_ge j W.heap.size with h1 | h1
    · rw [Array.getElem?_append_left h1]; exact h.block j h1
    · rw [Array.getElem?_append_right h1, Array.getElem?_extract]
      split
      · congr 1; omega
      · rw [Array.getElem?_eq_none (by omega)]
  have hd : w'.drawn = W.drawn + (w'.drawn - W.drawn) := by have := h.drawn; omega
  have h1 := h.os
  have h2 := h.tape
  have h3 := h.output
  cases w'
  cases W
  simp only [grow, World.drewN, World.mk.injEq] at *
  exact ⟨hh, h2, hd, h1, h3⟩
end Go.Proofs.YtnbolgdccdnjeaaGreatDoor
/- The parser's sorts: contracts. -/
namespace Go.Proofs.YtnbolgdccdnjeaaGreatDoor
open Go.RowKit Go.Sort
instance : Inhabited Np.Datum := ⟨⟨[], 0, 0⟩⟩
theorem swo_of {α : Type} {c : α → α → Int} (h : Np.TO c) : SWO (ltOf c) where
  irrefl x := by unfold ltOf; rw [h.self]; rfl
  trans x y z h1 h2 := by
    unfold ltOf at *
    simp only [decide_eq_true_eq] at *
    exact h.trans _ _ _ h1 h2
  ntrans x y z h1 h2 := by
    unfold ltOf at *
    simp only [decide_eq_false_iff_not] at *
    intro h3
    rcases Int.lt_trichotomy (c x y) 0 with h4 | h4 | h4
    · exact h1 h4
    · have := h.zero _ _ h4; subst this; exact h2 h3
    · have := h.trans _ _ _ (h.anti' _ _ h4) h3
      exact h2 this
theorem to_tie {α : Type} {c : α → α → Int} (h : Np.TO c) (x y : α) (h1 : ltOf c x y = false) (h2 : ltOf c y x = false) : x = y := by
  unfold ltOf at *
  simp only [decide_eq_false_iff_not] at *
  rcases Int.lt_trichotomy (c x y) 0 with h4 | h4 | h4
  · exact absurd h4 h1
  · exact h.zero _ _ h4
  · exact absurd (h.anti' _ _ h4) h2
def encD (d : Np.Datum) : List Value := [.string (bytesOf d.text), .int .i64 d.n, .int .i64 d.m]
set_option maxRecDepth 100000 in
set_option maxHeartbeats 1000000 in
theorem D.entryCmp_any (s t : ByteArray) (n1 m1 n2 m2 : Int) (w : World) :
    Calls Tryz.prog 171 #[.agg #[.string s, .int .i64 n1, .int .i64 m1], .agg #[.string t, .int .i64 n2, .int .i64 m2]] w
      fun e w' => e = .returned (.int .i64 (Np.cmpD ⟨s.data.toList, n1, m1⟩ ⟨t.data.toList, n2, m2⟩)) ∧ D.Below w.heap.size w w' := by
  rw [D.cmpD_eq]
  go_enter Tryz.func171, Tryz.ntmps171
  go_wp2
  refine wp_region_tail 15 (by kernel_rfl) (by kernel_rfl) ?_
  simp only [List.take_succ_cons, List.take_zero, List.drop_succ_cons, List.drop_zero]
  iterate 4 still_step
  still_call (Calls.still_same (cmpS_any _ _ _))
  iterate 4 still_step
  still_call (Calls.still_same (cmpI_any _ _ _))
  iterate 4 still_step
  still_call (Calls.still_same (cmpI_any _ _ _))
  refine wpStill_nil ?_
  go_wp2_with fail
  refine (D.cmpOr_any (w.heap.size + 1 + 1) 3 [Np.cmpS s.data.toList t.data.toList, Np.cmpI n1 n2, Np.cmpI m1 m2] (by simp) _ ?_).mono ?_
  · intro i x hx
    match i, hx with
    | 0, hx => simp at hx; subst hx; go_simp
    | 1, hx => simp at hx; subst hx; go_simp
    | 2, hx => simp at hx; subst hx; go_simp
    | i + 3, hx => simp at hx
  · rintro e w' ⟨rfl, rfl⟩
    go_wp2_with fail
    go_ret
    exact ⟨rfl, ((((D.Below.refl _ w).alloc (Nat.le_refl _) _).alloc (by simp) _).alloc (by simp; omega) _).drew⟩
theorem sortDat_any (base : Nat) (v : Value) (xs : List Np.Datum) (w : World) (hown : w.ownsRow base 43 3 v xs.length ((xs.map encD).flatten)) (hne : xs ≠ []) (hl : xs.length ≤ 1000) :
    Calls Tryz.prog 170 #[v, .func (.func 171) #[] #[]] w fun e w' => e = .returned (.tuple #[]) ∧ w'.ownsRow base 43 3 v xs.length (((Np.sortD xs).map encD).flatten) ∧ w.grownBy w' v.ownBlock := by
  rcases hown.2 with ⟨_, h0⟩ | ⟨g, cap, cur, rfl, hbase, hb, h1, h2, h3, h4⟩
  · exact absurd (List.eq_nil_of_length_eq_zero h0) hne
  have eg : ∀ args w, (callFunc 171 args).run Tryz.prog w = .ok (.enter 171 args) w := fun args w => by simp [go_sem]
  have aE : ∀ w, (isAgg 43).run Tryz.prog w = .ok true w := fun w => by kernel_rfl
  have zE : ∀ w, (Go.sizeOf 43).run Tryz.prog w = .ok 3 w := fun w => by kernel_rfl
  have hH := holdsK_own encD 3 (fun _ => rfl) (by omega) hb h4
  have hcmp : CmpLays Tryz.prog 171 #[] encD 3 Np.cmpD g 0 xs.toArray.size w := fun m os dk _ x y => by
    refine (D.entryCmp_any (bytesOf x.text) (bytesOf y.text) x.n x.m y.n y.m _).mono fun e w' ⟨he, hw⟩ => ⟨?_, grow_of_below hw⟩
    rw [he]
    simp [bytesOf]
  have hct := AnyQ.slices_SortFunc_total Tryz.sortDat 3 aE zE encD (fun _ => rfl) (fun x u hu => by simp only [encD, List.mem_cons, List.not_mem_nil, or_false] at hu; rcases hu with rfl | rfl | rfl <;> rfl) Np.cmpD (swo_of Np.toD) 171 #[] g 0 cap xs.toArray w eg hcmp hH (Array.getElem?_eq_some_iff.1 hb).1 (by simp; omega) (to_tie Np.toD)
  refine hct.mono fun e w' ⟨he, n, os, hw⟩ => ⟨he, ?_, ?_⟩
  · subst hw
    exact ownsRow_sortedK encD 3 (fun _ => rfl) (by omega) (Np.sortD_perm xs).length_eq hbase hb h1 h2 h3
  · subst hw
    exact grownBy_sortedK encD 3 _
end Go.Proofs.YtnbolgdccdnjeaaGreatDoor
/- The order of a zone's sets: the comparator's contract, the sort's. -/
namespace Go.Proofs.YtnbolgdccdnjeaaGreatDoor
open Go.RowKit Go.Sort
set_option maxRecDepth 100000 in
set_option maxHeartbeats 1000000 in
theorem D.bodyCmp_any (s1 s2 : ByteArray) (hs1 : s1.size ≤ 140737488355328) (hs2 : s2.size ≤ 140737488355328) (t1 l1 t2 l2 : Int) (v1 v2 : Value) (A1 A2 : Option Addr) (n1 n2 c1 c2 : Nat) (d1 d2 : List Np.Datum) (w : World) (hR : RulesIn w w.heap.size) (hd1 : SlR RDatum 3 w w.heap.size v1 d1) (hd2 : SlR RDatum 3 w w.heap.size v2 d2)
    (hv1 : Np.validSet ⟨s1.data.toList, t1, l1, d1⟩ = true) (hv2 : Np.validSet ⟨s2.data.toList, t2, l2, d2⟩ = true) :
    Calls Tryz.prog 142 #[.agg #[.string s1, .int .i64 t1, .int .i64 l1, v1, .slice A1 n1 c1], .agg #[.string s2, .int .i64 t2, .int .i64 l2, v2, .slice A2 n2 c2]] w
      fun e w' => e = .returned (.int .i64 (Np.cmpSet ⟨s1.data.toList, t1, l1, d1⟩ ⟨s2.data.toList, t2, l2, d2⟩)) ∧ D.Below w.heap.size w w' := by
  have hw : ∀ o o', D.Below w.heap.size w ((w.alloc o).alloc o') := fun o o' => ((D.Below.refl _ w).alloc (Nat.le_refl _) _).alloc (by simp) _
  have HW := Lib.hid hw
  have HR := Lib.hid hR
  have HD1 := Lib.hid hd1
  have HD2 := Lib.hid hd2
  have HV := Lib.hid (show cmpSetVal ⟨s1.data.toList, t1, l1, d1⟩ ⟨s2.data.toList, t2, l2, d2⟩ = .tuple #[.int .i64 (Np.cmpSet ⟨s1.data.toList, t1, l1, d1⟩ ⟨s2.data.toList, t2, l2, d2⟩), .int .i64 0] by unfold cmpSetVal; rw [hv1, hv2]; rfl)
  obtain ⟨B1, e1, rfl, -, -, -⟩ := hd1
  obtain ⟨B2, e2, rfl, -, -, -⟩ := hd2
  clear hw hR hv1 hv2
  obtain ⟨q, hq⟩ : ∃ q, q = Np.cmpSet ⟨s1.data.toList, t1, l1, d1⟩ ⟨s2.data.toList, t2, l2, d2⟩ := ⟨_, rfl⟩
  rw [← hq] at HV ⊢
  clear hq
  go_enter Tryz.func142, Tryz.ntmps142
  go_wp2_with fail
  refine (D.recCompare_any s1 s2 hs1 hs2 t1 l1 t2 l2 _ _ d1 d2 _ ((HR.out.keep (HW.out _ _).low).more (by simp; omega)) ((HD1.out.keep rdatum_kept (HW.out _ _).low).more rdatum_more (by simp; omega)) ((HD2.out.keep rdatum_kept (HW.out _ _).low).more rdatum_more (by simp; omega))).mono ?_
  rintro e w1 ⟨rfl, hb1⟩
  have HB1 := Lib.hid ((HW.out _ _).trans (hb1.mono (by simp; omega)))
  clear hb1
  rw [HV.out]
  go_wp2_with fail
  go_ret
  exact ⟨rfl, HB1.out⟩
theorem below_of_grown {w w' : World} {row : Option Nat} {base : Nat} (h : w.grownBy w' row) (hr : ∀ g, row = some g → base ≤ g) (hB : base ≤ w.heap.size) : Below base w w' :=
  ⟨h.os, h.tape, h.output, h.size, fun k hk => h.block k (by omega) (fun e => by have := hr k e.symm; omega)⟩
theorem swo_pull {α β : Type} {c : β → β → Int} (h : Np.TO c) (f : α → β) : SWO (ltOf fun x y => c (f x) (f y)) where
  irrefl x := (swo_of h).irrefl (f x)
  trans x y z h1 h2 := (swo_of h).trans (f x) (f y) (f z) h1 h2
  ntrans x y z h1 h2 := (swo_of h).ntrans (f x) (f y) (f z) h1 h2
theorem finRange_map_get {α : Type} (l : List α) : (List.finRange l.length).map (fun i => l[i]) = l := by
  apply List.ext_getElem
  · simp
  · intro i h1 h2
    simp
set_option maxHeartbeats 1000000 in
theorem sortSig_any (base : Nat) (v : Value) (xs : List Np.Signed) (M : Nat → Prop) (w : World) (hO : OwnM RSigned 5 41 base M w v xs) (hR : RulesIn w base) (hB : base ≤ w.heap.size) (hne : xs ≠ []) (hl : xs.length ≤ 1000000)
    (hval : ∀ x ∈ xs, Np.validSet x.set = true) (hnd : ∀ i j (hi : i < xs.length) (hj : j < xs.length), Np.cmpSet xs[i].set xs[j].set = 0 → i = j) :
    Calls Tryz.prog 141 #[v, .func (.func 142) #[] #[]] w fun e w' => e = .returned (.tuple #[]) ∧ OwnM RSigned 5 41 base M w' v (Np.sortS xs) ∧ w.grownBy w' v.ownBlock := by
  obtain ⟨rows, hr1, hown, hM, hread⟩ := hO
  rcases hown.2 with ⟨_, h0⟩ | ⟨g, cap, cur, rfl, hbase, hb, h1, h2, h3, h4⟩
  · exact absurd (List.eq_nil_of_length_eq_zero h0) hne
  have hpos : 0 < xs.length := List.length_pos_iff.2 hne
  letI : Inhabited (Fin xs.length) := ⟨⟨0, hpos⟩⟩
  have hrow : ∀ i : Fin xs.length, (rows[i]'(by have := i.2; omega)).length = 5 ∧ RSigned (sansP w M) w.heap.size (rows[i]'(by have := i.2; omega)) xs[i] := fun i => hread i _ _ (List.getElem?_eq_getElem (by have := i.2; omega)) (List.getElem?_eq_getElem i.2)
  obtain ⟨enc, henc⟩ : ∃ enc : Fin xs.length → List Value, ∀ i, enc i = rows[i]'(by have := i.2; omega) := ⟨fun i => rows[i]'(by have := i.2; omega), fun _ => rfl⟩
  have hk : ∀ i, (enc i).length = 5 := fun i => by rw [henc]; exact (hrow i).1
  have hfr : (List.finRange xs.length).map enc = rows := by
    apply List.ext_getElem
    · simp [hr1]
    · intro i h1 h2
      simp [henc]
  have eg : ∀ args w, (callFunc 142 args).run Tryz.prog w = .ok (.enter 142 args) w := fun args w => by simp [go_sem]
  have aE : ∀ w, (isAgg 41).run Tryz.prog w = .ok true w := fun w => by kernel_rfl
  have zE : ∀ w, (Go.sizeOf 41).run Tryz.prog w = .ok 5 w := fun w => by kernel_rfl
  have hH : HoldsK enc 5 w g 0 (List.finRange xs.length).toArray := holdsK_own enc 5 hk (by omega) hb (by rw [List.length_finRange, hfr]; exact h4)
  have hone : ∀ i, ∀ u ∈ enc i, u.oneCell' = true := fun i u hu => by
    rw [henc] at hu
    obtain ⟨_, s, v, u', _, _, h5, h6, h7⟩ := hrow i
    obtain ⟨A1, c1, rfl, _⟩ := h5
    obtain ⟨A2, c2, rfl, _⟩ := h6
    rw [h7] at hu
    simp only [List.mem_cons, List.not_mem_nil, or_false] at hu
    rcases hu with rfl | rfl | rfl | rfl | rfl <;> rfl
  have hcmp : CmpLays Tryz.prog 142 #[] enc 5 (fun i j : Fin xs.length => Np.cmpKey (Np.keyS xs[i].set) (Np.keyS xs[j].set)) g 0 (List.finRange xs.length).toArray.size w := fun m os dk _ i j => by
    have hgr := grownBy_sortedK enc 5 (w := w) (g := g) (n := m) (os := os) dk
    have hlv : Leaves' M w (sortWorldK enc 5 w g 0 m dk os) M := Leaves'.grown hgr (fun k hk => hM k hk)
    have hbl := below_of_grown hgr (base := base) (fun k hk => by cases hk; exact hbase) hB
    have hrd : ∀ i : Fin xs.length, RSigned (sortWorldK enc 5 w g 0 m dk os) (sortWorldK enc 5 w g 0 m dk os).heap.size (enc i) xs[i] := fun i => by
      rw [henc]
      exact rsigned_sans.all (hlv.read rsigned_kept rsigned_sans rsigned_more (hrow i).2)
    have hru : RulesIn (sortWorldK enc 5 w g 0 m dk os) (sortWorldK enc 5 w g 0 m dk os).heap.size := (hR.keep hbl).more (Nat.le_trans hB hgr.size)
    obtain ⟨s1, v1, u1, a1, a2, a3, a4, a5⟩ := hrd i
    obtain ⟨s2, v2, u2, b1, b2, b3, b4, b5⟩ := hrd j
    obtain ⟨A1, c1, rfl, _⟩ := a4
    obtain ⟨A2, c2, rfl, _⟩ := b4
    have e1 : (⟨s1.data.toList, xs[i].set.type, xs[i].set.life, xs[i].set.data⟩ : Np.DSet) = xs[i].set := by rw [a1]
    have e2 : (⟨s2.data.toList, xs[j].set.type, xs[j].set.life, xs[j].set.data⟩ : Np.DSet) = xs[j].set := by rw [b1]
    have hct := D.bodyCmp_any s1 s2 a2 b2 xs[i].set.type xs[i].set.life xs[j].set.type xs[j].set.life v1 v2 A1 A2 xs[i].sigs.length xs[j].sigs.length c1 c2 xs[i].set.data xs[j].set.data _ hru a3 b3 (by rw [e1]; exact hval _ (List.getElem_mem _)) (by rw [e2]; exact hval _ (List.getElem_mem _))
    rw [e1, e2, Np.cmpSet_key] at hct
    rw [a5, b5]
    exact hct.mono fun e w' ⟨he, hw⟩ => ⟨he, grow_of_below hw⟩
  have htie : ∀ i j : Fin xs.length, ltOf (fun i j : Fin xs.length => Np.cmpKey (Np.keyS xs[i].set) (Np.keyS xs[j].set)) i j = false → ltOf (fun i j : Fin xs.length => Np.cmpKey (Np.keyS xs[i].set) (Np.keyS xs[j].set)) j i = false → i = j := fun i j h1 h2 => by
    have := to_tie Np.toKey (Np.keyS xs[i].set) (Np.keyS xs[j].set) h1 h2
    have h0 := hnd i j i.2 j.2 (by rw [Np.cmpSet_key]; show Np.cmpKey (Np.keyS xs[i].set) (Np.keyS xs[j].set) = 0; rw [this]; exact Np.toKey.self _)
    exact Fin.ext h0
  have hsz : (List.finRange xs.length).toArray.size = xs.length := by simp
  have hct := AnyQ.slices_SortFunc_total Tryz.sortSig 5 aE zE enc hk hone (fun i j : Fin xs.length => Np.cmpKey (Np.keyS xs[i].set) (Np.keyS xs[j].set)) (swo_pull Np.toKey (fun i : Fin xs.length => Np.keyS xs[i].set)) 142 #[] g 0 cap (List.finRange xs.length).toArray w eg hcmp hH (Array.getElem?_eq_some_iff.1 hb).1 (by rw [hsz]; omega) htie
  rw [hsz] at hct
  refine hct.mono fun e w' ⟨he, n, os, hw⟩ => ⟨he, ?_, ?_⟩
  · subst hw
    obtain ⟨ys, hys⟩ : ∃ ys, ys = (List.finRange xs.length).toArray.toList.mergeSort (fun x y => !(ltOf (fun i j : Fin xs.length => Np.cmpKey (Np.keyS xs[i].set) (Np.keyS xs[j].set))) y x) := ⟨_, rfl⟩
    rw [← hys]
    have hp : ys.Perm (List.finRange xs.length) := by rw [hys]; exact List.mergeSort_perm _ _
    have hyl : ys.length = (List.finRange xs.length).length := hp.length_eq
    have hyl' : ys.length = xs.length := by rw [hyl]; simp
    have hmap : Np.sortS xs = ys.map (fun i => xs[i]) := by
      unfold Np.sortS
      conv => lhs; rw [← finRange_map_get xs]
      refine Eq.trans (Eq.symm (List.map_mergeSort (r := fun x y => !(ltOf (fun i j : Fin xs.length => Np.cmpKey (Np.keyS xs[i].set) (Np.keyS xs[j].set))) y x) (fun a _ b _ => ?_))) (congrArg _ hys.symm)
      simp only [ltOf, Np.cmpSet_key]
    have hgr := grownBy_sortedK enc 5 (w := w) (g := g) (n := n) (os := os) ys.toArray
    have hlv : Leaves' M w (sortWorldK enc 5 w g 0 n ys.toArray os) M := Leaves'.grown hgr (fun k hk => hM k hk)
    have how := ownsRow_sortedK enc 5 hk (by omega) (w := w) (base := base) (g := g) (cap := cap) (n := n) (e := 41) (os := os) (cur := cur) (xs := List.finRange xs.length) (ys := ys) hyl hbase hb (by simpa using h1) h2 h3
    rw [List.length_finRange] at how
    have hsl : (Np.sortS xs).length = xs.length := (Np.sortS_perm xs).length_eq
    refine ⟨ys.map enc, by rw [List.length_map, hyl', hsl], by rw [hsl]; exact how, hM, fun i r x hr hx => ?_⟩
    rw [hmap] at hx
    rw [List.getElem?_map] at hr hx
    cases hyi : ys[i]? with
    | none => rw [hyi] at hr; cases hr
    | some y =>
      rw [hyi] at hr hx
      cases hr
      cases hx
      refine ⟨hk y, ?_⟩
      rw [henc]
      exact hlv.read rsigned_kept rsigned_sans rsigned_more (hrow y).2
  · subst hw
    exact grownBy_sortedK enc 5 _
end Go.Proofs.YtnbolgdccdnjeaaGreatDoor
