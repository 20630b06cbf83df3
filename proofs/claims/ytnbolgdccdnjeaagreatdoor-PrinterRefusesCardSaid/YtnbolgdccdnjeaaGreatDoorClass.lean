/- lexer.classes: the table of the classes of all bytes. -/
import Derived.Test.YtnbolgdccdnjeaaGreatDoorLexSpec
import Derived.Test.YtnbolgdccdnjeaaGreatDoorTurned
import Derived.Test.YtnbolgdccdnjeaaGreatDoorRec3
import Derived.Laws.Rows
import Derived.Deep.MidRow
namespace Go.Proofs.YtnbolgdccdnjeaaGreatDoor
open Go.RowKit
/-- An array of 256 numbers. -/
def tabArr (f : Nat → Int) : Array Value := ((List.range 256).map fun i => Value.int .i64 (f i)).toArray
theorem tabArr_size (f : Nat → Int) : (tabArr f).size = 256 := by simp [tabArr]
theorem tabArr_get (f : Nat → Int) (i : Nat) (h : i < 256) : (tabArr f)[i]? = some (.int .i64 (f i)) := by
  simp [tabArr, List.getElem?_range h]
theorem tabArr_set (f : Nat → Int) (c : Nat) (v : Int) (h : c < 256) : (tabArr f).setIfInBounds c (.int .i64 v) = tabArr (fun i => if i = c then v else f i) := by
  apply Array.ext'
  simp only [tabArr, Array.toList_setIfInBounds]
  apply List.ext_getElem?
  intro i
  rw [List.getElem?_set]
  simp only [List.length_map, List.length_range]
  split
  · rename_i e
    subst e
    simp [h]
  · rename_i e
    rcases Nat.lt_or_ge i 256 with hi | hi
    · simp [List.getElem?_range hi, Ne.symm e]
    · simp [hi]
theorem tabArr_one (f : Nat → Int) : (tabArr f).all (·.oneCell') = true := all_oneCell_toArray (fun v hv => by simp at hv; obtain ⟨i, _, rfl⟩ := hv; rfl)
theorem tabArr_congr {f g : Nat → Int} (h : ∀ i, i < 256 → f i = g i) : tabArr f = tabArr g := by
  unfold tabArr
  congr 1
  exact List.map_congr_left (fun i hi => by rw [h i (by simpa using hi)])
/-- The table, with a number at each of some bytes. -/
def setF (f : Nat → Int) (bs : List UInt8) (v : Int) : Nat → Int := fun i => if (bs.map UInt8.toNat).contains i then v else f i
theorem setF_snoc (f : Nat → Int) (bs : List UInt8) (k : Nat) (h : k < bs.length) (v : Int) : (fun i => if i = (bs[k]).toNat then v else setF f (bs.take k) v i) = setF f (bs.take (k + 1)) v := by
  funext i
  unfold setF
  rw [List.take_succ_eq_append_getElem h]
  simp only [List.map_append, List.map_cons, List.map_nil, List.contains_append, List.contains_cons, List.contains_nil, Bool.or_false]
  by_cases e : i = (bs[k]).toNat
  · simp [e]
  · simp [e]
theorem heap_set_at {w : World} {b i : Nat} {cur : Array Value} {v : Value} {t : TypeId} (h : w.heap[b]? = some (.cells cur t)) : (w.setCell ⟨b, i, none⟩ v).heap[b]? = some (.cells (cur.setIfInBounds i v) t) := by
  simp [World.setCell, Array.getElem?_modify, h]
theorem turned_set_at (w : World) (b i : Nat) (v : Value) : Turned b w (w.setCell ⟨b, i, none⟩ v) :=
  ⟨rfl, rfl, rfl, by simp [World.setCell], fun j hj => by simp [World.setCell, Array.getElem?_modify, Ne.symm hj]⟩
set_option maxRecDepth 100000 in
set_option maxHeartbeats 1000000 in
theorem setClass_any (b : Nat) (s : ByteArray) (hs : s.size ≤ 255) (v : Int) (f : Nat → Int) (w : World) (t : TypeId) (hc : w.heap[b]? = some (.cells (tabArr f) t)) :
    Calls Tryz.prog 110 #[.string s, .int .i64 v, .pointer (some ⟨b, 0, none⟩)] w fun e w' => e = .returned (.tuple #[]) ∧ Turned b w w' ∧ w'.heap[b]? = some (.cells (tabArr (setF f s.data.toList v)) t) := by
  have HC0 := Lib.hid hc
  clear hc
  go_enter Tryz.func110, Tryz.ntmps110
  go_wp2_with fail
  go_loopw [8] (fun i wr => ∃ k : Nat, k ≤ s.size ∧ i = .int .i64 k ∧ Hid (Turned b w wr) ∧ Hid (wr.heap[b]? = some (.cells (tabArr (setF f (s.data.toList.take k) v)) t))) (fun i _ => s.size - (intOf i).toNat)
  case atStart => exact ⟨0, by omega, rfl, Lib.hid (Turned.refl _ _), Lib.hid (by have := HC0.out; rwa [show f = setF f (s.data.toList.take 0) v from by funext i; simp [setF]] at this)⟩
  case round =>
    obtain ⟨k, hk, rfl, HT, HC⟩ := hrel
    by_cases hlt : k < s.size
    · have h256 : s[k].toNat < 256 := UInt8.toNat_lt _
      have h256' : (s[k].toNat : Int) < 256 := by omega
      have h1 : wr.cell? ⟨b, s[k].toNat, none⟩ = some (.int .i64 (setF f (s.data.toList.take k) v s[k].toNat)) := by
        unfold World.cell?; rw [HC.out]; exact tabArr_get _ _ h256
      have h2 : wr.frozen? ⟨b, s[k].toNat, none⟩ = false := by unfold World.frozen?; rw [HC.out]; rfl
      go_wp2_with fail
      refine ⟨⟨k + 1, by omega, rfl, Lib.hid (HT.out.trans (turned_set_at _ _ _ _)), Lib.hid ?_⟩, by simp [intOf]; omega⟩
      rw [heap_set_at HC.out, tabArr_set _ _ _ h256]
      rw [← setF_snoc f s.data.toList k (by simpa using hlt) v]
      rfl
    · have : k = s.size := by omega
      subst this
      go_wp2_with fail
      go_end0
      exact ⟨rfl, HT.out, by have := HC.out; rwa [take_all s _ (Nat.le_refl _)] at this⟩
theorem results_cell_of {P : Program} {fn : Func} {p : Tmp} {ty : TypeId} (h : fn.results = #[.cell p ty]) (tmps : Array Value) (w : World) (g : Nat) (v : Value) (hp : tmps.getD p undef = .pointer (some ⟨g, 0, none⟩)) (hl : (loadVar ty ⟨g, 0, none⟩).run P w = .ok v w) :
    (results fn tmps).run P w = .ok v w := by
  have hp' : tmps[p]?.getD undef = .pointer (some ⟨g, 0, none⟩) := by simpa using hp
  simp [results, h, hp', asAddr, hl]
theorem setCells_below {B b : Nat} {a : World} (hb : B ≤ b) : ∀ (vs : List Value) (o : Nat) {w : World}, Below B a w → Below B a (w.setCells b o vs)
  | [], _, _, h => h
  | v :: vs, o, _, h => setCells_below hb vs (o + 1) (h.setCell (by simpa using hb) v)
def clsI (i : Nat) : Int := Np.cls (UInt8.ofNat i)
theorem zero98 : ∀ w, (zeroValue 110).run Tryz.prog w = .ok (.agg (tabArr fun _ => 0)) w := fun w => by kernel_rfl
theorem info98 : (Tryz.prog.info? 110).map (·.size) = some 256 := by kernel_rfl
set_option maxRecDepth 100000 in
set_option maxHeartbeats 1000000 in
theorem classes_any (w : World) :
    Calls Tryz.prog 66 #[] w fun e w' => e = .returned (.agg (tabArr clsI)) ∧ Below w.heap.size w w' := by
  have hz := zero98
  go_enter Tryz.func66, Tryz.ntmps66
  have e0 : ((w.alloc (.cells (tabArr fun _ => 0) 110)).alloc (.cells (tabArr fun _ => 0) 110)).heap[w.heap.size + 1]? = some (.cells (tabArr fun _ => 0) 110) := heap_alloc2_new _ _ _
  have e1 : ((w.alloc (.cells (tabArr fun _ => 0) 110)).alloc (.cells (tabArr fun _ => 0) 110)).heap[w.heap.size]? = some (.cells (tabArr fun _ => 0) 110) := heap_alloc2_old _ _ _
  have E0 := Lib.hid e0
  have E1 := Lib.hid e1
  clear e0 e1
  go_wp2_with fail
  refine (setClass_any (w.heap.size + 1) ⟨#[32, 9, 10]⟩ (by decide) 1 _ _ 110 E0.out).mono ?_
  rintro e w1 ⟨rfl, ht, hc⟩
  have T1 := Lib.hid ht
  have C1 := Lib.hid hc
  clear ht hc
  go_wp2_with fail
  refine (setClass_any (w.heap.size + 1) ⟨#[35]⟩ (by decide) 2 _ _ 110 C1.out).mono ?_
  rintro e w2 ⟨rfl, ht, hc⟩
  have T2 := Lib.hid (T1.out.trans ht)
  have C2 := Lib.hid hc
  clear ht hc
  go_wp2_with fail
  refine (setClass_any (w.heap.size + 1) ⟨#[97, 98, 99, 100, 101, 102, 103, 104, 105, 106, 107, 108, 109, 110, 111, 112, 113, 114, 115, 116, 117, 118, 119, 120, 121, 122, 48, 49, 50, 51, 52, 53, 54, 55, 56, 57, 42]⟩ (by decide) 3 _ _ 110 C2.out).mono ?_
  rintro e w3 ⟨rfl, ht, hc⟩
  have T3 := Lib.hid (T2.out.trans ht)
  have C3 := Lib.hid hc
  clear ht hc
  go_wp2_with fail
  refine (setClass_any (w.heap.size + 1) ⟨#[45]⟩ (by decide) 4 _ _ 110 C3.out).mono ?_
  rintro e w4 ⟨rfl, ht, hc⟩
  have T4 := Lib.hid (T3.out.trans ht)
  have C4 := Lib.hid hc
  clear ht hc
  go_wp2_with fail
  refine (setClass_any (w.heap.size + 1) ⟨#[46]⟩ (by decide) 5 _ _ 110 C4.out).mono ?_
  rintro e w5 ⟨rfl, ht, hc⟩
  have T5 := Lib.hid (T4.out.trans ht)
  have C5 := Lib.hid hc
  clear ht hc
  go_wp2_with fail
  refine (setClass_any (w.heap.size + 1) ⟨#[34]⟩ (by decide) 6 _ _ 110 C5.out).mono ?_
  rintro e w6 ⟨rfl, ht, hc⟩
  have T6 := Lib.hid (T5.out.trans ht)
  have C6 := Lib.hid hc
  clear ht hc
  go_wp2_with fail
  refine (setClass_any (w.heap.size + 1) ⟨#[123, 125, 59, 44, 61, 64]⟩ (by decide) 7 _ _ 110 C6.out).mono ?_
  rintro e w7 ⟨rfl, ht, hc⟩
  have T7 := Lib.hid (T6.out.trans ht)
  have C7 := Lib.hid hc
  clear ht hc
  have hf : tabArr (setF (setF (setF (setF (setF (setF (setF (fun _ => 0) [32, 9, 10] 1) [35] 2) [97, 98, 99, 100, 101, 102, 103, 104, 105, 106, 107, 108, 109, 110, 111, 112, 113, 114, 115, 116, 117, 118, 119, 120, 121, 122, 48, 49, 50, 51, 52, 53, 54, 55, 56, 57, 42] 3) [45] 4) [46] 5) [34] 6) [123, 125, 59, 44, 61, 64] 7) = tabArr clsI := tabArr_congr (by decide +kernel)
  have C := Lib.hid (show w7.heap[w.heap.size + 1]? = some (.cells (tabArr clsI) 110) by rw [← hf]; exact C7.out)
  have hr : w7.heap[w.heap.size]? = some (.cells (tabArr fun _ => 0) 110) := (T7.out.block _ (by omega)).trans E1.out
  have R := Lib.hid hr
  clear hf hr
  have hth : w7.there w.heap.size 0 (tabArr clsI).size := fun j hj => by
    rw [tabArr_size] at hj
    constructor
    · unfold World.cell?; rw [R.out]; simp [tabArr_get _ j hj]
    · unfold World.frozen?; rw [R.out]; rfl
  have TH := Lib.hid hth
  clear hth
  go_wp2_with (first
    | (with_reducible refine wpList_load_row rfl 110 (.tmp 1) rfl (w.heap.size + 1) rfl 110 (tabArr clsI) (0, 0) _ C.out Tryz.underlying110 rfl (by rw [tabArr_size]; exact info98) ?_)
    | (with_reducible refine wpList_store_mid rfl 110 (.tmp 0) (.tmp 18) rfl w.heap.size 0 (tabArr clsI) rfl rfl TH.out (by rw [tabArr_size]; exact info98) (tabArr_one _) ?_))
  refine bodyPost_ret (v := .agg (tabArr clsI)) ?_ rfl ⟨rfl, ?_⟩
  · have hl := run_loadVar_mid (P := Tryz.prog) (w7.setCells w.heap.size 0 (tabArr clsI).toList) w.heap.size 0 110 (tabArr clsI).toList _ (World.rangeAt_setCells_same _ _ _ _ (by simpa using TH.out)) Tryz.underlying110 rfl (by rw [Array.length_toList, tabArr_size]; exact info98)
    exact results_cell_of Tryz.results66 _ _ w.heap.size _ rfl hl
  · refine setCells_below (Nat.le_refl _) _ _ ?_
    refine Below.trans (b := ((w.alloc (.cells (tabArr fun _ => 0) 110)).alloc (.cells (tabArr fun _ => 0) 110))) (((Below.refl _ w).alloc (Nat.le_refl _) _).alloc (by simp) _) ?_
    exact ⟨T7.out.os, T7.out.tape, T7.out.output, by rw [T7.out.size]; exact Nat.le_refl _, fun k hk => T7.out.block k (by omega)⟩
end Go.Proofs.YtnbolgdccdnjeaaGreatDoor
