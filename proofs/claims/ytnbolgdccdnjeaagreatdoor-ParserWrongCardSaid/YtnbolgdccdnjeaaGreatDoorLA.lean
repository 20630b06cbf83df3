/- Joined by program from: Turned, Class, Ends, Any, Ends2, Ends3, Digits, Token, MapS, Lex. No condition. -/
import Derived.Test.YtnbolgdccdnjeaaGreatDoorKA
import Derived.Lib.ConvBytes
import Derived.Test.YtnbolgdccdnjeaaGreatDoorPA
import Derived.Test.YtnbolgdccdnjeaaGreatDoorNB
import Derived.Laws.Rows
import Derived.Deep.MidRow
import Derived.Maps.Own
import Derived.WideMake
import Derived.Laws.EntriesVeiled
import Derived.Test.YtnbolgdccdnjeaaGreatDoorShelf
import Derived.Laws.RangeAny
import Derived.Laws.Runes
import Derived.Deep.LoopGhost
import Derived.Scope
import Derived.Shelf.Abstract
import Derived.Lib.AtoiAll
import Derived.Lib.SlTrimSet
import Derived.Test.YtnbolgdccdnjeaaGreatDoorRf2
import Derived.Deep.WholeRow
import Derived.Deep.DeepMust
import Derived.Deep.AppendLies
/- One block is turned, and nothing else. No condition. -/
namespace Go.Proofs.YtnbolgdccdnjeaaGreatDoor
open Go.RowKit
/-- Only block b has turned. -/
structure Turned (b : Nat) (w w' : World) : Prop where
  os : w'.os = w.os
  tape : w'.tape = w.tape
  output : w'.output = w.output
  size : w'.heap.size = w.heap.size
  block : ∀ i, i ≠ b → w'.heap[i]? = w.heap[i]?
theorem Turned.refl (b : Nat) (w : World) : Turned b w w := ⟨rfl, rfl, rfl, rfl, fun _ _ => rfl⟩
theorem Turned.trans {b : Nat} {u v w : World} (h : Turned b u v) (k : Turned b v w) : Turned b u w := ⟨k.os.trans h.os, k.tape.trans h.tape, k.output.trans h.output, k.size.trans h.size, fun i hi => (k.block i hi).trans (h.block i hi)⟩
theorem Turned.cell {b : Nat} {w w' : World} (h : Turned b w w') {p : Addr} (hp : p.block ≠ b) : w'.cell? p = w.cell? p := by
  unfold World.cell?
  rw [h.block _ hp]
theorem Turned.grown {b : Nat} {w w' : World} (h : Turned b w w') : w.grownBy w' (some b) := ⟨h.os, h.tape, h.output, by rw [h.size]; exact Nat.le_refl _, fun i _ hne => h.block i (fun e => hne (by rw [e]))⟩
theorem Turned.below {b n : Nat} {w w' : World} (h : Turned b w w') (hn : n ≤ b) : Below n w w' := ⟨h.os, h.tape, h.output, by rw [h.size]; exact Nat.le_refl _, fun i hi => h.block i (by omega)⟩
theorem below_bytes (w : World) (t : TypeId) (z : ByteArray) {n : Nat} (hn : n ≤ w.heap.size) : Below n w (Lib.bytesWorld w t z) := by
  refine ⟨?_, ?_, ?_, by rw [Lib.bytesWorld_size]; omega, fun i hi => Lib.bytesWorld_at_old _ _ _ _ (by omega)⟩ <;> (unfold Lib.bytesWorld World.freeze; rfl)
end Go.Proofs.YtnbolgdccdnjeaaGreatDoor
/- lexer.classes: the table of the classes of all bytes. -/
namespace Go.Proofs.YtnbolgdccdnjeaaGreatDoor
open Go.RowKit
/-- An array of 256 numbers. -/
def tabArr (f : Nat → Int) : Array Value := ((List.range 256).map fun i => Value.int .i64 (f i)).toArray
theorem tabArr_size (f : Nat → Int) : (tabArr f).size = 256 := by simp [tabArr]
theorem tabArr_get (f : Nat → Int) (i : Nat) (h : i < 256) : (tabArr f)[i]? = some (.int .i64 (f i)) := by
  simp [tabArr, List.getElem?_range h]
theorem tabArr_set (f : Nat → Int) (c : Nat) (v : Int) (h : c < 256) : (tabArr f).setIfInBounds c (.int .i64 v) = tabArr (fun i => if i = c then v else f i) := by
  apply Array.ext'
  simp only [tabArr, Array.toList_setIfInBounds]
  apply List.ext_getElem?
  intro i
  rw [List.getElem?_set]
  simp only [List.length_map, List.length_range]
  split
  · rename_i e
    subst e
    simp [h]
  · rename_i e
    rcases Nat.lt_or_ge i 256 with hi | hi
    · simp [List.getElem?_range hi, Ne.symm e]
    · simp [hi]
theorem tabArr_one (f : Nat → Int) : (tabArr f).all (·.oneCell') = true := all_oneCell_toArray (fun v hv => by simp at hv; obtain ⟨i, _, rfl⟩ := hv; rfl)
theorem tabArr_congr {f g : Nat → Int} (h : ∀ i, i < 256 → f i = g i) : tabArr f = tabArr g := by
  unfold tabArr
  congr 1
  exact List.map_congr_left (fun i hi => by rw [h i (by simpa using hi)])
/-- The table, with a number at each of some bytes. -/
def setF (f : Nat → Int) (bs : List UInt8) (v : Int) : Nat → Int := fun i => if (bs.map UInt8.toNat).contains i then v else f i
theorem setF_snoc (f : Nat → Int) (bs : List UInt8) (k : Nat) (h : k < bs.length) (v : Int) : (fun i => if i = (bs[k]).toNat then v else setF f (bs.take k) v i) = setF f (bs.take (k + 1)) v := by
  funext i
  unfold setF
  rw [List.take_succ_eq_append_getElem h]
  simp only [List.map_append, List.map_cons, List.map_nil, List.contains_append, List.contains_cons, List.contains_nil, Bool.or_false]
  by_cases e : i = (bs[k]).toNat
  · simp [e]
  · simp [e]
theorem heap_set_at {w : World} {b i : Nat} {cur : Array Value} {v : Value} {t : TypeId} (h : w.heap[b]? = some (.cells cur t)) : (w.setCell ⟨b, i, none⟩ v).heap[b]? = some (.cells (cur.setIfInBounds i v) t) := by
  simp [World.setCell, Array.getElem?_modify, h]
theorem turned_set_at (w : World) (b i : Nat) (v : Value) : Turned b w (w.setCell ⟨b, i, none⟩ v) :=
  ⟨rfl, rfl, rfl, by simp [World.setCell], fun j hj => by simp [World.setCell, Array.getElem?_modify, Ne.symm hj]⟩
set_option maxRecDepth 100000 in
set_option maxHeartbeats 1000000 in
theorem setClass_any (b : Nat) (s : ByteArray) (hs : s.size ≤ 255) (v : Int) (f : Nat → Int) (w : World) (t : TypeId) (hc : w.heap[b]? = some (.cells (tabArr f) t)) :
    Calls Tryz.prog 110 #[.string s, .int .i64 v, .pointer (some ⟨b, 0, none⟩)] w fun e w' => e = .returned (.tuple #[]) ∧ Turned b w w' ∧ w'.heap[b]? = some (.cells (tabArr (setF f s.data.toList v)) t) := by
  have HC0 := Lib.hid hc
  clear hc
  go_enter Tryz.func110, Tryz.ntmps110
  go_wp2_with fail
  go_loopw [8] (fun i wr => ∃ k : Nat, k ≤ s.size ∧ i = .int .i64 k ∧ Hid (Turned b w wr) ∧ Hid (wr.heap[b]? = some (.cells (tabArr (setF f (s.data.toList.take k) v)) t))) (fun i _ => s.size - (intOf i).toNat)
  case atStart => exact ⟨0, by omega, rfl, Lib.hid (Turned.refl _ _), Lib.hid (by have := HC0.out; rwa [show f = setF f (s.data.toList.take 0) v from by funext i; simp [setF]] at this)⟩
  case round =>
    obtain ⟨k, hk, rfl, HT, HC⟩ := hrel
    by_cases hlt : k < s.size
    · have h256 : s[k].toNat < 256 := UInt8.toNat_lt _
      have h256' : (s[k].toNat : Int) < 256 := by omega
      have h1 : wr.cell? ⟨b, s[k].toNat, none⟩ = some (.int .i64 (setF f (s.data.toList.take k) v s[k].toNat)) := by
        unfold World.cell?; rw [HC.out]; exact tabArr_get _ _ h256
      have h2 : wr.frozen? ⟨b, s[k].toNat, none⟩ = false := by unfold World.frozen?; rw [HC.out]; rfl
      go_wp2_with fail
      refine ⟨⟨k + 1, by omega, rfl, Lib.hid (HT.out.trans (turned_set_at _ _ _ _)), Lib.hid ?_⟩, by simp [intOf]; omega⟩
      rw [heap_set_at HC.out, tabArr_set _ _ _ h256]
      rw [← setF_snoc f s.data.toList k (by simpa using hlt) v]
      rfl
    · have : k = s.size := by omega
      subst this
      go_wp2_with fail
      go_end0
      exact ⟨rfl, HT.out, by have := HC.out; rwa [take_all s _ (Nat.le_refl _)] at this⟩
theorem results_cell_of {P : Program} {fn : Func} {p : Tmp} {ty : TypeId} (h : fn.results = #[.cell p ty]) (tmps : Array Value) (w : World) (g : Nat) (v : Value) (hp : tmps.getD p undef = .pointer (some ⟨g, 0, none⟩)) (hl : (loadVar ty ⟨g, 0, none⟩).run P w = .ok v w) :
    (results fn tmps).run P w = .ok v w := by
  have hp' : tmps[p]?.getD undef = .pointer (some ⟨g, 0, none⟩) := by simpa using hp
  simp [results, h, hp', asAddr, hl]
theorem setCells_below {B b : Nat} {a : World} (hb : B ≤ b) : ∀ (vs : List Value) (o : Nat) {w : World}, Below B a w → Below B a (w.setCells b o vs)
  | [], _, _, h => h
  | v :: vs, o, _, h => setCells_below hb vs (o + 1) (h.setCell (by simpa using hb) v)
def clsI (i : Nat) : Int := Np.cls (UInt8.ofNat i)
theorem zero98 : ∀ w, (zeroValue 110).run Tryz.prog w = .ok (.agg (tabArr fun _ => 0)) w := fun w => by kernel_rfl
theorem info98 : (Tryz.prog.info? 110).map (·.size) = some 256 := by kernel_rfl
set_option maxRecDepth 100000 in
set_option maxHeartbeats 1000000 in
theorem classes_any (w : World) :
    Calls Tryz.prog 66 #[] w fun e w' => e = .returned (.agg (tabArr clsI)) ∧ Below w.heap.size w w' := by
  have hz := zero98
  go_enter Tryz.func66, Tryz.ntmps66
  have e0 : ((w.alloc (.cells (tabArr fun _ => 0) 110)).alloc (.cells (tabArr fun _ => 0) 110)).heap[w.heap.size + 1]? = some (.cells (tabArr fun _ => 0) 110) := heap_alloc2_new _ _ _
  have e1 : ((w.alloc (.cells (tabArr fun _ => 0) 110)).alloc (.cells (tabArr fun _ => 0) 110)).heap[w.heap.size]? = some (.cells (tabArr fun _ => 0) 110) := heap_alloc2_old _ _ _
  have E0 := Lib.hid e0
  have E1 := Lib.hid e1
  clear e0 e1
  go_wp2_with fail
  refine (setClass_any (w.heap.size + 1) ⟨#[32, 9, 10]⟩ (by decide) 1 _ _ 110 E0.out).mono ?_
  rintro e w1 ⟨rfl, ht, hc⟩
  have T1 := Lib.hid ht
  have C1 := Lib.hid hc
  clear ht hc
  go_wp2_with fail
  refine (setClass_any (w.heap.size + 1) ⟨#[35]⟩ (by decide) 2 _ _ 110 C1.out).mono ?_
  rintro e w2 ⟨rfl, ht, hc⟩
  have T2 := Lib.hid (T1.out.trans ht)
  have C2 := Lib.hid hc
  clear ht hc
  go_wp2_with fail
  refine (setClass_any (w.heap.size + 1) ⟨#[97, 98, 99, 100, 101, 102, 103, 104, 105, 106, 107, 108, 109, 110, 111, 112, 113, 114, 115, 116, 117, 118, 119, 120, 121, 122, 48, 49, 50, 51, 52, 53, 54, 55, 56, 57, 42]⟩ (by decide) 3 _ _ 110 C2.out).mono ?_
  rintro e w3 ⟨rfl, ht, hc⟩
  have T3 := Lib.hid (T2.out.trans ht)
  have C3 := Lib.hid hc
  clear ht hc
  go_wp2_with fail
  refine (setClass_any (w.heap.size + 1) ⟨#[45]⟩ (by decide) 4 _ _ 110 C3.out).mono ?_
  rintro e w4 ⟨rfl, ht, hc⟩
  have T4 := Lib.hid (T3.out.trans ht)
  have C4 := Lib.hid hc
  clear ht hc
  go_wp2_with fail
  refine (setClass_any (w.heap.size + 1) ⟨#[46]⟩ (by decide) 5 _ _ 110 C4.out).mono ?_
  rintro e w5 ⟨rfl, ht, hc⟩
  have T5 := Lib.hid (T4.out.trans ht)
  have C5 := Lib.hid hc
  clear ht hc
  go_wp2_with fail
  refine (setClass_any (w.heap.size + 1) ⟨#[34]⟩ (by decide) 6 _ _ 110 C5.out).mono ?_
  rintro e w6 ⟨rfl, ht, hc⟩
  have T6 := Lib.hid (T5.out.trans ht)
  have C6 := Lib.hid hc
  clear ht hc
  go_wp2_with fail
  refine (setClass_any (w.heap.size + 1) ⟨#[123, 125, 59, 44, 61, 64]⟩ (by decide) 7 _ _ 110 C6.out).mono ?_
  rintro e w7 ⟨rfl, ht, hc⟩
  have T7 := Lib.hid (T6.out.trans ht)
  have C7 := Lib.hid hc
  clear ht hc
  have hf : tabArr (setF (setF (setF (setF (setF (setF (setF (fun _ => 0) [32, 9, 10] 1) [35] 2) [97, 98, 99, 100, 101, 102, 103, 104, 105, 106, 107, 108, 109, 110, 111, 112, 113, 114, 115, 116, 117, 118, 119, 120, 121, 122, 48, 49, 50, 51, 52, 53, 54, 55, 56, 57, 42] 3) [45] 4) [46] 5) [34] 6) [123, 125, 59, 44, 61, 64] 7) = tabArr clsI := tabArr_congr (by decide +kernel)
  have C := Lib.hid (show w7.heap[w.heap.size + 1]? = some (.cells (tabArr clsI) 110) by rw [← hf]; exact C7.out)
  have hr : w7.heap[w.heap.size]? = some (.cells (tabArr fun _ => 0) 110) := (T7.out.block _ (by omega)).trans E1.out
  have R := Lib.hid hr
  clear hf hr
  have hth : w7.there w.heap.size 0 (tabArr clsI).size := fun j hj => by
    rw [tabArr_size] at hj
    constructor
    · unfold World.cell?; rw [R.out]; simp [tabArr_get _ j hj]
    · unfold World.frozen?; rw [R.out]; rfl
  have TH := Lib.hid hth
  clear hth
  go_wp2_with (first
    | (with_reducible refine wpList_load_row rfl 110 (.tmp 1) rfl (w.heap.size + 1) rfl 110 (tabArr clsI) (0, 0) _ C.out Tryz.underlying110 rfl (by rw [tabArr_size]; exact info98) ?_)
    | (with_reducible refine wpList_store_mid rfl 110 (.tmp 0) (.tmp 18) rfl w.heap.size 0 (tabArr clsI) rfl rfl TH.out (by rw [tabArr_size]; exact info98) (tabArr_one _) ?_))
  refine bodyPost_ret (v := .agg (tabArr clsI)) ?_ rfl ⟨rfl, ?_⟩
  · have hl := run_loadVar_mid (P := Tryz.prog) (w7.setCells w.heap.size 0 (tabArr clsI).toList) w.heap.size 0 110 (tabArr clsI).toList _ (World.rangeAt_setCells_same _ _ _ _ (by simpa using TH.out)) Tryz.underlying110 rfl (by rw [Array.length_toList, tabArr_size]; exact info98)
    exact results_cell_of Tryz.results66 _ _ w.heap.size _ rfl hl
  · refine setCells_below (Nat.le_refl _) _ _ ?_
    refine Below.trans (b := ((w.alloc (.cells (tabArr fun _ => 0) 110)).alloc (.cells (tabArr fun _ => 0) 110))) (((Below.refl _ w).alloc (Nat.le_refl _) _).alloc (by simp) _) ?_
    exact ⟨T7.out.os, T7.out.tape, T7.out.output, by rw [T7.out.size]; exact Nat.le_refl _, fun k hk => T7.out.block k (by omega)⟩
end Go.Proofs.YtnbolgdccdnjeaaGreatDoor
/- lexer.endings: a map of functions. -/
namespace Go.Proofs.YtnbolgdccdnjeaaGreatDoor
open Go.RowKit Go.MapKept
section
variable {P : Program} {ops : Array Oper} {rest : List Oper} {o : Oper} {a : Act} {Q : Exit → Act → World → Prop}
/-- A new key of a map that is known whole. -/
theorem wpList_insert_int (w : World) (hg : o.guard = none) (m x v : Operand) (t : TypeId) (hop : o.op = Op.insert t m x v) (kt et : TypeId) (k : IntKind) (ht : P.underlying t = some (.map kt et)) (hk : P.underlying kt = some (.int k))
    (r : Nat) (es : Array MapEntry) (c : Nat) (hm : a.eval m = .map (some r)) (hr : w.heap[r]? = some (.map es c)) (n : Int) (hx : a.eval x = .int k n) (val : Value) (hv : a.eval v = val) (hf : Instr.findNow (.int k) (.int k n) es.toList 0 = some none)
    (hK : ∀ w', w'.heap[r]? = some (.map (es.push { key := .int k n, val := val, born := c }) (c + 1)) → Turned r w w' → wpList P ops Q rest (a.put o.dst undef) w') :
    wpList P ops Q (o :: rest) a w := by
  refine wpList_plain hg fun K' hK' => ?_
  have hc : (Instr.checkKey false 10000 kt (.int k n)).run P w = .ok () w := MapKept.run_checkKey (k := .int k n) hk (by simp [MapKept.IsKey]) false 9999
  have hrun : (Instr.mapUpdate t (.map (some r)) (.int k n) val).run P w = .ok () { w with heap := w.heap.setIfInBounds r (.map (es.push { key := .int k n, val := val, born := c }) (c + 1)) } := by
    simp [Instr.mapUpdate, run_underlying ht, MapKept.run_getObj_map hr, hc, MapKept.run_findKey hk hf, MapKept.run_setObj_map _ hr, Result.andThen]
  unfold Oper.wp
  simp [execOp, hop, hm, hx, hv, hrun, Result.andThen]
  have hl : r < w.heap.size := (Array.getElem?_eq_some_iff.1 hr).1
  refine hK' _ _ (hK _ (by simp [hl]) ⟨rfl, rfl, rfl, by simp, fun i hi => by simp [Ne.symm hi]⟩)
/-- A key that is there. -/
theorem wpList_lookup_int (w : World) (hg : o.guard = none) (m x : Operand) (t : TypeId) (hop : o.op = Op.lookup t m x false) (kt et : TypeId) (k : IntKind) (ht : P.underlying t = some (.map kt et)) (hk : P.underlying kt = some (.int k))
    (r : Nat) (es : Array MapEntry) (c : Nat) (hm : a.eval m = .map (some r)) (hr : w.heap[r]? = some (.map es c)) (n : Int) (hx : a.eval x = .int k n) (i : Nat) (val : Value) (hf : Instr.findNow (.int k) (.int k n) es.toList 0 = some (some (i, val)))
    (hK : wpList P ops Q rest (a.put o.dst val) w) : wpList P ops Q (o :: rest) a w := by
  refine wpList_plain hg fun K' hK' => ?_
  have hc : ∀ b, (Instr.checkKey b 10000 kt (.int k n)).run P w = .ok () w := fun b => MapKept.run_checkKey (k := .int k n) hk (by simp [MapKept.IsKey]) b 9999
  have hrun : (Instr.lookup t (.map (some r)) (.int k n) false).run P w = .ok val w := by
    simp [Instr.lookup, run_underlying ht, MapKept.run_getObj_map hr, hc, MapKept.run_findKey hk hf, Result.andThen]
  unfold Oper.wp
  simp [execOp, hop, hm, hx, hrun, Result.andThen]
  exact hK' _ _ hK
end
def fnv (f : FuncId) (cap : List Nat) : Value := .func (.func f) #[] (cap.map fun b => Value.pointer (some ⟨b, 0, none⟩)).toArray
/-- The function for each class. -/
def endFn (N : Nat) : Nat → Value
  | 0 => fnv 112 []
  | 1 => fnv 113 []
  | 2 => fnv 114 [N]
  | 3 => fnv 111 [N, N + 1]
  | 4 => fnv 112 []
  | 5 => fnv 116 [N + 1 + 1]
  | 6 => fnv 117 [N]
  | _ => fnv 113 []
def endMap (N : Nat) (k : Nat) : Array MapEntry := ((List.range k).map fun i => { key := .int .i64 i, val := endFn N i, born := i }).toArray
theorem endMap_snoc (N k : Nat) : (endMap N k).push { key := .int .i64 k, val := endFn N k, born := k } = endMap N (k + 1) := by
  simp [endMap, List.range_succ]
theorem endMap_new (N : Nat) : ∀ k : Nat, k ≤ 7 → Instr.findNow (.int .i64) (.int .i64 k) (endMap N k).toList 0 = some none := by
  intro k hk
  rcases (by omega : k = 0 ∨ k = 1 ∨ k = 2 ∨ k = 3 ∨ k = 4 ∨ k = 5 ∨ k = 6 ∨ k = 7) with rfl | rfl | rfl | rfl | rfl | rfl | rfl | rfl <;> rfl
theorem endMap_find (N : Nat) (k : Nat) (hk : k ≤ 7) : Instr.findNow (.int .i64) (.int .i64 k) (endMap N 8).toList 0 = some (some (k, endFn N k)) := by
  rcases (by omega : k = 0 ∨ k = 1 ∨ k = 2 ∨ k = 3 ∨ k = 4 ∨ k = 5 ∨ k = 6 ∨ k = 7) with rfl | rfl | rfl | rfl | rfl | rfl | rfl | rfl <;> rfl
/-- What endings leaves: the functions, and what they have taken in. -/
structure EndsAt (N : Nat) (s : ByteArray) (bo : Nat) (w : World) : Prop where
  map : w.heap[N + 1 + 1 + 1]? = some (.map (endMap N 8) 8)
  src : w.cell? ⟨N, 0, none⟩ = some (.string s)
  tab : w.cell? ⟨N + 1, 0, none⟩ = some (.pointer (some ⟨bo, 0, none⟩))
  run : w.cell? ⟨N + 1 + 1, 0, none⟩ = some (endFn N 3)
theorem EndsAt.keep {N : Nat} {s : ByteArray} {bo B : Nat} {w w' : World} (h : EndsAt N s bo w) (hb : Below B w w') (hN : N + 1 + 1 + 1 < B) : EndsAt N s bo w' :=
  ⟨(hb.block _ hN).trans h.map, (hb.cell (by simp; omega)).trans h.src, (hb.cell (by simp; omega)).trans h.tab, (hb.cell (by simp; omega)).trans h.run⟩
set_option maxRecDepth 100000 in
set_option maxHeartbeats 1000000 in
theorem endings_any (s : ByteArray) (bo : Nat) (w : World) :
    Calls Tryz.prog 67 #[.string s, .pointer (some ⟨bo, 0, none⟩)] w fun e w' => e = .returned (.map (some (w.heap.size + 1 + 1 + 1))) ∧ Below w.heap.size w w' ∧ EndsAt w.heap.size s bo w' ∧ w.heap.size + 1 + 1 + 1 < w'.heap.size := by
  have hmm := @run_makeMap Tryz.prog
  have hW : ∀ o1 o2 o3, Hid (Below w.heap.size w ((((w.alloc o1).alloc o2).alloc o3).alloc (.map #[] 0)) ∧ ((((w.alloc o1).alloc o2).alloc o3).alloc (.map #[] 0)).heap[w.heap.size + 1 + 1 + 1]? = some (.map (endMap w.heap.size 0) 0)) := fun o1 o2 o3 => Lib.hid ⟨((((Below.refl _ w).alloc (Nat.le_refl _) _).alloc (by simp) _).alloc (by simp; omega) _).alloc (by simp; omega) _, by
    have := heap_alloc_new (((w.alloc o1).alloc o2).alloc o3) (.map #[] 0)
    simp only [World.size_alloc] at this
    exact this⟩
  have HW := Lib.hid hW
  clear hW
  have F0 : Hid (Instr.findNow (.int .i64) (.int .i64 0) (endMap w.heap.size 0).toList 0 = some none) := Lib.hid (endMap_new w.heap.size 0 (by omega))
  have F1 : Hid (Instr.findNow (.int .i64) (.int .i64 1) (endMap w.heap.size 1).toList 0 = some none) := Lib.hid (endMap_new w.heap.size 1 (by omega))
  have F2 : Hid (Instr.findNow (.int .i64) (.int .i64 2) (endMap w.heap.size 2).toList 0 = some none) := Lib.hid (endMap_new w.heap.size 2 (by omega))
  have F3 : Hid (Instr.findNow (.int .i64) (.int .i64 3) (endMap w.heap.size 3).toList 0 = some none) := Lib.hid (endMap_new w.heap.size 3 (by omega))
  have F4 : Hid (Instr.findNow (.int .i64) (.int .i64 4) (endMap w.heap.size 4).toList 0 = some none) := Lib.hid (endMap_new w.heap.size 4 (by omega))
  have F5 : Hid (Instr.findNow (.int .i64) (.int .i64 5) (endMap w.heap.size 5).toList 0 = some none) := Lib.hid (endMap_new w.heap.size 5 (by omega))
  have F6 : Hid (Instr.findNow (.int .i64) (.int .i64 6) (endMap w.heap.size 6).toList 0 = some none) := Lib.hid (endMap_new w.heap.size 6 (by omega))
  have F7 : Hid (Instr.findNow (.int .i64) (.int .i64 7) (endMap w.heap.size 7).toList 0 = some none) := Lib.hid (endMap_new w.heap.size 7 (by omega))
  go_enter Tryz.func67, Tryz.ntmps67
  go_wp2_with (first
    | ((with_reducible refine wpList_insert_int (o := ⟨none, .insert 112 (.tmp 9) (.const (.int .i64 0)) (.tmp 10), _, _, _, _⟩) _ rfl (.tmp 9) (.const (.int .i64 0)) (.tmp 10) 112 rfl 109 115 .i64 Tryz.underlying112 Tryz.underlying109 (w.heap.size + 1 + 1 + 1) (endMap w.heap.size 0) 0 rfl (HW.out _ _ _).out.2 0 rfl _ rfl F0.out ?_); intro w1 hm ht; have M1 := Lib.hid (show w1.heap[w.heap.size + 1 + 1 + 1]? = some (.map (endMap w.heap.size (0 + 1)) (0 + 1)) from hm.trans (by rw [← endMap_snoc]; rfl)); have T1 := Lib.hid ht; clear hm ht)
    | ((with_reducible refine wpList_insert_int (o := ⟨none, .insert 112 (.tmp 9) (.const (.int .i64 1)) (.tmp 11), _, _, _, _⟩) _ rfl (.tmp 9) (.const (.int .i64 1)) (.tmp 11) 112 rfl 109 115 .i64 Tryz.underlying112 Tryz.underlying109 (w.heap.size + 1 + 1 + 1) (endMap w.heap.size 1) 1 rfl M1.out 1 rfl _ rfl F1.out ?_); intro w2 hm ht; have M2 := Lib.hid (show w2.heap[w.heap.size + 1 + 1 + 1]? = some (.map (endMap w.heap.size (1 + 1)) (1 + 1)) from hm.trans (by rw [← endMap_snoc]; rfl)); have T2 := Lib.hid ht; clear hm ht)
    | ((with_reducible refine wpList_insert_int (o := ⟨none, .insert 112 (.tmp 9) (.const (.int .i64 2)) (.tmp 12), _, _, _, _⟩) _ rfl (.tmp 9) (.const (.int .i64 2)) (.tmp 12) 112 rfl 109 115 .i64 Tryz.underlying112 Tryz.underlying109 (w.heap.size + 1 + 1 + 1) (endMap w.heap.size 2) 2 rfl M2.out 2 rfl _ rfl F2.out ?_); intro w3 hm ht; have M3 := Lib.hid (show w3.heap[w.heap.size + 1 + 1 + 1]? = some (.map (endMap w.heap.size (2 + 1)) (2 + 1)) from hm.trans (by rw [← endMap_snoc]; rfl)); have T3 := Lib.hid ht; have r3 : w3.cell? ⟨w.heap.size + 1 + 1, 0, none⟩ = some (.func (.func 111) #[] #[.pointer (some ⟨w.heap.size, 0, none⟩), .pointer (some ⟨w.heap.size + 1, 0, none⟩)]) := by { rw [ht.cell (by simp), T2.out.cell (by simp), T1.out.cell (by simp)]; go_simp }; clear hm ht)
    | ((with_reducible refine wpList_insert_int (o := ⟨none, .insert 112 (.tmp 9) (.const (.int .i64 3)) (.tmp 13), _, _, _, _⟩) _ rfl (.tmp 9) (.const (.int .i64 3)) (.tmp 13) 112 rfl 109 115 .i64 Tryz.underlying112 Tryz.underlying109 (w.heap.size + 1 + 1 + 1) (endMap w.heap.size 3) 3 rfl M3.out 3 rfl _ rfl F3.out ?_); intro w4 hm ht; have M4 := Lib.hid (show w4.heap[w.heap.size + 1 + 1 + 1]? = some (.map (endMap w.heap.size (3 + 1)) (3 + 1)) from hm.trans (by rw [← endMap_snoc]; rfl)); have T4 := Lib.hid ht; clear hm ht)
    | ((with_reducible refine wpList_insert_int (o := ⟨none, .insert 112 (.tmp 9) (.const (.int .i64 4)) (.tmp 14), _, _, _, _⟩) _ rfl (.tmp 9) (.const (.int .i64 4)) (.tmp 14) 112 rfl 109 115 .i64 Tryz.underlying112 Tryz.underlying109 (w.heap.size + 1 + 1 + 1) (endMap w.heap.size 4) 4 rfl M4.out 4 rfl _ rfl F4.out ?_); intro w5 hm ht; have M5 := Lib.hid (show w5.heap[w.heap.size + 1 + 1 + 1]? = some (.map (endMap w.heap.size (4 + 1)) (4 + 1)) from hm.trans (by rw [← endMap_snoc]; rfl)); have T5 := Lib.hid ht; clear hm ht)
    | ((with_reducible refine wpList_insert_int (o := ⟨none, .insert 112 (.tmp 9) (.const (.int .i64 5)) (.tmp 15), _, _, _, _⟩) _ rfl (.tmp 9) (.const (.int .i64 5)) (.tmp 15) 112 rfl 109 115 .i64 Tryz.underlying112 Tryz.underlying109 (w.heap.size + 1 + 1 + 1) (endMap w.heap.size 5) 5 rfl M5.out 5 rfl _ rfl F5.out ?_); intro w6 hm ht; have M6 := Lib.hid (show w6.heap[w.heap.size + 1 + 1 + 1]? = some (.map (endMap w.heap.size (5 + 1)) (5 + 1)) from hm.trans (by rw [← endMap_snoc]; rfl)); have T6 := Lib.hid ht; clear hm ht)
    | ((with_reducible refine wpList_insert_int (o := ⟨none, .insert 112 (.tmp 9) (.const (.int .i64 6)) (.tmp 16), _, _, _, _⟩) _ rfl (.tmp 9) (.const (.int .i64 6)) (.tmp 16) 112 rfl 109 115 .i64 Tryz.underlying112 Tryz.underlying109 (w.heap.size + 1 + 1 + 1) (endMap w.heap.size 6) 6 rfl M6.out 6 rfl _ rfl F6.out ?_); intro w7 hm ht; have M7 := Lib.hid (show w7.heap[w.heap.size + 1 + 1 + 1]? = some (.map (endMap w.heap.size (6 + 1)) (6 + 1)) from hm.trans (by rw [← endMap_snoc]; rfl)); have T7 := Lib.hid ht; clear hm ht)
    | ((with_reducible refine wpList_insert_int (o := ⟨none, .insert 112 (.tmp 9) (.const (.int .i64 7)) (.tmp 17), _, _, _, _⟩) _ rfl (.tmp 9) (.const (.int .i64 7)) (.tmp 17) 112 rfl 109 115 .i64 Tryz.underlying112 Tryz.underlying109 (w.heap.size + 1 + 1 + 1) (endMap w.heap.size 7) 7 rfl M7.out 7 rfl _ rfl F7.out ?_); intro w8 hm ht; have M8 := Lib.hid (show w8.heap[w.heap.size + 1 + 1 + 1]? = some (.map (endMap w.heap.size (7 + 1)) (7 + 1)) from hm.trans (by rw [← endMap_snoc]; rfl)); have T8 := Lib.hid ht; clear hm ht))
  go_ret
  have t8 := ((((((T1.out.trans T2.out).trans T3.out).trans T4.out).trans T5.out).trans T6.out).trans T7.out).trans T8.out
  have hb := (HW.out _ _ _).out.1.trans (t8.below (n := w.heap.size) (by omega))
  refine ⟨rfl, hb, ⟨M8.out, ?_, ?_, ?_⟩, ?_⟩
  · rw [t8.cell (by simp; omega)]; go_simp
  · rw [t8.cell (by simp)]; go_simp
  · rw [t8.cell (by simp)]; go_simp; rfl
  · rw [t8.size]; simp
end Go.Proofs.YtnbolgdccdnjeaaGreatDoor
/- strings.IndexAny of a text's end: a quote or a line feed. -/
namespace Go.Proofs.YtnbolgdccdnjeaaGreatDoor
open Go.RowKit
theorem iter_below (w : World) (s : ByteArray) (p : Nat) : Below w.heap.size w (w.iter s p) := (Below.refl _ w).alloc (Nat.le_refl _) _
set_option maxRecDepth 100000 in
set_option maxHeartbeats 1000000 in
theorem indexRune_high (r : Int) (h1 : 128 ≤ r) (h2 : r ≤ 2147483647) (w : World) :
    Calls Tryz.prog 149 #[.string ⟨#[34, 10]⟩, .int .i32 r] w fun e w' => e = .returned (.int .i64 (-1)) ∧ Below w.heap.size w w' := by
  have hlo : decide (0 ≤ r) = true := by simp; omega
  have hhi : decide (r < 128) = false := by simp; omega
  by_cases he : r = 65533
  · subst he
    go_enter Tryz.func149, Tryz.ntmps149
    go_wp2_with fail
    go_loopg [5, 6] 2 (fun g _ _ wx => ∃ i : Nat, i + g = 2 ∧ wx = w.iter ⟨#[34, 10]⟩ i)
    case atStart => exact ⟨0, by omega, rfl⟩
    case round =>
      obtain ⟨i, hig, rfl⟩ := hrel
      cases gk with
      | zero =>
        obtain rfl : i = 2 := by omega
        have hnx := fun ty => run_next_end (P := Tryz.prog) w ⟨#[34, 10]⟩ 2 ty (by decide)
        go_wp2_with fail
        go_ret
        exact ⟨rfl, iter_below _ _ _⟩
      | succ g =>
        have hi : i = 0 ∨ i = 1 := by omega
        rcases hi with rfl | rfl
        · have hnx : ∀ ty, (Instr.next (.pointer (some ⟨w.heap.size, 0, none⟩)) true ty).run Tryz.prog (w.iter ⟨#[34, 10]⟩ 0) = .ok (.tuple #[.bool true, .int .i64 0, .int .i32 34]) (w.iter ⟨#[34, 10]⟩ 1) := fun ty => run_next_ascii (P := Tryz.prog) w ⟨#[34, 10]⟩ 0 ty (by decide) (by decide)
          go_wp2_with fail
          go_roundg g
          case rel => exact ⟨1, by omega, rfl⟩
          case measure => omega
        · have hnx : ∀ ty, (Instr.next (.pointer (some ⟨w.heap.size, 0, none⟩)) true ty).run Tryz.prog (w.iter ⟨#[34, 10]⟩ 1) = .ok (.tuple #[.bool true, .int .i64 1, .int .i32 10]) (w.iter ⟨#[34, 10]⟩ 2) := fun ty => run_next_ascii (P := Tryz.prog) w ⟨#[34, 10]⟩ 1 ty (by decide) (by decide)
          go_wp2_with fail
          go_roundg g
          case rel => exact ⟨2, by omega, rfl⟩
          case measure => omega
  · have he' : (r == 65533) = false := by simpa using he
    by_cases hv : Lib.validRune r = true
    · have HV := Lib.hid hv
      obtain ⟨n1, n2, n3⟩ := encode_facts r (by rw [validRune_eq]; exact hv) h1
      generalize hrs : Utf8.encode r = rs at *
      have N3 := Lib.hid n3
      clear hv he n3
      go_enter Tryz.func149, Tryz.ntmps149
      go_wp2_with (go_at_call 177; refine (Tryz.utf8_ValidRune r _).mono ?_; rintro e w' ⟨rfl, rfl⟩; rw [HV.out])
      go_step3
      go_wp2_with fail
      by_cases hsz : rs.size = 2
      · have hsz1 : (rs.size : Int) - 1 = 1 := by omega
        have hlt : 1 < rs.size := by omega
        have hltI : (1 : Int) < (rs.size : Int) := by omega
        have hb : 128 ≤ (rs[1]'hlt).toNat := by
          have := N3.out (by omega)
          simpa [hsz] using this
        have hne : ((10 : Int) != ((rs[1]'hlt).toNat : Int)) = true := by simp; omega
        have hne2 : ((((⟨#[34, 10]⟩ : ByteArray)[1]'(by decide)).toNat : Int) != ((rs[1]'hlt).toNat : Int)) = true := hne
        rw [hsz1]
        have HSZ := Lib.hid hsz
        clear hsz hsz1 n1 n2
        refine wp_loop_rounds 1 ?_
        rw [rounds_succ]
        go_wp2_with fail
        go_step3
        go_wp2_with fail
        go_quiet (fail)
        go_wp2_with fail
        generalize hw2 : World.drewN _ nq = w2
        have HB2 := Lib.hid (show Below w'.heap.size w' w2 from hw2 ▸ below_drewN (Below.refl _ _) _)
        clear hw2
        go_quiet ((go_at_call 115; exact Calls.quiet_of_same (Tryz.strings_IndexByte _ _ _)))
        go_wp2_with fail
        rw [Exit.noGoto_ret]
        go_wp2_with fail
        rw [Exit.noGoto_ret]
        go_wp2_with fail
        go_ret
        exact ⟨rfl, below_drewN HB2.out _⟩
      · have h3 : 2 ≤ (rs.size : Int) - 1 := by omega
        refine wp_loop_rounds 1 ?_
        rw [rounds_succ]
        go_wp2_with fail
        rw [Exit.noGoto_ret]
        go_ret
        exact ⟨rfl, Below.refl _ _⟩
    · have hv' : Lib.validRune r = false := by simpa using hv
      have HV := Lib.hid hv'
      clear hv hv' he
      go_enter Tryz.func149, Tryz.ntmps149
      go_wp2_with (go_at_call 177; refine (Tryz.utf8_ValidRune r _).mono ?_; rintro e w' ⟨rfl, rfl⟩; rw [HV.out])
      go_ret
      exact ⟨rfl, Below.refl _ _⟩
/-- A string's iterator, set on. -/
def setIter (W : World) (b : Nat) (s : ByteArray) (p : Nat) : World := { W with heap := W.heap.setIfInBounds b (.stringIter s p) }
theorem setIter_at {W : World} {b : Nat} (s : ByteArray) (p : Nat) (h : b < W.heap.size) : (setIter W b s p).heap[b]? = some (.stringIter s p) := by simp [setIter, h]
theorem setIter_size (W : World) (b : Nat) (s : ByteArray) (p : Nat) : (setIter W b s p).heap.size = W.heap.size := by simp [setIter]
theorem setIter_below {B : Nat} {a W : World} {b : Nat} (h : Below B a W) (hb : B ≤ b) (s : ByteArray) (p : Nat) : Below B a (setIter W b s p) :=
  h.trans ⟨rfl, rfl, rfl, by rw [setIter_size]; exact Nat.le_refl _, fun k hk => by simp [setIter, show b ≠ k by omega]⟩
theorem run_next_gen {P : Program} (W : World) (b : Nat) (s : ByteArray) (pos : Nat) (ty : TypeId) (hb : W.heap[b]? = some (.stringIter s pos)) (h : pos < s.size) :
    (Instr.next (.pointer (some ⟨b, 0, none⟩)) true ty).run P W = .ok (.tuple #[.bool true, .int .i64 pos, .int .i32 (Utf8.decode s pos).1]) (setIter W b s (pos + (Utf8.decode s pos).2)) := by
  simp only [Instr.next, getObj, setObj, Sem.run_bind, Sem.run, hb, Result.andThen, h, if_true]
  simp [goInt, setIter]
theorem run_next_stop {P : Program} (W : World) (b : Nat) (s : ByteArray) (pos : Nat) (ty : TypeId) (hb : W.heap[b]? = some (.stringIter s pos)) (h : ¬ pos < s.size) :
    (Instr.next (.pointer (some ⟨b, 0, none⟩)) true ty).run P W = .ok (.tuple #[.bool false]) W := by
  simp [Instr.next, getObj, Sem.run, hb, h]
/-- A rune that is no ASCII byte is made of bytes that are none. -/
theorem decode_bytes (s : ByteArray) (pos : Nat) (h : pos < s.size) (ha : 128 ≤ (s[pos]'h).toNat) : ∀ j, pos ≤ j → j < pos + (Utf8.decode s pos).2 → ∃ hj : j < s.size, 128 ≤ (s[j]'hj).toNat := by
  have e0 : (s.get! (pos + 0)).toNat = (s[pos]'h).toNat := by rw [get_at s pos h]
  have hc : ∀ k, (decide (pos + k < s.size) && (s.get! (pos + k)).toNat / 64 == 2) = true → ∃ hj : pos + k < s.size, 128 ≤ (s[pos + k]'hj).toNat := fun k hk => by
    simp only [Bool.and_eq_true, decide_eq_true_eq, beq_iff_eq] at hk
    refine ⟨hk.1, ?_⟩
    have e := get_at s (pos + k) hk.1
    rw [Nat.add_zero] at e
    rw [e] at hk
    omega
  have h0 : ∃ hj : pos < s.size, 128 ≤ (s[pos]'hj).toNat := ⟨h, ha⟩
  intro j hj1 hj2
  have key : j = pos ∨ (j = pos + 1 ∧ (decide (pos + 1 < s.size) && (s.get! (pos + 1)).toNat / 64 == 2) = true) ∨ (j = pos + 2 ∧ (decide (pos + 2 < s.size) && (s.get! (pos + 2)).toNat / 64 == 2) = true) ∨ (j = pos + 3 ∧ (decide (pos + 3 < s.size) && (s.get! (pos + 3)).toNat / 64 == 2) = true) := by
    unfold Utf8.decode at hj2
    simp only at hj2
    split at hj2
    · omega
    · split at hj2
      · rename_i c1
        simp only [Bool.and_eq_true] at c1
        split at hj2
        · rcases (by simp at hj2; omega : j = pos ∨ j = pos + 1) with e | e
          · exact .inl e
          · exact .inr (.inl ⟨e, by simpa using c1.2⟩)
        · exact .inl (by simp at hj2; omega)
      · split at hj2
        · rename_i c2
          simp only [Bool.and_eq_true] at c2
          split at hj2
          · rcases (by simp at hj2; omega : j = pos ∨ j = pos + 1 ∨ j = pos + 2) with e | e | e
            · exact .inl e
            · exact .inr (.inl ⟨e, by simpa using c2.1.2⟩)
            · exact .inr (.inr (.inl ⟨e, by simpa using c2.2⟩))
          · exact .inl (by simp at hj2; omega)
        · split at hj2
          · rename_i c3
            simp only [Bool.and_eq_true] at c3
            split at hj2
            · rcases (by simp at hj2; omega : j = pos ∨ j = pos + 1 ∨ j = pos + 2 ∨ j = pos + 3) with e | e | e | e
              · exact .inl e
              · exact .inr (.inl ⟨e, by simpa using c3.1.1.2⟩)
              · exact .inr (.inr (.inl ⟨e, by simpa using c3.1.2⟩))
              · exact .inr (.inr (.inr ⟨e, by simpa using c3.2⟩))
            · exact .inl (by simp at hj2; omega)
          · exact .inl (by simp at hj2; omega)
  rcases key with rfl | ⟨rfl, k⟩ | ⟨rfl, k⟩ | ⟨rfl, k⟩
  · exact h0
  · exact hc 1 k
  · exact hc 2 k
  · exact hc 3 k
def quoteEnd (c : UInt8) : Bool := c == 34 || c == 10
theorem quoteEnd_eq (c : UInt8) : ([34, 10] : List UInt8).contains c = quoteEnd c := by rw [Bool.eq_iff_iff]; simp [quoteEnd]
theorem indexAny_take (l : List UInt8) : Lib.indexAny l [34, 10] = if (l.takeWhile fun c => !quoteEnd c).length = l.length then -1 else ((l.takeWhile fun c => !quoteEnd c).length : Int) := by
  induction l with
  | nil => rfl
  | cons b l ih =>
    rw [Lib.indexAny, quoteEnd_eq]
    by_cases hb : quoteEnd b = true
    · simp [hb]
    · have hb' : quoteEnd b = false := by simpa using hb
      rw [hb', ih]
      have hle : (l.takeWhile fun c => !quoteEnd c).length ≤ l.length := Np.takeWhile_le l
      simp only [List.takeWhile_cons, hb', Bool.not_false, List.length_cons, ↓reduceIte]
      by_cases e : (l.takeWhile fun c => !quoteEnd c).length = l.length
      · simp [e]
      · simp [e]
/-- No quote and no line feed before i. -/
def NoQ (l : List UInt8) (i : Nat) : Prop := ∀ j b, j < i → l[j]? = some b → quoteEnd b = false
theorem noQ_take {l : List UInt8} : ∀ {i : Nat}, NoQ l i → i ≤ l.length → i ≤ (l.takeWhile fun c => !quoteEnd c).length := by
  induction l with
  | nil => intro i _ h; simpa using h
  | cons b l ih =>
    intro i h hi
    cases i with
    | zero => exact Nat.zero_le _
    | succ i =>
      have hb := h 0 b (by omega) rfl
      have := ih (i := i) (fun j c hj hc => h (j + 1) c (by omega) (by simpa using hc)) (by simpa using hi)
      simp [hb]; omega
theorem take_stop {l : List UInt8} {i : Nat} {b : UInt8} (hb : l[i]? = some b) (hq : quoteEnd b = true) : (l.takeWhile fun c => !quoteEnd c).length ≤ i := by
  induction l generalizing i with
  | nil => simp at hb
  | cons c l ih =>
    cases i with
    | zero => simp at hb; subst hb; simp [hq]
    | succ i =>
      have := ih (i := i) (by simpa using hb)
      rw [List.takeWhile_cons]
      split <;> simp; omega
theorem indexAny_none {l : List UInt8} (h : NoQ l l.length) : Lib.indexAny l [34, 10] = -1 := by
  rw [indexAny_take, if_pos]
  have h1 := noQ_take h (Nat.le_refl _)
  have h2 : (l.takeWhile fun c => !quoteEnd c).length ≤ l.length := Np.takeWhile_le l
  omega
theorem indexAny_at {l : List UInt8} {i : Nat} {b : UInt8} (h : NoQ l i) (hb : l[i]? = some b) (hq : quoteEnd b = true) : Lib.indexAny l [34, 10] = i := by
  have hi := (List.getElem?_eq_some_iff.1 hb).1
  have h1 := noQ_take h (by omega)
  have h2 := take_stop hb hq
  rw [indexAny_take, if_neg (by omega)]
  omega
set_option maxRecDepth 100000 in
set_option maxHeartbeats 1000000 in
theorem indexAny_q (s : ByteArray) (hs : s.size ≤ 100000) (w : World) :
    Calls Tryz.prog 118 #[.string s, .string ⟨#[34, 10]⟩] w fun e w' => e = .returned (.int .i64 (Lib.indexAny s.data.toList [34, 10])) ∧ Below w.heap.size w w' := by
  by_cases h8 : 8 < s.size
  · refine (Tryz.strings_IndexAny_long (fun w => by kernel_rfl) s ⟨#[34, 10]⟩ w (by decide) h8 (by omega) (by decide) (fun j b hj => ?_)).mono ?_
    · match j, hj with
      | 0, hj => simp at hj; subst hj; decide
      | 1, hj => simp at hj; subst hj; decide
      | j + 2, hj => simp at hj
    · rintro e w' ⟨rfl, rfl⟩
      exact ⟨rfl, ((Below.refl _ w).alloc (Nat.le_refl _) _).alloc (by simp) _⟩
  · have h8' : decide ((8 : Int) < (s.size : Int)) = false := by simp; omega
    have h8n : decide (8 < s.size) = false := by simp; omega
    go_enter Tryz.func118, Tryz.ntmps118
    go_wp2
    go_loopg [9, 10] s.size (fun g _ _ wx => ∃ i : Nat, i ≤ s.size ∧ g = s.size - i ∧ Hid (Below w.heap.size w wx) ∧ Hid (wx.heap[w.heap.size]? = some (.stringIter s i)) ∧ Hid (NoQ s.data.toList i))
    case atStart => exact ⟨0, by omega, by omega, Lib.hid (iter_below _ _ _), Lib.hid (World.iter_heap _ _ _), Lib.hid (fun j b hj _ => by omega)⟩
    case round =>
      obtain ⟨i, hi, hg, HB, HI, HN⟩ := hrel
      by_cases hlt : i < s.size
      · have HS := Lib.hid (get_list s i hlt)
        have hwl : w.heap.size < wr.heap.size := (Array.getElem?_eq_some_iff.1 HI.out).1
        by_cases ha : (s[i]).toNat < 128
        · have hnx : ∀ ty, (Instr.next (.pointer (some ⟨w.heap.size, 0, none⟩)) true ty).run Tryz.prog wr = .ok (.tuple #[.bool true, .int .i64 i, .int .i32 ((s[i]).toNat : Int)]) (setIter wr w.heap.size s (i + 1)) := fun ty => by
            have := run_next_gen (P := Tryz.prog) wr w.heap.size s i ty HI.out hlt
            rwa [decode_ascii s i hlt ha] at this
          have HB1 := Lib.hid (setIter_below HB.out (Nat.le_refl _) s (i + 1))
          have HI1 := Lib.hid (setIter_at (W := wr) (b := w.heap.size) s (i + 1) hwl)
          generalize setIter wr w.heap.size s (i + 1) = w1 at *
          by_cases hq : quoteEnd s[i] = true
          · have hix : 0 ≤ Lib.indexByte [34, 10] s[i] := by
              have e := quoteEnd_eq s[i]
              rw [hq] at e
              simp [Lib.indexByte]
              rcases (by simpa using e : s[i] = 34 ∨ s[i] = 10) with h | h <;> simp [h]
            have hix' : 0 ≤ Lib.indexByte [34, 10] (((s[i]).toNat : Int)).toNat.toUInt8 := by
              simpa using hix
            have HQ := Lib.hid hq
            obtain ⟨n, hn, HX⟩ : ∃ n : Int, 0 ≤ n ∧ Hid (Lib.indexByte [34, 10] (((s[i]).toNat : Int)).toNat.toUInt8 = n) := ⟨_, hix', Lib.hid rfl⟩
            clear hq hix hix'
            go_wp2_with (go_at_call 149; refine (Tryz.strings_IndexRune_ascii _ _ _ (by omega) (by omega)).mono ?_; rintro e w' ⟨rfl, rfl⟩; rw [show Lib.indexByte (⟨#[34, 10]⟩ : ByteArray).data.toList (((s[i]).toNat : Int)).toNat.toUInt8 = n from HX.out])
            go_ret
            exact ⟨ret_int (indexAny_at HN.out HS.out HQ.out).symm, HB1.out⟩
          · have hix' : Lib.indexByte [34, 10] (((s[i]).toNat : Int)).toNat.toUInt8 = -1 := by
              have e := quoteEnd_eq s[i]
              rw [show quoteEnd s[i] = false by simpa using hq] at e
              have e' : ¬ s[i] = 34 ∧ ¬ s[i] = 10 := by simpa using e
              simp [Lib.indexByte, Ne.symm e'.1, Ne.symm e'.2]
            have HX := Lib.hid hix'
            have HQ := Lib.hid (show quoteEnd s[i] = false by simpa using hq)
            clear hq hix'
            go_wp2_with (go_at_call 149; refine (Tryz.strings_IndexRune_ascii _ _ _ (by omega) (by omega)).mono ?_; rintro e w' ⟨rfl, rfl⟩; rw [show Lib.indexByte (⟨#[34, 10]⟩ : ByteArray).data.toList (((s[i]).toNat : Int)).toNat.toUInt8 = -1 from HX.out])
            go_roundg (s.size - (i + 1))
            case rel =>
              refine ⟨i + 1, by omega, rfl, HB1, HI1, Lib.hid (fun j b hj hb => ?_)⟩
              rcases Nat.lt_or_ge j i with h | h
              · exact HN.out j b h hb
              · obtain rfl : j = i := by omega
                rw [HS.out] at hb
                cases hb
                exact HQ.out
            case measure => omega
        · have ha' : 128 ≤ (s[i]).toNat := by omega
          obtain ⟨d1, d2⟩ := decode_high s i hlt ha'
          have d3 := decode_le s i
          have HD := Lib.hid (decode_bytes s i hlt ha')
          have hnx : ∀ ty, (Instr.next (.pointer (some ⟨w.heap.size, 0, none⟩)) true ty).run Tryz.prog wr = .ok (.tuple #[.bool true, .int .i64 i, .int .i32 ((Utf8.decode s i).1 : Int)]) (setIter wr w.heap.size s (i + (Utf8.decode s i).2)) := fun ty => run_next_gen (P := Tryz.prog) wr w.heap.size s i ty HI.out hlt
          generalize (Utf8.decode s i).2 = n at *
          generalize (Utf8.decode s i).1 = r at *
          have hin : i + n ≤ s.size := by
            obtain ⟨h, _⟩ := HD.out (i + n - 1) (by omega) (by omega)
            omega
          have HB1 := Lib.hid (setIter_below HB.out (Nat.le_refl _) s (i + n))
          have HI1 := Lib.hid (setIter_at (W := wr) (b := w.heap.size) s (i + n) hwl)
          have hz1 : w.heap.size < (setIter wr w.heap.size s (i + n)).heap.size := by rw [setIter_size]; exact hwl
          generalize setIter wr w.heap.size s (i + n) = w1 at *
          go_wp2_with (go_at_call 149; refine (indexRune_high _ (by omega) (by omega) _).mono ?_; rintro e w2 ⟨rfl, hb2⟩; have HB2 := Lib.hid hb2; clear hb2)
          go_roundg (s.size - (i + n))
          case rel =>
            refine ⟨i + n, hin, rfl, Lib.hid (HB1.out.trans (HB2.out.mono HB1.out.size)), Lib.hid ((HB2.out.block _ hz1).trans HI1.out), Lib.hid (fun j b hj hb => ?_)⟩
            rcases Nat.lt_or_ge j i with h | h
            · exact HN.out j b h hb
            · obtain ⟨hj', h128⟩ := HD.out j h hj
              rw [get_list s j hj'] at hb
              cases hb
              unfold quoteEnd
              have e1 : s[j] ≠ 34 := fun e => by rw [e] at h128; exact absurd h128 (by decide)
              have e2 : s[j] ≠ 10 := fun e => by rw [e] at h128; exact absurd h128 (by decide)
              simp [e1, e2]
          case measure => omega
      · have hnx := fun ty => run_next_stop (P := Tryz.prog) wr w.heap.size s i ty HI.out hlt
        go_wp2
        go_ret
        exact ⟨ret_int (indexAny_none (by rw [size_list, show s.size = i by omega]; exact HN.out)).symm, HB.out⟩
end Go.Proofs.YtnbolgdccdnjeaaGreatDoor
/- The functions that find where a gap or a token ends. -/
namespace Go.Proofs.YtnbolgdccdnjeaaGreatDoor
open Go.RowKit
theorem clsI_byte (c : UInt8) : clsI c.toNat = (Np.cls c : Int) := by
  unfold clsI
  rw [show UInt8.ofNat c.toNat = c by simp]
/-- The table of classes. -/
def TabAt (bo : Nat) (w : World) : Prop := w.heap[bo]? = some (.cells (tabArr clsI) 110)
theorem TabAt.keep {bo B : Nat} {w w' : World} (h : TabAt bo w) (hb : Below B w w') (hB : bo < B) : TabAt bo w' := (hb.block _ hB).trans h
theorem TabAt.cell {bo : Nat} {w : World} (h : TabAt bo w) (c : UInt8) : w.cell? ⟨bo, c.toNat, none⟩ = some (.int .i64 (Np.cls c)) := by
  unfold World.cell?
  rw [h]
  simp only [Option.isSome_none, Bool.false_eq_true, ↓reduceIte]
  rw [tabArr_get _ _ (UInt8.toNat_lt c), clsI_byte]
theorem TabAt.lt {bo : Nat} {w : World} (h : TabAt bo w) : bo < w.heap.size := (Array.getElem?_eq_some_iff.1 h).1
/-- All that endings laid, and the table. -/
structure Ends (N bo : Nat) (s : ByteArray) (w : World) : Prop where
  at_ : EndsAt N s bo w
  tab : TabAt bo w
  lt : N + 1 + 1 + 1 < w.heap.size
theorem Ends.keep {N bo : Nat} {s : ByteArray} {w w' : World} (h : Ends N bo s w) (hb : Below w.heap.size w w') : Ends N bo s w' :=
  ⟨h.at_.keep hb h.lt, h.tab.keep hb h.tab.lt, Nat.lt_of_lt_of_le h.lt hb.size⟩
theorem runs_snoc {l : List UInt8} {p k : Nat} {c : UInt8} (hc : l[k]? = some c) (hp : p ≤ k) (h : ∀ j b, p ≤ j → j < k → l[j]? = some b → Np.isRun b = true) (hr : Np.isRun c = true) : ∀ j b, p ≤ j → j < k + 1 → l[j]? = some b → Np.isRun b = true := fun j b hj hj2 hb => by
  rcases Nat.lt_or_ge j k with h1 | h1
  · exact h j b hj h1 hb
  · obtain rfl : j = k := by omega
    rw [hc] at hb; cases hb; exact hr
theorem takeWhile_at {p : UInt8 → Bool} : ∀ {l : List UInt8} {k : Nat}, k ≤ l.length → (∀ j b, j < k → l[j]? = some b → p b = true) → (∀ b, l[k]? = some b → p b = false) → (l.takeWhile p).length = k
  | [], k, hk, _, _ => by simp at hk; subst hk; rfl
  | c :: l, 0, _, _, h2 => by simp [h2 c rfl]
  | c :: l, k + 1, hk, h1, h2 => by
    have := takeWhile_at (p := p) (l := l) (k := k) (by simpa using hk) (fun j b hj hb => h1 (j + 1) b (by omega) (by simpa using hb)) (fun b hb => h2 b (by simpa using hb))
    simp [h1 0 c (by omega) rfl, this]
theorem run_len {l : List UInt8} {p k : Nat} (hk : k ≤ l.length) (hp : p ≤ k) (h : ∀ j b, p ≤ j → j < k → l[j]? = some b → Np.isRun b = true) (hs : ∀ b, l[k]? = some b → Np.isRun b = false) : p + ((l.drop p).takeWhile Np.isRun).length = k := by
  rw [takeWhile_at (k := k - p) (by simp; omega) (fun j b hj hb => h (p + j) b (by omega) (by omega) (by simpa using hb)) (fun b hb => hs b (by rw [List.getElem?_drop] at hb; rwa [show p + (k - p) = k by omega] at hb))]
  omega
set_option maxRecDepth 100000 in
set_option maxHeartbeats 1000000 in
theorem run_any (N bo : Nat) (s : ByteArray) (hs : s.size ≤ 100000) (p : Nat) (hp : p ≤ s.size) (w : World) (hE : Ends N bo s w) :
    Calls Tryz.prog 111 #[.int .i64 p, .pointer (some ⟨N, 0, none⟩), .pointer (some ⟨N + 1, 0, none⟩)] w fun e w' => e = .returned (.int .i64 ((p + ((s.data.toList.drop p).takeWhile Np.isRun).length : Nat) : Int)) ∧ Below w.heap.size w w' := by
  have HE := Lib.hid hE
  clear hE
  go_enter Tryz.func111, Tryz.ntmps111
  go_wp2_with fail
  go_loopw [0, 5] (fun i _ wr => ∃ k : Nat, p ≤ k ∧ k ≤ s.size ∧ i = .int .i64 k ∧ Hid (Below w.heap.size w wr) ∧ Hid (∀ j b, p ≤ j → j < k → s.data.toList[j]? = some b → Np.isRun b = true)) (fun i _ _ => s.size - (intOf i).toNat)
  case atStart => exact ⟨p, Nat.le_refl _, hp, rfl, Lib.hid (Below.refl _ _), Lib.hid (fun j b h1 h2 => by omega)⟩
  case round =>
    obtain ⟨k, hpk, hk, rfl, HB, HA⟩ := hrel
    have hE := HE.out.keep HB.out
    have c0 : wr.cell? ⟨N, 0, none⟩ = some (.string s) := hE.at_.src
    have c1 : wr.cell? ⟨N + 1, 0, none⟩ = some (.pointer (some ⟨bo, 0, none⟩)) := hE.at_.tab
    by_cases hlt : k < s.size
    · have HS := Lib.hid (get_list s k hlt)
      have c2 : wr.cell? ⟨bo, (s[k]).toNat, none⟩ = some (.int .i64 (Np.cls s[k])) := hE.tab.cell s[k]
      have h256 : ((s[k]).toNat : Int) < 256 := by have := UInt8.toNat_lt s[k]; omega
      have h0 : (0 : Int) ≤ ((s[k]).toNat : Int) := by omega
      have hkI : (k : Int) < (s.size : Int) := by omega
      have hk0 : (0 : Int) ≤ (k : Int) := by omega
      clear hE
      go_wp2_with fail
      go_quiet (fail)
      by_cases hr : Np.isRun s[k] = true
      · have HR := Lib.hid hr
        have hrr : Np.cls s[k] = 3 ∨ Np.cls s[k] = 4 ∨ Np.cls s[k] = 5 := by simp [Np.isRun] at hr; omega
        clear hr
        rcases hrr with h | h | h
        all_goals
          rw [h]
          clear h
          go_wp2_with fail
          go_roundw
          case rel => exact ⟨k + 1, by omega, by omega, by go_num, Lib.hid (below_drewN HB.out _), Lib.hid (runs_snoc HS.out hpk HA.out HR.out)⟩
          case measure => simp [intOf] <;> omega
      · have HR := Lib.hid (show Np.isRun s[k] = false by simpa using hr)
        have hrr : ((Np.cls s[k] : Int) != 3) = true ∧ ((Np.cls s[k] : Int) != 4) = true ∧ ((Np.cls s[k] : Int) != 5) = true := by simp [Np.isRun] at hr; simp; omega
        obtain ⟨r3, r4, r5⟩ := hrr
        clear hr
        go_wp2_with fail
        go_ret
        exact ⟨ret_int (by rw [run_len (k := k) (by rw [size_list]; omega) hpk HA.out (fun b hb => by rw [HS.out] at hb; cases hb; exact HR.out)]), below_drewN HB.out _⟩
    · have : k = s.size := by omega
      subst this
      clear hE
      go_wp2_with fail
      go_ret
      exact ⟨ret_int (by rw [run_len (k := s.size) (by rw [size_list]; omega) hpk HA.out (fun b hb => by rw [List.getElem?_eq_none (by rw [size_list]; omega)] at hb; cases hb)]), HB.out⟩
theorem indexByte_take (l : List UInt8) : Lib.indexByte l 10 = if (l.takeWhile Np.notEnd).length = l.length then -1 else ((l.takeWhile Np.notEnd).length : Int) := by
  induction l with
  | nil => rfl
  | cons b l ih =>
    rw [Lib.indexByte]
    by_cases hb : b = 10
    · subst hb; simp [Np.notEnd]
    · have hb' : Np.notEnd b = true := by simp [Np.notEnd, hb]
      rw [if_neg (by simpa using hb), ih]
      have hle : (l.takeWhile Np.notEnd).length ≤ l.length := Np.takeWhile_le l
      simp only [List.takeWhile_cons, hb', List.length_cons, ↓reduceIte]
      by_cases e : (l.takeWhile Np.notEnd).length = l.length
      · simp [e]
      · simp [e]
set_option maxRecDepth 100000 in
set_option maxHeartbeats 1000000 in
theorem comment_any (N bo : Nat) (s : ByteArray) (hs : s.size ≤ 100000) (p : Nat) (hp : p ≤ s.size) (w : World) (hE : Ends N bo s w) :
    Calls Tryz.prog 114 #[.int .i64 p, .pointer (some ⟨N, 0, none⟩)] w fun e w' => e = .returned (.int .i64 ((p + ((s.data.toList.drop p).takeWhile Np.notEnd).length : Nat) : Int)) ∧ Below w.heap.size w w' := by
  have c0 : w.cell? ⟨N, 0, none⟩ = some (.string s) := hE.at_.src
  have hpI : (p : Int) ≤ (s.size : Int) := by omega
  have hl : ((s.data.toList.drop p).takeWhile Np.notEnd).length ≤ s.size - p := by
    have := Np.takeWhile_le (p := Np.notEnd) (s.data.toList.drop p)
    rw [List.length_drop, size_list] at this; exact this
  have HI : Hid (Lib.indexByte (s.extract p s.size).data.toList 10 = if ((s.data.toList.drop p).takeWhile Np.notEnd).length = s.size - p then -1 else (((s.data.toList.drop p).takeWhile Np.notEnd).length : Int)) := Lib.hid (by rw [ext_from, indexByte_take, List.length_drop, size_list])
  generalize ((s.data.toList.drop p).takeWhile Np.notEnd).length = n at *
  clear hE
  by_cases hn : n = s.size - p
  · have HN := Lib.hid (HI.out.trans (if_pos hn))
    have HQ := Lib.hid hn
    clear hn HI
    go_enter Tryz.func114, Tryz.ntmps114
    go_wp2_with (go_at_call 115; refine (Tryz.strings_IndexByte _ _ _).mono ?_; rintro e w' ⟨rfl, rfl⟩; rw [show Lib.indexByte (s.extract p s.size).data.toList (10 : Int).toNat.toUInt8 = -1 from HN.out])
    go_ret
    exact ⟨ret_int (by have := HQ.out; omega), Below.refl _ _⟩
  · have HN := Lib.hid (HI.out.trans (if_neg hn))
    clear hn HI
    go_enter Tryz.func114, Tryz.ntmps114
    go_wp2_with (go_at_call 115; refine (Tryz.strings_IndexByte _ _ _).mono ?_; rintro e w' ⟨rfl, rfl⟩; rw [show Lib.indexByte (s.extract p s.size).data.toList (10 : Int).toNat.toUInt8 = (n : Int) from HN.out])
    go_ret
    exact ⟨ret_int (by omega), Below.refl _ _⟩
theorem inText_eq (l : List UInt8) : (l.takeWhile fun c => !quoteEnd c) = l.takeWhile Np.inText := by
  congr 1
  funext c
  show (!(c == 34 || c == 10)) = (!(c == 34) && !(c == 10))
  cases c == 34 <;> cases c == 10 <;> rfl
set_option maxRecDepth 100000 in
set_option maxHeartbeats 1000000 in
theorem quote_any (N bo : Nat) (s : ByteArray) (hs : s.size ≤ 100000) (p : Nat) (hp : p < s.size) (w : World) (hE : Ends N bo s w) :
    Calls Tryz.prog 117 #[.int .i64 p, .pointer (some ⟨N, 0, none⟩)] w fun e w' => e = .returned (.int .i64 ((p + Np.quoteW (s.data.toList.drop (p + 1)) : Nat) : Int)) ∧ Below w.heap.size w w' := by
  have c0 : w.cell? ⟨N, 0, none⟩ = some (.string s) := hE.at_.src
  have hpI : (p : Int) + 1 ≤ (s.size : Int) := by omega
  have hl : ((s.data.toList.drop (p + 1)).takeWhile Np.inText).length ≤ s.size - (p + 1) := by
    have := Np.takeWhile_le (p := Np.inText) (s.data.toList.drop (p + 1))
    rw [List.length_drop, size_list] at this; exact this
  have HI : Hid (Lib.indexAny (s.extract (p + 1) s.size).data.toList [34, 10] = if ((s.data.toList.drop (p + 1)).takeWhile Np.inText).length = s.size - (p + 1) then -1 else (((s.data.toList.drop (p + 1)).takeWhile Np.inText).length : Int)) := Lib.hid (by rw [ext_from, indexAny_take, List.length_drop, size_list, inText_eq])
  have HQ : Hid (Np.quoteW (s.data.toList.drop (p + 1)) = if 1 ≤ ((s.data.toList.drop (p + 1)).takeWhile Np.inText).length ∧ s.data.toList[p + 1 + ((s.data.toList.drop (p + 1)).takeWhile Np.inText).length]? = some 34 then ((s.data.toList.drop (p + 1)).takeWhile Np.inText).length + 2 else 0) := Lib.hid (by unfold Np.quoteW; rw [List.getElem?_drop])
  generalize ((s.data.toList.drop (p + 1)).takeWhile Np.inText).length = n at *
  have HE := Lib.hid hE
  clear hE
  by_cases hn : n = s.size - (p + 1)
  · have HN := Lib.hid (HI.out.trans (if_pos hn))
    have HZ : Hid (Np.quoteW (s.data.toList.drop (p + 1)) = 0) := Lib.hid (HQ.out.trans (if_neg (fun h => by rw [List.getElem?_eq_none (by rw [size_list]; omega)] at h; cases h.2)))
    clear hn HI HQ
    go_enter Tryz.func117, Tryz.ntmps117
    go_wp2_with (go_at_call 118; refine (indexAny_q (s.extract (p + 1) s.size) (by rw [ByteArray.size_extract]; omega) _).mono ?_; rintro e w1 ⟨rfl, hb⟩; rw [HN.out]; have HB := Lib.hid hb; clear hb)
    go_ret
    exact ⟨ret_int (by rw [HZ.out]; omega), HB.out⟩
  · have HN := Lib.hid (HI.out.trans (if_neg hn))
    have hlt : p + 1 + n < s.size := by omega
    have HS := Lib.hid (get_list s (p + 1 + n) hlt)
    have hltI : (p : Int) + 1 + n < s.size := by omega
    clear hn HI
    by_cases hn1 : n < 1
    · have HZ : Hid (Np.quoteW (s.data.toList.drop (p + 1)) = 0) := Lib.hid (HQ.out.trans (if_neg (fun h => by omega)))
      go_enter Tryz.func117, Tryz.ntmps117
      go_wp2_with (go_at_call 118; refine (indexAny_q (s.extract (p + 1) s.size) (by rw [ByteArray.size_extract]; omega) _).mono ?_; rintro e w1 ⟨rfl, hb⟩; rw [HN.out]; obtain ⟨c1, f1⟩ := bcell hb; have HB := Lib.hid hb; clear hb)
      go_ret
      exact ⟨ret_int (by rw [HZ.out]; omega), HB.out⟩
    · have hnI : ¬ (n : Int) < 1 := by omega
      by_cases hq : s[p + 1 + n] = 34
      · have HZ : Hid (Np.quoteW (s.data.toList.drop (p + 1)) = n + 2) := Lib.hid (HQ.out.trans (if_pos ⟨by omega, by rw [HS.out, hq]⟩))
        have hqb : ((s[p + 1 + n].toNat : Int) != 34) = false := by rw [hq]; rfl
        clear hq
        go_enter Tryz.func117, Tryz.ntmps117
        go_wp2_with (go_at_call 118; refine (indexAny_q (s.extract (p + 1) s.size) (by rw [ByteArray.size_extract]; omega) _).mono ?_; rintro e w1 ⟨rfl, hb⟩; rw [HN.out]; have c1 : w1.cell? ⟨N, 0, none⟩ = some (.string s) := (HE.out.keep hb).at_.src; have HB := Lib.hid hb; clear hb)
        go_ret
        exact ⟨ret_int (by rw [HZ.out]; omega), HB.out⟩
      · have HZ : Hid (Np.quoteW (s.data.toList.drop (p + 1)) = 0) := Lib.hid (HQ.out.trans (if_neg (fun h => by rw [HS.out] at h; exact hq (Option.some.inj h.2))))
        have hqb : ((s[p + 1 + n].toNat : Int) != 34) = true := by
          simp only [bne_iff_ne, ne_eq]
          intro e
          have e2 : s[p + 1 + n].toNat = 34 := by omega
          exact hq (UInt8.toNat_inj.1 (by rw [e2]; rfl))
        clear hq
        go_enter Tryz.func117, Tryz.ntmps117
        go_wp2_with (go_at_call 118; refine (indexAny_q (s.extract (p + 1) s.size) (by rw [ByteArray.size_extract]; omega) _).mono ?_; rintro e w1 ⟨rfl, hb⟩; rw [HN.out]; have c1 : w1.cell? ⟨N, 0, none⟩ = some (.string s) := (HE.out.keep hb).at_.src; have HB := Lib.hid hb; clear hb)
        all_goals
          go_ret
          exact ⟨ret_int (by rw [HZ.out]; omega), HB.out⟩
set_option maxRecDepth 100000 in
set_option maxHeartbeats 1000000 in
theorem dot_any (N bo : Nat) (s : ByteArray) (hs : s.size ≤ 100000) (p : Nat) (hp : p < s.size) (w : World) (hE : Ends N bo s w) :
    Calls Tryz.prog 116 #[.int .i64 p, .pointer (some ⟨N + 1 + 1, 0, none⟩)] w fun e w' => e = .returned (.int .i64 ((p + (if ((s.data.toList.drop p).takeWhile Np.isRun).length = 1 then 1 else 0) : Nat) : Int)) ∧ Below w.heap.size w w' := by
  have c0 : w.cell? ⟨N + 1 + 1, 0, none⟩ = some (.func (.func 111) #[] #[.pointer (some ⟨N, 0, none⟩), .pointer (some ⟨N + 1, 0, none⟩)]) := hE.at_.run
  have hpI : (p : Int) ≤ (s.size : Int) := by omega
  have HE := Lib.hid hE
  have HR := Lib.hid (run_any N bo s hs p (by omega) w hE)
  generalize ((s.data.toList.drop p).takeWhile Np.isRun).length = n at *
  clear hE
  by_cases hn : n = 1
  · subst hn
    go_enter Tryz.func116, Tryz.ntmps116
    go_wp2_with (go_at_call 111; refine HR.out.mono ?_; rintro e w1 ⟨rfl, hb⟩; have HB := Lib.hid hb; clear hb)
    go_ret
    exact ⟨ret_int (by simp), HB.out⟩
  · have hnb : (((p + n : Nat) : Int) == (p : Int) + 1) = false := by simp; omega
    have hnb2 : ((p : Int) + (n : Int) == (p : Int) + 1) = false := by simp; omega
    have hX : (if n = 1 then 1 else 0) = 0 := if_neg hn
    generalize (if n = 1 then 1 else 0) = d at hX ⊢
    have HX := Lib.hid hX
    clear hn hX
    go_enter Tryz.func116, Tryz.ntmps116
    go_wp2_with (go_at_call 111; refine HR.out.mono ?_; rintro e w1 ⟨rfl, hb⟩; have HB := Lib.hid hb; clear hb)
    go_ret
    exact ⟨ret_int (by rw [HX.out]; simp), HB.out⟩
end Go.Proofs.YtnbolgdccdnjeaaGreatDoor
/- A call of a function that was found in the map. -/
namespace Go.Proofs.YtnbolgdccdnjeaaGreatDoor
open Go.RowKit Go.Shelf
theorem none_any (p : Int) (w : World) : Calls Tryz.prog 112 #[.int .i64 p] w fun e w' => e = .returned (.int .i64 p) ∧ Below w.heap.size w w' := by
  go_enter Tryz.func112, Tryz.ntmps112
  go_wp2_with fail
  go_ret
  exact ⟨rfl, Below.refl _ _⟩
theorem one_any (p : Nat) (hp : p ≤ 100000) (w : World) : Calls Tryz.prog 113 #[.int .i64 p] w fun e w' => e = .returned (.int .i64 ((p + 1 : Nat) : Int)) ∧ Below w.heap.size w w' := by
  go_enter Tryz.func113, Tryz.ntmps113
  go_wp2_with fail
  go_ret
  exact ⟨ret_int (by omega), Below.refl _ _⟩
/-- The function for the class of the byte at p finds the end of what begins there. -/
theorem end_call (N bo : Nat) (s : ByteArray) (hs : s.size ≤ 100000) (p : Nat) (hp : p < s.size) (w : World) (hE : Ends N bo s w) :
    ∃ f cap, endFn N (Np.cls s[p]) = .func (.func f) #[] cap ∧ (∀ args w, (callFunc f args).run Tryz.prog w = .ok (.enter f args) w) ∧
      Calls Tryz.prog f (#[.int .i64 p] ++ cap) w fun e w' => e = .returned (.int .i64 ((p + Np.width (s.data.toList.drop p) : Nat) : Int)) ∧ Below w.heap.size w w' := by
  have hd : s.data.toList.drop p = s[p] :: s.data.toList.drop (p + 1) := List.drop_eq_getElem_cons (by rw [size_list]; exact hp)
  have h7 := Np.cls_lt s[p]
  rcases (by omega : Np.cls s[p] = 0 ∨ Np.cls s[p] = 1 ∨ Np.cls s[p] = 2 ∨ Np.cls s[p] = 3 ∨ Np.cls s[p] = 4 ∨ Np.cls s[p] = 5 ∨ Np.cls s[p] = 6 ∨ Np.cls s[p] = 7) with h | h | h | h | h | h | h | h
  · rw [h]
    refine ⟨112, #[], rfl, enters_of Tryz.func112 (by kernel_rfl) rfl, ?_⟩
    rw [hd, Np.width, h]
    exact none_any _ _
  · rw [h]
    refine ⟨113, #[], rfl, enters_of Tryz.func113 (by kernel_rfl) rfl, ?_⟩
    rw [hd, Np.width, h]
    exact one_any p (by omega) _
  · rw [h]
    refine ⟨114, #[.pointer (some ⟨N, 0, none⟩)], rfl, enters_of Tryz.func114 (by kernel_rfl) rfl, ?_⟩
    rw [hd, Np.width, h, ← hd]
    exact comment_any N bo s hs p (by omega) w hE
  · rw [h]
    refine ⟨111, #[.pointer (some ⟨N, 0, none⟩), .pointer (some ⟨N + 1, 0, none⟩)], rfl, enters_of Tryz.func111 (by kernel_rfl) rfl, ?_⟩
    rw [hd, Np.width, h, ← hd]
    exact run_any N bo s hs p (by omega) w hE
  · rw [h]
    refine ⟨112, #[], rfl, enters_of Tryz.func112 (by kernel_rfl) rfl, ?_⟩
    rw [hd, Np.width, h]
    exact none_any _ _
  · rw [h]
    refine ⟨116, #[.pointer (some ⟨N + 1 + 1, 0, none⟩)], rfl, enters_of Tryz.func116 (by kernel_rfl) rfl, ?_⟩
    rw [hd, Np.width, h, ← hd]
    exact dot_any N bo s hs p hp w hE
  · rw [h]
    refine ⟨117, #[.pointer (some ⟨N, 0, none⟩)], rfl, enters_of Tryz.func117 (by kernel_rfl) rfl, ?_⟩
    rw [hd, Np.width, h]
    exact quote_any N bo s hs p hp w hE
  · rw [h]
    refine ⟨113, #[], rfl, enters_of Tryz.func113 (by kernel_rfl) rfl, ?_⟩
    rw [hd, Np.width, h]
    exact one_any p (by omega) _
end Go.Proofs.YtnbolgdccdnjeaaGreatDoor
/- Digits, plain: what Trim leaves of a text, and what Atoi makes of it. -/
namespace Go.Proofs.YtnbolgdccdnjeaaGreatDoor
open Go
def digits : List UInt8 := [48, 49, 50, 51, 52, 53, 54, 55, 56, 57]
theorem digits_eq (c : UInt8) : digits.contains c = Np.isDig c := by
  have h : ∀ n : Fin 256, digits.contains (UInt8.ofNat n.val) = Np.isDig (UInt8.ofNat n.val) := by decide +kernel
  have := h ⟨c.toNat, UInt8.toNat_lt c⟩
  simpa using this
theorem dropWhile_nil {p : UInt8 → Bool} : ∀ {l : List UInt8}, l.dropWhile p = [] ↔ l.all p = true
  | [] => by simp
  | c :: l => by
    rw [List.dropWhile_cons]
    split
    · rename_i h; rw [dropWhile_nil (l := l)]; simp [h]
    · rename_i h; simp [h]
theorem trim_nil (l : List UInt8) : Lib.trimS l digits = [] ↔ l.all Np.isDig = true := by
  have hf : (digits.contains ·) = Np.isDig := funext digits_eq
  unfold Lib.trimS Lib.trimLeftS Lib.trimRightS
  rw [hf, dropWhile_nil]
  constructor
  · intro h
    rw [List.all_reverse] at h
    have h2 : (l.reverse.dropWhile Np.isDig) = [] := by
      cases hd : l.reverse.dropWhile Np.isDig with
      | nil => rfl
      | cons a r =>
        rw [hd] at h
        have h3 := List.head_dropWhile_not Np.isDig (l := l.reverse) (by rw [hd]; simp)
        simp only [hd, List.head_cons] at h3
        simp at h
        rw [h.1] at h3
        cases h3
    rw [dropWhile_nil, List.all_reverse] at h2
    exact h2
  · intro h
    have : l.reverse.dropWhile Np.isDig = [] := by rw [dropWhile_nil, List.all_reverse]; exact h
    rw [this]; rfl
def decFrom (a : Nat) (l : List UInt8) : Nat := l.foldl (fun a c => 10 * a + (c.toNat - 48)) a
theorem decFrom_ge : ∀ (l : List UInt8) (a : Nat), a ≤ decFrom a l
  | [], _ => Nat.le_refl _
  | c :: l, a => by
    have := decFrom_ge l (10 * a + (c.toNat - 48))
    simp only [decFrom, List.foldl_cons] at this ⊢
    omega
theorem isDig_iff (c : UInt8) : Np.isDig c = true ↔ 48 ≤ c.toNat ∧ c.toNat ≤ 57 := by
  simp [Np.isDig, UInt8.le_iff_toNat_le]
theorem parse_digits : ∀ (l : List UInt8) (a : Nat), l.all Np.isDig = true → a < 18446744073709551616 → Lib.parseUint10 a l = if decFrom a l < 18446744073709551616 then .ok (decFrom a l) else .range
  | [], a, _, ha => by
    rw [Lib.parseUint10, if_pos (by exact ha)]; rfl
  | c :: l, a, h, ha => by
    simp only [List.all_cons, Bool.and_eq_true] at h
    have hc := (isDig_iff c).1 h.1
    have hd : decFrom a (c :: l) = decFrom (10 * a + (c.toNat - 48)) l := rfl
    have hge := decFrom_ge l (10 * a + (c.toNat - 48))
    rw [Lib.parseUint10, if_pos hc, hd]
    split
    · rename_i h1
      rw [if_neg (by omega)]
    · split
      · rename_i h1 h2
        rw [if_neg (by omega)]
      · rename_i h1 h2
        rw [show a * 10 + (c.toNat - 48) = 10 * a + (c.toNat - 48) by omega] at h2 ⊢
        exact parse_digits l _ h.2 (by omega)
theorem atoi_digits {l : List UInt8} (h : l.all Np.isDig = true) (hne : l ≠ []) : Lib.atoiAll l = if Np.dec l < 9223372036854775808 then .ok (Np.dec l : Int) else .range := by
  cases l with
  | nil => exact absurd rfl hne
  | cons c r =>
    have hc := (isDig_iff c).1 (by simp only [List.all_cons, Bool.and_eq_true] at h; exact h.1)
    have hp := parse_digits (c :: r) 0 h (by omega)
    have hd : decFrom 0 (c :: r) = Np.dec (c :: r) := rfl
    rw [hd] at hp
    unfold Lib.atoiAll
    simp only
    rw [if_neg (show ¬ (c.toNat = 43 ∨ c.toNat = 45) by omega)]
    unfold Lib.parseMag
    rw [if_neg hne, hp]
    by_cases h1 : Np.dec (c :: r) < 18446744073709551616
    · rw [if_pos h1]
      simp only
      by_cases h2 : Np.dec (c :: r) < 9223372036854775808
      · rw [if_neg (by omega), if_neg (by omega), if_neg (by omega), if_pos h2]
      · rw [if_pos (by omega), if_neg h2]
    · rw [if_neg h1, if_neg (by omega)]
end Go.Proofs.YtnbolgdccdnjeaaGreatDoor
/- lexer.token. -/
namespace Go.Proofs.YtnbolgdccdnjeaaGreatDoor
open Go.RowKit
/-- strconv.ErrRange holds an error. -/
def ErrIn (w : World) : Prop := ∃ tp p, w.var? Tryz.prog "strconv.ErrRange" = some #[.iface tp p]
theorem gErr : Tryz.prog.globalNamed "strconv.ErrRange" = some 4 := by kernel_rfl
theorem ErrIn.keep {w w' : World} (h : ErrIn w) (hb : Below w.heap.size w w') : ErrIn w' := by
  obtain ⟨tp, p, h⟩ := h
  refine ⟨tp, p, ?_⟩
  unfold World.var? at h ⊢
  rw [gErr] at h ⊢
  simp only [Option.bind_some] at h ⊢
  have hg : 4 < w.heap.size := by
    cases hh : w.heap[4]? with
    | none => rw [hh] at h; cases h
    | some o => exact (Array.getElem?_eq_some_iff.1 hh).1
  rw [hb.block _ hg]; exact h
def bytesOf (l : List UInt8) : ByteArray := ⟨l.toArray⟩
/-- A token's cells. -/
def tokVal (t : Np.Tok) : Array Value := #[.int .i64 t.kind, .string (bytesOf t.text), .int .i64 t.n, .int .i64 t.pos]
theorem tok_ret {k : Int} {t : Np.Tok} {x : Int × Np.Tok} {vk : Int} {vs : ByteArray} {vn : Int} (h : x = (k, t)) (h1 : vk = t.kind) (h2 : vs = bytesOf t.text) (h3 : vn = t.n) (h4 : t.pos = 0) : (Value.tuple #[.agg #[.int .i64 vk, .string vs, .int .i64 vn, .int .i64 0], .int .i64 k]) = .tuple #[.agg (tokVal x.2), .int .i64 x.1] := by
  subst h h1 h2 h3; simp [tokVal, h4]
theorem bytesOf_list (s : ByteArray) : bytesOf s.data.toList = s := by cases s; simp [bytesOf]
theorem trim_digits (s : ByteArray) (hs : s.size ≤ 100000) (w : World) :
    Calls Tryz.prog 119 #[.string s, .string ⟨#[48, 49, 50, 51, 52, 53, 54, 55, 56, 57]⟩] w fun e w' => e = .returned (.string (bytesOf (Lib.trimS s.data.toList digits))) ∧ Below w.heap.size w w' :=
  Any.strings_Trim_laid Tryz.lays160 (by kernel_rfl) s ⟨#[48, 49, 50, 51, 52, 53, 54, 55, 56, 57]⟩ w (by omega) (by decide) (ascii_of_all (by decide))
theorem bytesOf_nil {l : List UInt8} (h : l ≠ []) : (bytesOf l).toList.isEmpty = false := by
  rw [ByteArray.toList_eq]; simp [bytesOf, h]
set_option maxRecDepth 100000 in
set_option maxHeartbeats 2000000 in
theorem token_any (k : Nat) (s : ByteArray) (hs : s.size ≤ 100000) (h0 : 0 < s.size) (w : World) (hE : ErrIn w) :
    Calls Tryz.prog 68 #[.int .i64 k, .string s] w fun e w' => e = .returned (.tuple #[.agg (tokVal (Np.tokOf k s.data.toList).2), .int .i64 (Np.tokOf k s.data.toList).1]) ∧ Below w.heap.size w w' := by
  have HE := Lib.hid hE
  clear hE
  have hb1 : ∀ o, Below w.heap.size w (w.alloc o) := fun o => (Below.refl _ w).alloc (Nat.le_refl _) _
  have HB1 := Lib.hid hb1
  clear hb1
  by_cases h7 : k = 7
  · subst h7
    have HT : Hid (Np.tokOf 7 s.data.toList = (0, ⟨3, s.data.toList, 0, 0⟩)) := Lib.hid rfl
    generalize Np.tokOf 7 s.data.toList = x at *
    go_enter Tryz.func68, Tryz.ntmps68
    go_wp2_with fail
    refine bodyPost_ret (v := .tuple #[.agg #[.int .i64 3, .string s, .int .i64 0, .int .i64 0], .int .i64 0]) (by simp [results, Tryz.results68, go_sem]) rfl ⟨?_, ?_⟩
    · rw [tok_ret HT.out rfl (bytesOf_list s).symm rfl rfl]
    · exact HB1.out _
  · have h7' : ((k : Int) == 7) = false := by simp; omega
    by_cases h6 : k = 6
    · subst h6
      by_cases hl : 42 < s.size
      · have HT : Hid (Np.tokOf 6 s.data.toList = (3, Np.Tok.zero)) := Lib.hid (by simp [Np.tokOf, hl])
        generalize Np.tokOf 6 s.data.toList = x at *
        have hl' : (40 : Int) < (s.size : Int) - 2 := by omega
        go_enter Tryz.func68, Tryz.ntmps68
        go_wp2_with fail
        refine bodyPost_ret (v := .tuple #[.agg #[.int .i64 0, .string ⟨#[]⟩, .int .i64 0, .int .i64 0], .int .i64 3]) (by simp [results, Tryz.results68, go_sem]) rfl ⟨congrArg Ending.returned (tok_ret HT.out rfl rfl rfl rfl), ?_⟩
        repeat refine Below.setCell ?_ (by simp) _
        exact HB1.out _
      · have HT : Hid (Np.tokOf 6 s.data.toList = (0, ⟨1, s.data.toList, 0, 0⟩)) := Lib.hid (by simp [Np.tokOf, hl])
        generalize Np.tokOf 6 s.data.toList = x at *
        have hl' : (s.size : Int) - 2 ≤ 40 := by omega
        go_enter Tryz.func68, Tryz.ntmps68
        go_wp2_with fail
        refine bodyPost_ret (v := .tuple #[.agg #[.int .i64 1, .string s, .int .i64 0, .int .i64 0], .int .i64 0]) (by simp [results, Tryz.results68, go_sem]) rfl ⟨congrArg Ending.returned (tok_ret HT.out rfl (bytesOf_list s).symm rfl rfl), ?_⟩
        repeat refine Below.setCell ?_ (by simp) _
        exact HB1.out _
    · have h6' : ((k : Int) == 6) = false := by simp; omega
      by_cases hd : s.data.toList.all Np.isDig = true
      · have HTR : Hid (bytesOf (Lib.trimS s.data.toList digits) = ⟨#[]⟩) := Lib.hid (by rw [(trim_nil _).2 hd]; rfl)
        have hne : s.data.toList ≠ [] := fun e => by rw [← size_list, e] at h0; simp at h0
        have HA := Lib.hid (atoi_digits hd hne)
        by_cases hz : 1 < s.size ∧ s[0] = 48
        · have HT : Hid (Np.tokOf k s.data.toList = (10, Np.Tok.zero)) := Lib.hid (by
            have : s.data.toList.head? = some 48 := by rw [head_list s h0, hz.2]
            simp [Np.tokOf, h7, h6, hd, hz.1, this])
          generalize Np.tokOf k s.data.toList = x at *
          obtain ⟨z1, z2⟩ := hz
          have z1' : (1 : Int) < (s.size : Int) := by omega
          have z3 : (((s[0]).toNat : Int) == 48) = true := by rw [z2]; rfl
          clear h7 h6 hd hne z2
          go_enter Tryz.func68, Tryz.ntmps68
          go_wp2_with (go_at_call 119; refine (trim_digits s hs _).mono ?_; rintro e w1 ⟨rfl, hb⟩; rw [HTR.out]; obtain ⟨c1, f1⟩ := bcell hb; have HB := Lib.hid ((HB1.out _).trans (hb.mono (by simp))); clear hb)
          refine bodyPost_ret (v := .tuple #[.agg #[.int .i64 0, .string ⟨#[]⟩, .int .i64 0, .int .i64 0], .int .i64 10]) (by simp [results, Tryz.results68, go_sem, c1]) rfl ⟨congrArg Ending.returned (tok_ret HT.out rfl rfl rfl rfl), ?_⟩
          repeat refine Below.setCell ?_ (by simp) _
          exact HB.out
        · have hz' : ¬ (1 < s.data.toList.length ∧ s.data.toList.head? = some 48) := fun h => hz ⟨by rw [← size_list]; exact h.1, by have := h.2; rw [head_list s h0] at this; exact Option.some.inj this⟩
          by_cases hm : 1000000000 < Np.dec s.data.toList
          · have HT : Hid (Np.tokOf k s.data.toList = (3, Np.Tok.zero)) := Lib.hid (by
              unfold Np.tokOf; rw [if_neg h7, if_neg h6, if_neg (by rw [hd]; simp), if_neg hz', if_pos hm])
            have HZF : Hid (1 < s.size → (((s[0]).toNat : Int) == 48) = false) := Lib.hid (fun h => by
              have : ¬ s[0] = 48 := fun e => hz ⟨h, e⟩
              simp only [beq_eq_false_iff_ne, ne_eq]
              intro e
              have e2 : (s[0]).toNat = 48 := by omega
              exact this (UInt8.toNat_inj.1 (by rw [e2]; rfl)))
            generalize Np.tokOf k s.data.toList = x at *
            by_cases hr : Np.dec s.data.toList < 9223372036854775808
            · have HK := Lib.hid (HA.out.trans (if_pos hr))
              generalize Np.dec s.data.toList = n at *
              have hm' : (1000000000 : Int) < (n : Int) := by omega
              clear h7 h6 hd hne hz hz' hm hr HA
              by_cases hs1 : 1 < s.size
              all_goals
                (try have hs1' : (1 : Int) < (s.size : Int) := by omega)
                (try have hs2' : (s.size : Int) ≤ 1 := by omega)
                (try have hzf := HZF.out hs1)
                go_enter Tryz.func68, Tryz.ntmps68
                go_wp2_with (first
                  | (go_at_call 119; refine (trim_digits s hs _).mono ?_; rintro e w1 ⟨rfl, hb⟩; rw [HTR.out]; obtain ⟨c1, f1⟩ := bcell hb; have l1 : w.heap.size < w1.heap.size := by { have := hb.size; simp at this; omega }; have HB := Lib.hid ((HB1.out _).trans (hb.mono (by simp))); clear hb)
                  | (go_at_call 120; refine (Tryz.strconv_Atoi_ok s (by omega) (n : Int) HK.out _).mono ?_; rintro e w2 ⟨rfl, hw⟩; have hb2 : Below w1.heap.size w1 w2 := (by rcases hw with rfl | ⟨t, rfl⟩; exact Below.refl _ _; exact below_bytes _ _ _ (Nat.le_refl _)); obtain ⟨c2, f2⟩ := bcell hb2; have HB2 := Lib.hid hb2; clear hw hb2))
                refine bodyPost_ret (v := .tuple #[.agg #[.int .i64 0, .string ⟨#[]⟩, .int .i64 0, .int .i64 0], .int .i64 3]) (by simp [results, Tryz.results68, go_sem, c1, c2, l1]) rfl ⟨congrArg Ending.returned (tok_ret HT.out rfl rfl rfl rfl), ?_⟩
                repeat refine Below.setCell ?_ (by simp) _
                exact HB.out.trans (HB2.out.mono HB.out.size)
            · have HK := Lib.hid (HA.out.trans (if_neg hr))
              obtain ⟨tp, pe, hv⟩ := HE.out.keep (HB1.out (.cells #[] 0))
              clear h7 h6 hd hne hz hz' hm hr HA hv
              by_cases hs1 : 1 < s.size
              all_goals
                (try have hs1' : (1 : Int) < (s.size : Int) := by omega)
                (try have hs2' : (s.size : Int) ≤ 1 := by omega)
                (try have hzf := HZF.out hs1)
                go_enter Tryz.func68, Tryz.ntmps68
                go_wp2_with (first
                  | (go_at_call 119; refine (trim_digits s hs _).mono ?_; rintro e w1 ⟨rfl, hb⟩; rw [HTR.out]; obtain ⟨c1, f1⟩ := bcell hb; have l1 : w.heap.size < w1.heap.size := by { have := hb.size; simp at this; omega }; have HB := Lib.hid ((HB1.out _).trans (hb.mono (by simp))); clear hb)
                  | (go_at_call 120; obtain ⟨tp, pe, hv⟩ := HE.out.keep HB.out; refine (Tryz.strconv_Atoi_range_var s (by omega) HK.out tp pe _ hv).mono ?_; clear hv; rintro e w2 ⟨n2, rfl, _, _, hb2⟩; obtain ⟨c2, f2⟩ := bcell hb2; have HB2 := Lib.hid hb2; clear hb2))
                refine bodyPost_ret (v := .tuple #[.agg #[.int .i64 0, .string ⟨#[]⟩, .int .i64 0, .int .i64 0], .int .i64 3]) (by simp [results, Tryz.results68, go_sem, c1, c2, l1]) rfl ⟨congrArg Ending.returned (tok_ret HT.out rfl rfl rfl rfl), ?_⟩
                repeat refine Below.setCell ?_ (by simp) _
                exact HB.out.trans (HB2.out.mono HB.out.size)
          · have HT : Hid (Np.tokOf k s.data.toList = (0, ⟨2, [], Np.dec s.data.toList, 0⟩)) := Lib.hid (by
              unfold Np.tokOf; rw [if_neg h7, if_neg h6, if_neg (by rw [hd]; simp), if_neg hz', if_neg hm])
            have HZF : Hid (1 < s.size → (((s[0]).toNat : Int) == 48) = false) := Lib.hid (fun h => by
              have : ¬ s[0] = 48 := fun e => hz ⟨h, e⟩
              simp only [beq_eq_false_iff_ne, ne_eq]
              intro e
              have e2 : (s[0]).toNat = 48 := by omega
              exact this (UInt8.toNat_inj.1 (by rw [e2]; rfl)))
            generalize Np.tokOf k s.data.toList = x at *
            have HK := Lib.hid (HA.out.trans (if_pos (by omega)))
            generalize Np.dec s.data.toList = n at *
            have hm' : (n : Int) ≤ 1000000000 := by omega
            clear h7 h6 hd hne hz hz' hm HA
            by_cases hs1 : 1 < s.size
            all_goals
              (try have hs1' : (1 : Int) < (s.size : Int) := by omega)
              (try have hs2' : (s.size : Int) ≤ 1 := by omega)
              (try have hzf := HZF.out hs1)
              go_enter Tryz.func68, Tryz.ntmps68
              go_wp2_with (first
                | (go_at_call 119; refine (trim_digits s hs _).mono ?_; rintro e w1 ⟨rfl, hb⟩; rw [HTR.out]; obtain ⟨c1, f1⟩ := bcell hb; have l1 : w.heap.size < w1.heap.size := by { have := hb.size; simp at this; omega }; have HB := Lib.hid ((HB1.out _).trans (hb.mono (by simp))); clear hb)
                | (go_at_call 120; refine (Tryz.strconv_Atoi_ok s (by omega) (n : Int) HK.out _).mono ?_; rintro e w2 ⟨rfl, hw⟩; have hb2 : Below w1.heap.size w1 w2 := (by rcases hw with rfl | ⟨t, rfl⟩; exact Below.refl _ _; exact below_bytes _ _ _ (Nat.le_refl _)); obtain ⟨c2, f2⟩ := bcell hb2; have HB2 := Lib.hid hb2; clear hw hb2))
              refine bodyPost_ret (v := .tuple #[.agg #[.int .i64 2, .string ⟨#[]⟩, .int .i64 n, .int .i64 0], .int .i64 0]) (by simp [results, Tryz.results68, go_sem, c1, c2, l1]) rfl ⟨congrArg Ending.returned (tok_ret HT.out rfl rfl rfl rfl), ?_⟩
              repeat refine Below.setCell ?_ (by simp) _
              exact HB.out.trans (HB2.out.mono HB.out.size)
      · have hd' : s.data.toList.all Np.isDig = false := by simpa using hd
        have hne : Lib.trimS s.data.toList digits ≠ [] := fun e => hd ((trim_nil _).1 e)
        have hte := bytesOf_nil hne
        generalize hts : bytesOf (Lib.trimS s.data.toList digits) = ts at hte
        have HTS := Lib.hid hts
        clear hts hne hd
        by_cases hl : 60 < s.size
        · have HT : Hid (Np.tokOf k s.data.toList = (3, Np.Tok.zero)) := Lib.hid (by simp [Np.tokOf, h7, h6, hd', hl])
          generalize Np.tokOf k s.data.toList = x at *
          have hl' : (60 : Int) < (s.size : Int) := by omega
          clear h7 h6 hd'
          go_enter Tryz.func68, Tryz.ntmps68
          go_wp2_with (go_at_call 119; refine (trim_digits s hs _).mono ?_; rintro e w1 ⟨rfl, hb⟩; rw [HTS.out]; obtain ⟨c1, f1⟩ := bcell hb; have HB := Lib.hid ((HB1.out _).trans (hb.mono (by simp))); clear hb)
          refine bodyPost_ret (v := .tuple #[.agg #[.int .i64 0, .string ⟨#[]⟩, .int .i64 0, .int .i64 0], .int .i64 3]) (by simp [results, Tryz.results68, go_sem, c1]) rfl ⟨congrArg Ending.returned (tok_ret HT.out rfl rfl rfl rfl), ?_⟩
          repeat refine Below.setCell ?_ (by simp) _
          exact HB.out
        · have HT : Hid (Np.tokOf k s.data.toList = (0, ⟨1, s.data.toList, 0, 0⟩)) := Lib.hid (by simp [Np.tokOf, h7, h6, hd', hl])
          generalize Np.tokOf k s.data.toList = x at *
          have hl' : (s.size : Int) ≤ 60 := by omega
          clear h7 h6 hd'
          go_enter Tryz.func68, Tryz.ntmps68
          go_wp2_with (go_at_call 119; refine (trim_digits s hs _).mono ?_; rintro e w1 ⟨rfl, hb⟩; rw [HTS.out]; obtain ⟨c1, f1⟩ := bcell hb; have HB := Lib.hid ((HB1.out _).trans (hb.mono (by simp))); clear hb)
          refine bodyPost_ret (v := .tuple #[.agg #[.int .i64 1, .string s, .int .i64 0, .int .i64 0], .int .i64 0]) (by simp [results, Tryz.results68, go_sem, c1]) rfl ⟨congrArg Ending.returned (tok_ret HT.out rfl (bytesOf_list s).symm rfl rfl), ?_⟩
          repeat refine Below.setCell ?_ (by simp) _
          exact HB.out
end Go.Proofs.YtnbolgdccdnjeaaGreatDoor
/- A map with texts as keys that the call has made: looking up, and a further key. -/
namespace Go.Proofs.YtnbolgdccdnjeaaGreatDoor
open Go.RowKit Go.MapKept
/-- The map in block r has these keys and values, in the order of their coming. -/
def MapS (r : Nat) (kvs : List (List UInt8 × Value)) (w : World) : Prop := ∃ es c, w.heap[r]? = some (.map es c) ∧ es.toList.map (fun e => (e.key, e.val)) = kvs.map fun p => (strs p.1, p.2)
theorem MapS.lt {r : Nat} {kvs : List (List UInt8 × Value)} {w : World} (h : MapS r kvs w) : r < w.heap.size := by
  obtain ⟨es, c, h, _⟩ := h
  exact (Array.getElem?_eq_some_iff.1 h).1
theorem MapS.keep {r : Nat} {kvs : List (List UInt8 × Value)} {w w' : World} {n : Nat} (h : MapS r kvs w) (hb : Below n w w') (hn : r < n) : MapS r kvs w' := by
  obtain ⟨es, c, h, h2⟩ := h
  exact ⟨es, c, (hb.block r hn).trans h, h2⟩
theorem MapS.made (w : World) : MapS w.heap.size [] (w.alloc (.map #[] 0)) := ⟨#[], 0, heap_alloc_new _ _, rfl⟩
theorem strs_beq (x y : List UInt8) : ((⟨x.toArray⟩ : ByteArray) == ⟨y.toArray⟩) = (x == y) := by
  have h : ((⟨x.toArray⟩ : ByteArray) == ⟨y.toArray⟩) = (x.toArray == y.toArray) := rfl
  rw [h, List.beq_toArray]
theorem findNow_str (x : List UInt8) : ∀ (es : List MapEntry) (kvs : List (List UInt8 × Value)) (i : Nat), es.map (fun e => (e.key, e.val)) = kvs.map (fun p => (strs p.1, p.2)) →
    (∀ v, kvs.lookup x = some v → ∃ j, Instr.findNow .string (strs x) es i = some (some (j, v))) ∧ (kvs.lookup x = none → Instr.findNow .string (strs x) es i = some none) := by
  intro es
  induction es with
  | nil =>
    intro kvs i h
    cases kvs with
    | nil => exact ⟨fun v hv => by simp at hv, fun _ => rfl⟩
    | cons => simp at h
  | cons e es ih =>
    intro kvs i h
    cases kvs with
    | nil => simp at h
    | cons p kvs =>
      obtain ⟨y, u⟩ := p
      simp only [List.map_cons, List.cons.injEq, Prod.mk.injEq] at h
      obtain ⟨⟨h1, h2⟩, h3⟩ := h
      have hs : Instr.sameNow .string (strs x) e.key = some (x == y) := by rw [h1]; simp only [Instr.sameNow]; rw [strs_beq]
      by_cases hxy : x = y
      · subst hxy
        have hb : (x == x) = true := by simp
        rw [hb] at hs
        refine ⟨fun v hv => ⟨i, ?_⟩, fun hv => ?_⟩
        · rw [List.lookup_cons_self] at hv
          simp only [Instr.findNow, hs]
          cases hv
          rw [h2]
        · rw [List.lookup_cons_self] at hv; cases hv
      · have hb : (x == y) = false := by simpa using hxy
        rw [hb] at hs
        have hl : ((y, u) :: kvs).lookup x = kvs.lookup x := by rw [List.lookup_cons, hb]
        rw [hl]
        obtain ⟨i1, i2⟩ := ih kvs (i + 1) h3
        refine ⟨fun v hv => ?_, fun hv => ?_⟩
        · obtain ⟨j, hj⟩ := i1 v hv
          exact ⟨j, by simp only [Instr.findNow, hs]; exact hj⟩
        · simp only [Instr.findNow, hs]; exact i2 hv
section
variable {P : Program} {ops : Array Oper} {rest : List Oper} {o : Oper} {a : Act} {Q : Exit → Act → World → Prop}
/-- A new key. -/
theorem wpList_update_str (w : World) (hg : o.guard = none) (m x v : Operand) (t : TypeId) (hop : o.op = Op.mapUpdate t m x v) (kt et : TypeId) (ht : P.underlying t = some (.map kt et)) (hk : P.underlying kt = some .string)
    (r : Nat) (kvs : List (List UInt8 × Value)) (hm : a.eval m = .map (some r)) (hr : MapS r kvs w) (key : List UInt8) (hx : a.eval x = strs key) (val : Value) (hv : a.eval v = val) (hno : kvs.lookup key = none)
    (hK : ∀ w', MapS r (kvs ++ [(key, val)]) w' → Turned r w w' → wpList P ops Q rest (a.put o.dst undef) w') : wpList P ops Q (o :: rest) a w := by
  obtain ⟨es, c, hr, he⟩ := hr
  have hf := (findNow_str key es.toList kvs 0 he).2 hno
  refine wpList_plain hg fun K' hK' => ?_
  have hc : (Instr.checkKey false 10000 kt (strs key)).run P w = .ok () w := MapKept.run_checkKey (k := strs key) hk (by simp [MapKept.IsKey]) false 9999
  have hrun : (Instr.mapUpdate t (.map (some r)) (strs key) val).run P w = .ok () { w with heap := w.heap.setIfInBounds r (.map (es.push { key := strs key, val := val, born := c }) (c + 1)) } := by
    simp [Instr.mapUpdate, run_underlying ht, MapKept.run_getObj_map hr, hc, MapKept.run_findKey hk hf, MapKept.run_setObj_map _ hr, Result.andThen]
  unfold Oper.wp
  simp [execOp, hop, hm, hx, hv, hrun, Result.andThen]
  have hl : r < w.heap.size := (Array.getElem?_eq_some_iff.1 hr).1
  refine hK' _ _ (hK _ ⟨_, _, by simp [hl]; exact ⟨rfl, rfl⟩, by simp [he]⟩ ⟨rfl, rfl, rfl, by simp, fun i hi => by simp [Ne.symm hi]⟩)
/-- Is a key there? -/
theorem wpList_lookup_str (w : World) (hg : o.guard = none) (m x : Operand) (t : TypeId) (hop : o.op = Op.lookup t m x false) (kt et : TypeId) (ht : P.underlying t = some (.map kt et)) (hk : P.underlying kt = some .string)
    (r : Nat) (kvs : List (List UInt8 × Value)) (hm : a.eval m = .map (some r)) (hr : MapS r kvs w) (key : List UInt8) (hx : a.eval x = strs key) (z : Value) (hz : (zeroValue et).run P w = .ok z w)
    (hK : wpList P ops Q rest (a.put o.dst ((kvs.lookup key).getD z)) w) : wpList P ops Q (o :: rest) a w := by
  obtain ⟨es, c, hr, he⟩ := hr
  have hf := findNow_str key es.toList kvs 0 he
  refine wpList_plain hg fun K' hK' => ?_
  have hc : ∀ b, (Instr.checkKey b 10000 kt (strs key)).run P w = .ok () w := fun b => MapKept.run_checkKey (k := strs key) hk (by simp [MapKept.IsKey]) b 9999
  have hrun : (Instr.lookup t (.map (some r)) (strs key) false).run P w = .ok ((kvs.lookup key).getD z) w := by
    cases hl : kvs.lookup key with
    | none => simp [Instr.lookup, run_underlying ht, MapKept.run_getObj_map hr, hc, MapKept.run_findKey hk (hf.2 hl), Result.andThen, hz]
    | some v =>
      obtain ⟨j, hj⟩ := hf.1 v hl
      simp [Instr.lookup, run_underlying ht, MapKept.run_getObj_map hr, hc, MapKept.run_findKey hk hj, Result.andThen]
  unfold Oper.wp
  simp [execOp, hop, hm, hx, hrun, Result.andThen]
  exact hK' _ _ hK
end
end Go.Proofs.YtnbolgdccdnjeaaGreatDoor
/- lexer.Lex. -/
namespace Go.Proofs.YtnbolgdccdnjeaaGreatDoor
open Go.RowKit
/-- A whole array into the block that was made last. -/
theorem wpList_store_new {P : Program} {ops : Array Oper} {rest : List Oper} {op : Oper} {a : Act} (w : World) {Q : Exit → Act → World → Prop} (hgd : op.guard = none) (ty : TypeId) (x y : Operand) (ho : op.op = .store ty x y) (c c' : Array Value)
    (hx : a.eval x = .pointer (some ⟨w.heap.size, 0, none⟩)) (hy : a.eval y = .agg c') (hi : (P.info? ty).map (·.size) = some c'.size) (hs : c.size = c'.size) (h1 : c'.all (·.oneCell') = true)
    (h : wpList P ops Q rest (a.put op.dst undef) (w.alloc (.cells c' ty))) : wpList P ops Q (op :: rest) a (w.alloc (.cells c ty)) := by
  refine wpList_plain hgd fun _ hK => ?_
  unfold Oper.wp execOp
  simp only [ho, hx, hy, Instr.storeAt, Instr.sureAddr, Sem.run_bind, Sem.run_pure, Result.andThen_ok, run_storeVar_new w ty c c' hi hs h1]
  exact hK _ _ h
def OwnTok (w : World) (base : Nat) (v : Value) (ts : List Np.Tok) : Prop := w.ownsRow base 66 4 v ts.length (ts.flatMap fun t => (tokVal t).toList)
theorem Tryz.infoTok : (Tryz.prog.info? 66).map (fun i => (i.zero, i.size, i.bytes)) = some (some (.agg #[.int .i64 0, .string ⟨#[]⟩, .int .i64 0, .int .i64 0]), 4, 40) := by kernel_rfl
theorem ownTok_nil (w : World) (base : Nat) : OwnTok w base (.slice none 0 0) [] := ⟨rfl, .inl ⟨rfl, rfl⟩⟩
def RTok (_ : World) (_ : Nat) (e : List Value) (t : Np.Tok) : Prop := e = (tokVal t).toList
theorem rtok_kept : KeptR RTok := fun _ _ _ _ _ h _ => h
/-- What Lex hands back. -/
def GivesLex (w : World) (x : List Np.Tok × Int × Nat) (e : Ending) (w' : World) : Prop :=
  ∃ v, e = .returned (.tuple #[v, .int .i64 x.2.1, .int .i64 x.2.2]) ∧ SlR RTok 4 w' w'.heap.size v x.1 ∧ Below w.heap.size w w'
theorem slr_nil' (w : World) (B : Nat) : SlR RTok 4 w B (.slice none 0 0) [] := ⟨none, 0, rfl, by simp, by simp, fun i x h => by simp at h⟩
/-- The tokens found, and those to come. -/
def addToks (ts : List Np.Tok) (x : List Np.Tok × Int × Nat) : List Np.Tok × Int × Nat := (ts ++ x.1, x.2)
def LexRel (w3 : World) (base : Nat) (s : ByteArray) (vt i : Value) (wr : World) : Prop :=
  ∃ (k : Nat) (ts : List Np.Tok) (A : Option Addr) (c : Nat), k ≤ s.size ∧ ts.length ≤ 2000 ∧ i = .int .i64 k ∧ vt = .slice A ts.length c ∧ Hid (OwnTok wr base vt ts) ∧ Hid (Below w3.heap.size w3 wr) ∧ Hid (Np.lexFrom s.data.toList 0 0 = addToks ts (Np.lexFrom (s.data.toList.drop k) k ts.length))
set_option maxRecDepth 100000 in
set_option maxHeartbeats 4000000 in
theorem lex_any (s : ByteArray) (hs : s.size ≤ 140737488355328) (w : World) (hE : ErrIn w) :
    Calls Tryz.prog 29 #[.string s] w (GivesLex w (Np.lex s.data.toList)) := by
  have HE := Lib.hid hE
  clear hE
  by_cases h8 : 8000 < s.size
  · have HL : Hid (Np.lex s.data.toList = ([], 2, 0)) := Lib.hid (by simp [Np.lex, h8])
    generalize Np.lex s.data.toList = x at *
    have h8' : (8000 : Int) < (s.size : Int) := by omega
    go_enter Tryz.func29, Tryz.ntmps29
    go_wp2_with fail
    go_ret3
    rw [HL.out]
    exact ⟨_, rfl, slr_nil' _ _, Below.refl _ _⟩
  · have HL : Hid (Np.lex s.data.toList = if (Np.lexFrom s.data.toList 0 0).2.1 = 0 then ((Np.lexFrom s.data.toList 0 0).1, 0, 0) else ([], (Np.lexFrom s.data.toList 0 0).2)) := Lib.hid (by unfold Np.lex; rw [if_neg (by rw [size_list]; exact h8)])
    generalize Np.lex s.data.toList = x at *
    have h8' : (s.size : Int) ≤ 8000 := by omega
    have h8d : decide ((8000 : Int) < (s.size : Int)) = false := by simp; omega
    have h8n : decide (8000 < s.size) = false := by simp; omega
    have hz := zero98
    go_enter Tryz.func29, Tryz.ntmps29
    go_wp2_with fail
    refine (classes_any _).mono ?_
    rintro e w1 ⟨rfl, hb1⟩
    have HB1 := Lib.hid hb1
    clear hb1
    go_wp2_with (first
      | (with_reducible refine wpList_store_new _ rfl 110 (.tmp 5) (.tmp 16) rfl (tabArr fun _ => 0) (tabArr clsI) rfl rfl (by rw [tabArr_size]; exact info98) (by rw [tabArr_size, tabArr_size]) (tabArr_one _) ?_))
    refine (endings_any s _ _).mono ?_
    rintro e w3 ⟨rfl, hb3, he3, hl3⟩
    simp only [World.size_alloc] at he3 hl3 hb3
    have hT : TabAt w1.heap.size w3 := (hb3.block _ (by omega)).trans (heap_alloc_new w1 _)
    have hEn : Ends (w1.heap.size + 1) w1.heap.size s w3 := ⟨he3, hT, hl3⟩
    have hbw : Below w.heap.size w w3 := (HB1.out.alloc HB1.out.size _).trans (hb3.mono (by have := HB1.out.size; omega))
    have hEr := HE.out.keep hbw
    have EN := Lib.hid hEn
    have ER := Lib.hid hEr
    have HW3 := Lib.hid hbw
    clear hb3 he3 hT hEn hbw hEr hl3
    have hlt3 : w1.heap.size < w3.heap.size := EN.out.tab.lt
    obtain ⟨i0, hi0, hz0, hz1, hz2⟩ := info_parts Tryz.infoTok
    go_wp2_with fail
    go_loopw [7, 8] (fun vt i wr => LexRel w3 w3.heap.size s vt i wr) (fun _ i _ => s.size - (intOf i).toNat)
    case atStart => exact ⟨0, [], none, 0, by omega, by simp, rfl, rfl, Lib.hid (ownTok_nil _ _), Lib.hid (Below.refl _ _), Lib.hid (by simp [addToks])⟩
    case round =>
      obtain ⟨k, ts, A, c, hk, h2000, rfl, rfl, HO, HB, HL3⟩ := hrel
      by_cases hlt : k < s.size
      · have hE := EN.out.keep HB.out
        obtain ⟨f, cap, hfn, eg, hcall⟩ := end_call (w1.heap.size + 1) w1.heap.size s (by omega) k hlt wr hE
        have HM := Lib.hid hE.at_.map
        have HF : Hid (Instr.findNow (.int .i64) (.int .i64 (Np.cls s[k])) (endMap (w1.heap.size + 1) 8).toList 0 = some (some (Np.cls s[k], .func (.func f) #[] cap))) := Lib.hid (by rw [endMap_find _ _ (Np.cls_lt _), hfn])
        have c2 : wr.cell? ⟨w1.heap.size, (s[k]).toNat, none⟩ = some (.int .i64 (Np.cls s[k])) := hE.tab.cell s[k]
        have h256 : ((s[k]).toNat : Int) < 256 := by have := UInt8.toNat_lt s[k]; omega
        have hkI : (k : Int) < (s.size : Int) := by omega
        have HC := Lib.hid hcall
        have hd : s.data.toList.drop k = s[k] :: s.data.toList.drop (k + 1) := List.drop_eq_getElem_cons (by rw [size_list]; exact hlt)
        have HD := Lib.hid hd
        have hwl : Np.width (s.data.toList.drop k) ≤ s.size - k := by have := Np.width_le (s.data.toList.drop k); rw [List.length_drop, size_list] at this; exact this
        generalize hwd : Np.width (s.data.toList.drop k) = n at *
        have HWD := Lib.hid hwd
        have h7 := Np.cls_lt s[k]
        generalize hcl : Np.cls s[k] = cl at *
        have HCL := Lib.hid hcl
        clear hE hfn hcall hd hwd hcl
        by_cases hgap : cl = 1 ∨ cl = 2
        · have hg0 : ((cl : Int) == 1) = true ∨ (((cl : Int) == 1) = false ∧ ((cl : Int) == 2) = true) := by simp; omega
          have HR : Hid (Np.lexFrom (s.data.toList.drop k) k ts.length = Np.lexFrom (s.data.toList.drop (k + n)) (k + n) ts.length ∧ 1 ≤ n) := Lib.hid (by
            rw [HD.out, Np.lexFrom_gap _ _ (by rw [HCL.out]; exact hgap), ← HD.out, HWD.out, List.drop_drop]
            refine ⟨rfl, ?_⟩
            have := Np.width_gap (r := s.data.toList.drop (k + 1)) (c := s[k]) (by rw [HCL.out]; exact hgap)
            rw [← HD.out, HWD.out] at this
            exact this)
          clear hgap
          rcases hg0 with g1 | ⟨g1, g2⟩
          all_goals
            go_wp2_with (first
              | (with_reducible refine wpList_lookup_int (o := ⟨some 30, .lookup 112 (.tmp 28) (.tmp 29) false, _, _, _, _⟩) _ rfl (.tmp 28) (.tmp 29) 112 rfl 109 115 .i64 Tryz.underlying112 Tryz.underlying109 (w1.heap.size + 1 + 1 + 1 + 1) (endMap (w1.heap.size + 1) 8) 8 rfl HM.out (cl : Int) rfl cl (.func (.func f) #[] cap) HF.out ?_))
            refine HC.out.mono ?_
            rintro e w4 ⟨rfl, hb4⟩
            have HB4 := Lib.hid hb4
            clear hb4
            go_wp2_with fail
            go_roundw
            case rel =>
              refine ⟨k + n, ts, A, c, by omega, h2000, rfl, rfl, Lib.hid (ownsRow_keep HO.out (fun g hg => HB4.out.block g (ownsRow_base HO.out g hg).2)), Lib.hid (HB.out.trans (HB4.out.mono HB.out.size)), Lib.hid ?_⟩
              rw [HL3.out, HR.out.1]
            case measure =>
              have := HR.out.2
              simp [intOf]; omega
        · have g1 : ((cl : Int) == 1) = false := by simp; omega
          have g2 : ((cl : Int) == 2) = false := by simp; omega
          have HG := Lib.hid (show ¬ (Np.cls s[k] = 1 ∨ Np.cls s[k] = 2) by rw [HCL.out]; exact hgap)
          clear hgap
          by_cases hn0 : n = 0
          · subst hn0
            have HX : Hid (x = ([], 10, k)) := Lib.hid (by
              have h1 := Np.lexFrom_bad (c := s[k]) (r := s.data.toList.drop (k + 1)) k ts.length HG.out (by rw [← HD.out]; exact HWD.out)
              rw [← HD.out] at h1
              rw [HL.out, HL3.out, h1]
              simp [addToks])
            go_wp2_with (first
              | (with_reducible refine wpList_lookup_int (o := ⟨some 30, .lookup 112 (.tmp 28) (.tmp 29) false, _, _, _, _⟩) _ rfl (.tmp 28) (.tmp 29) 112 rfl 109 115 .i64 Tryz.underlying112 Tryz.underlying109 (w1.heap.size + 1 + 1 + 1 + 1) (endMap (w1.heap.size + 1) 8) 8 rfl HM.out (cl : Int) rfl cl (.func (.func f) #[] cap) HF.out ?_))
            refine HC.out.mono ?_
            rintro e w4 ⟨rfl, hb4⟩
            have HB4 := Lib.hid hb4
            clear hb4
            rw [Nat.add_zero]
            go_wp2_with fail
            go_ret3
            rw [HX.out]
            exact ⟨_, rfl, slr_nil' _ _, HW3.out.trans ((HB.out.trans (HB4.out.mono HB.out.size)).mono HW3.out.size)⟩
          · have hne : ((((k + n : Nat) : Int)) == (k : Int)) = false := by simp; omega
            have hne2 : ((k : Int) + (n : Int) == (k : Int)) = false := by simp; omega
            have HN0 := Lib.hid (show Np.width (s[k] :: s.data.toList.drop (k + 1)) ≠ 0 by rw [← HD.out, HWD.out]; exact hn0)
            by_cases hfull : ts.length = 2000
            · have HX : Hid (x = ([], 2, k)) := Lib.hid (by
                have h1 := Np.lexFrom_limit (c := s[k]) (r := s.data.toList.drop (k + 1)) k HG.out HN0.out
                rw [← HD.out] at h1
                rw [HL.out, HL3.out, hfull, h1]
                simp [addToks])
              have hf2 : ((ts.length : Int) == 2000) = true := by simp; omega
              clear hfull
              go_wp2_with (first
                | (with_reducible refine wpList_lookup_int (o := ⟨some 30, .lookup 112 (.tmp 28) (.tmp 29) false, _, _, _, _⟩) _ rfl (.tmp 28) (.tmp 29) 112 rfl 109 115 .i64 Tryz.underlying112 Tryz.underlying109 (w1.heap.size + 1 + 1 + 1 + 1) (endMap (w1.heap.size + 1) 8) 8 rfl HM.out (cl : Int) rfl cl (.func (.func f) #[] cap) HF.out ?_))
              refine HC.out.mono ?_
              rintro e w4 ⟨rfl, hb4⟩
              have HB4 := Lib.hid hb4
              clear hb4
              go_wp2_with fail
              go_ret3
              rw [HX.out]
              exact ⟨_, rfl, slr_nil' _ _, HW3.out.trans ((HB.out.trans (HB4.out.mono HB.out.size)).mono HW3.out.size)⟩
            · have hf2 : ((ts.length : Int) == 2000) = false := by simp; omega
              have hex : (s.extract k (k + n)).data.toList = (s[k] :: s.data.toList.drop (k + 1)).take (Np.width (s[k] :: s.data.toList.drop (k + 1))) := by
                rw [ext_list, List.drop_take, ← HD.out, HWD.out, show k + n - k = n by omega]
              have hes : (s.extract k (k + n)).size = n := by rw [ByteArray.size_extract]; omega
              have HK := Lib.hid hfull
              have HEX := Lib.hid hex
              have HES := Lib.hid hes
              have hb1' : (k : Int) ≤ (k : Int) + (n : Int) := by omega
              have hb2' : (k : Int) + (n : Int) ≤ (s.size : Int) := by omega
              clear hfull hex hes
              have HTK : Hid (Np.tokOf cl (s.extract k (k + n)).data.toList = Np.tokOf (Np.cls s[k]) ((s[k] :: s.data.toList.drop (k + 1)).take (Np.width (s[k] :: s.data.toList.drop (k + 1))))) := Lib.hid (by rw [HEX.out, HCL.out])
              go_wp2_with (first
                | (with_reducible refine wpList_lookup_int (o := ⟨some 30, .lookup 112 (.tmp 28) (.tmp 29) false, _, _, _, _⟩) _ rfl (.tmp 28) (.tmp 29) 112 rfl 109 115 .i64 Tryz.underlying112 Tryz.underlying109 (w1.heap.size + 1 + 1 + 1 + 1) (endMap (w1.heap.size + 1) 8) 8 rfl HM.out (cl : Int) rfl cl (.func (.func f) #[] cap) HF.out ?_))
              refine HC.out.mono ?_
              rintro e w4 ⟨rfl, hb4⟩
              have HB4 := Lib.hid hb4
              clear hb4
              go_wp2_with fail
              refine (token_any cl (s.extract k (k + n)) (by rw [HES.out]; omega) (by rw [HES.out]; omega) w4 (ER.out.keep (HB.out.trans (HB4.out.mono HB.out.size)))).mono ?_
              rintro e w5 ⟨rfl, hb5⟩
              rw [HTK.out]
              have HB5 := Lib.hid hb5
              have hw5 : Below w3.heap.size w3 w5 := HB.out.trans ((HB4.out.trans (hb5.mono HB4.out.size)).mono HB.out.size)
              have HW5 := Lib.hid hw5
              clear hb5 hw5
              by_cases her : (Np.tokOf (Np.cls s[k]) ((s[k] :: s.data.toList.drop (k + 1)).take (Np.width (s[k] :: s.data.toList.drop (k + 1))))).1 = 0
              · have h1 := Np.lexFrom_tok (c := s[k]) (r := s.data.toList.drop (k + 1)) k ts.length HG.out HN0.out HK.out her
                rw [← HD.out, HWD.out, List.drop_drop] at h1
                have H1 := Lib.hid h1
                clear h1
                rw [← HD.out, HWD.out] at her ⊢
                generalize (Np.tokOf (Np.cls s[k]) ((s.data.toList.drop k).take n)) = tk at *
                obtain ⟨er, t⟩ := tk
                simp only at her H1 ⊢
                subst her
                simp only [tokVal]
                have hown5 : OwnTok w5 w3.heap.size (.slice A ts.length c) ts := ownsRow_keep HO.out (fun g hg => ((HB4.out.trans (HB5.out.mono HB4.out.size)).block g (ownsRow_base HO.out g hg).2))
                have HO5 := Lib.hid hown5
                clear hown5
                have hz3 := HW5.out.size
                go_wp2_with (at_builtin; go_must (refine wpList_append_own_at _ rfl _ _ 61 rfl w3.heap.size 66 i0 (.agg #[.int .i64 0, .string ⟨#[]⟩, .int .i64 0, .int .i64 0]) 4 40 Tryz.underlying61 hi0 hz0 hz1 hz2 rfl (by decide) _ _ _ rfl (World.ownsRow.alloc (World.ownsRow.alloc HO5.out _) _) ⟨w5.heap.size + 1, 0, none⟩ 1 1 [.int .i64 t.kind, .string (bytesOf t.text), .int .i64 t.n, .int .i64 k] rfl rfl (World.news_of_block (cs := #[.int .i64 t.kind, .string (bytesOf t.text), .int .i64 t.n, .int .i64 k]) (t := 66) (fr := (0, 0)) (heap_alloc2_new w5 _ _)) (by simp [Value.oneCell']) (by unfold maxLen; omega) (by omega) (by simp; omega) ?_); intro v6 w6 hown6 hg6 hiff6 hat6; clear hiff6)
                obtain ⟨A6, c6, rfl⟩ := ownsRow_form hown6
                have hot : OwnTok w6 w3.heap.size (.slice A6 (ts.length + 1) c6) (ts ++ [{ t with pos := (k : Int) }]) := by
                  have := hown6
                  unfold OwnTok
                  rw [List.length_append, List.length_singleton, List.flatMap_append]
                  exact this
                have hbb : Below w3.heap.size w3 w6 := ((HW5.out.alloc HW5.out.size _).alloc (by simp; omega) _).grown hg6 (by simp; omega) (fun g hg => (ownsRow_base HO5.out g hg).1)
                refine ⟨⟨k + n, ts ++ [{ t with pos := (k : Int) }], A6, c6, by omega, by have := HK.out; simp; omega, by go_num, by simp, Lib.hid (by simpa using hot), Lib.hid hbb, Lib.hid ?_⟩, by simp [intOf]; omega⟩
                rw [HL3.out, H1.out]
                simp [addToks]
              · have h1 := Np.lexFrom_err (c := s[k]) (r := s.data.toList.drop (k + 1)) k ts.length HG.out HN0.out HK.out her
                have HX : Hid (x = ([], (Np.tokOf (Np.cls s[k]) ((s[k] :: s.data.toList.drop (k + 1)).take (Np.width (s[k] :: s.data.toList.drop (k + 1))))).1, k)) := Lib.hid (by
                  rw [← HD.out] at h1 ⊢
                  rw [HL.out, HL3.out, h1]
                  rw [← HD.out] at her
                  simp [addToks, her])
                generalize (Np.tokOf (Np.cls s[k]) ((s[k] :: s.data.toList.drop (k + 1)).take (Np.width (s[k] :: s.data.toList.drop (k + 1))))) = tk at *
                obtain ⟨er, t⟩ := tk
                simp only at her HX ⊢
                have her' : (er != 0) = true := by simp [her]
                simp only [tokVal]
                clear her h1
                go_wp2_with fail
                go_ret3
                rw [HX.out]
                exact ⟨_, rfl, slr_nil' _ _, HW3.out.trans ((HW5.out.alloc HW5.out.size _).mono HW3.out.size)⟩
      · have : k = s.size := by omega
        subst this
        go_wp2_with fail
        go_ret3
        have hx : x = (ts, 0, 0) := by
          rw [HL.out, HL3.out, List.drop_of_length_le (by rw [size_list]; omega)]
          simp [addToks, Np.lexFrom]
        rw [hx]
        exact ⟨_, rfl, slr_of_own (xs := ts) (fun t => (tokVal t).toList) (by simp [tokVal]) HO.out (by omega) (fun _ _ => rfl), HW3.out.trans (HB.out.mono HW3.out.size)⟩
end Go.Proofs.YtnbolgdccdnjeaaGreatDoor
