/- lexer.endings: a map of functions. -/
import Derived.Test.YtnbolgdccdnjeaaGreatDoorClass
import Derived.Maps.Own
import Derived.WideMake
import Derived.Laws.EntriesVeiled
namespace Go.Proofs.YtnbolgdccdnjeaaGreatDoor
open Go.RowKit Go.MapKept
section
variable {P : Program} {ops : Array Oper} {rest : List Oper} {o : Oper} {a : Act} {Q : Exit → Act → World → Prop}
/-- A new key of a map that is known whole. -/
theorem wpList_insert_int (w : World) (hg : o.guard = none) (m x v : Operand) (t : TypeId) (hop : o.op = Op.insert t m x v) (kt et : TypeId) (k : IntKind) (ht : P.underlying t = some (.map kt et)) (hk : P.underlying kt = some (.int k))
    (r : Nat) (es : Array MapEntry) (c : Nat) (hm : a.eval m = .map (some r)) (hr : w.heap[r]? = some (.map es c)) (n : Int) (hx : a.eval x = .int k n) (val : Value) (hv : a.eval v = val) (hf : Instr.findNow (.int k) (.int k n) es.toList 0 = some none)
    (hK : ∀ w', w'.heap[r]? = some (.map (es.push { key := .int k n, val := val, born := c }) (c + 1)) → Turned r w w' → wpList P ops Q rest (a.put o.dst undef) w') :
    wpList P ops Q (o :: rest) a w := by
  refine wpList_plain hg fun K' hK' => ?_
  have hc : (Instr.checkKey false 10000 kt (.int k n)).run P w = .ok () w := MapKept.run_checkKey (k := .int k n) hk (by simp [MapKept.IsKey]) false 9999
  have hrun : (Instr.mapUpdate t (.map (some r)) (.int k n) val).run P w = .ok () { w with heap := w.heap.setIfInBounds r (.map (es.push { key := .int k n, val := val, born := c }) (c + 1)) } := by
    simp [Instr.mapUpdate, run_underlying ht, MapKept.run_getObj_map hr, hc, MapKept.run_findKey hk hf, MapKept.run_setObj_map _ hr, Result.andThen]
  unfold Oper.wp
  simp [execOp, hop, hm, hx, hv, hrun, Result.andThen]
  have hl : r < w.heap.size := (Array.getElem?_eq_some_iff.1 hr).1
  refine hK' _ _ (hK _ (by simp [hl]) ⟨rfl, rfl, rfl, by simp, fun i hi => by simp [Ne.symm hi]⟩)
/-- A key that is there. -/
theorem wpList_lookup_int (w : World) (hg : o.guard = none) (m x : Operand) (t : TypeId) (hop : o.op = Op.lookup t m x false) (kt et : TypeId) (k : IntKind) (ht : P.underlying t = some (.map kt et)) (hk : P.underlying kt = some (.int k))
    (r : Nat) (es : Array MapEntry) (c : Nat) (hm : a.eval m = .map (some r)) (hr : w.heap[r]? = some (.map es c)) (n : Int) (hx : a.eval x = .int k n) (i : Nat) (val : Value) (hf : Instr.findNow (.int k) (.int k n) es.toList 0 = some (some (i, val)))
    (hK : wpList P ops Q rest (a.put o.dst val) w) : wpList P ops Q (o :: rest) a w := by
  refine wpList_plain hg fun K' hK' => ?_
  have hc : ∀ b, (Instr.checkKey b 10000 kt (.int k n)).run P w = .ok () w := fun b => MapKept.run_checkKey (k := .int k n) hk (by simp [MapKept.IsKey]) b 9999
  have hrun : (Instr.lookup t (.map (some r)) (.int k n) false).run P w = .ok val w := by
    simp [Instr.lookup, run_underlying ht, MapKept.run_getObj_map hr, hc, MapKept.run_findKey hk hf, Result.andThen]
  unfold Oper.wp
  simp [execOp, hop, hm, hx, hrun, Result.andThen]
  exact hK' _ _ hK
end
def fnv (f : FuncId) (cap : List Nat) : Value := .func (.func f) #[] (cap.map fun b => Value.pointer (some ⟨b, 0, none⟩)).toArray
/-- The function for each class. -/
def endFn (N : Nat) : Nat → Value
  | 0 => fnv 112 []
  | 1 => fnv 113 []
  | 2 => fnv 114 [N]
  | 3 => fnv 111 [N, N + 1]
  | 4 => fnv 112 []
  | 5 => fnv 116 [N + 1 + 1]
  | 6 => fnv 117 [N]
  | _ => fnv 113 []
def endMap (N : Nat) (k : Nat) : Array MapEntry := ((List.range k).map fun i => { key := .int .i64 i, val := endFn N i, born := i }).toArray
theorem endMap_snoc (N k : Nat) : (endMap N k).push { key := .int .i64 k, val := endFn N k, born := k } = endMap N (k + 1) := by
  simp [endMap, List.range_succ]
theorem endMap_new (N : Nat) : ∀ k : Nat, k ≤ 7 → Instr.findNow (.int .i64) (.int .i64 k) (endMap N k).toList 0 = some none := by
  intro k hk
  rcases (by omega : k = 0 ∨ k = 1 ∨ k = 2 ∨ k = 3 ∨ k = 4 ∨ k = 5 ∨ k = 6 ∨ k = 7) with rfl | rfl | rfl | rfl | rfl | rfl | rfl | rfl <;> rfl
theorem endMap_find (N : Nat) (k : Nat) (hk : k ≤ 7) : Instr.findNow (.int .i64) (.int .i64 k) (endMap N 8).toList 0 = some (some (k, endFn N k)) := by
  rcases (by omega : k = 0 ∨ k = 1 ∨ k = 2 ∨ k = 3 ∨ k = 4 ∨ k = 5 ∨ k = 6 ∨ k = 7) with rfl | rfl | rfl | rfl | rfl | rfl | rfl | rfl <;> rfl
/-- What endings leaves: the functions, and what they have taken in. -/
structure EndsAt (N : Nat) (s : ByteArray) (bo : Nat) (w : World) : Prop where
  map : w.heap[N + 1 + 1 + 1]? = some (.map (endMap N 8) 8)
  src : w.cell? ⟨N, 0, none⟩ = some (.string s)
  tab : w.cell? ⟨N + 1, 0, none⟩ = some (.pointer (some ⟨bo, 0, none⟩))
  run : w.cell? ⟨N + 1 + 1, 0, none⟩ = some (endFn N 3)
theorem EndsAt.keep {N : Nat} {s : ByteArray} {bo B : Nat} {w w' : World} (h : EndsAt N s bo w) (hb : Below B w w') (hN : N + 1 + 1 + 1 < B) : EndsAt N s bo w' :=
  ⟨(hb.block _ hN).trans h.map, (hb.cell (by simp; omega)).trans h.src, (hb.cell (by simp; omega)).trans h.tab, (hb.cell (by simp; omega)).trans h.run⟩
set_option maxRecDepth 100000 in
set_option maxHeartbeats 1000000 in
theorem endings_any (s : ByteArray) (bo : Nat) (w : World) :
    Calls Tryz.prog 67 #[.string s, .pointer (some ⟨bo, 0, none⟩)] w fun e w' => e = .returned (.map (some (w.heap.size + 1 + 1 + 1))) ∧ Below w.heap.size w w' ∧ EndsAt w.heap.size s bo w' ∧ w.heap.size + 1 + 1 + 1 < w'.heap.size := by
  have hmm := @run_makeMap Tryz.prog
  have hW : ∀ o1 o2 o3, Hid (Below w.heap.size w ((((w.alloc o1).alloc o2).alloc o3).alloc (.map #[] 0)) ∧ ((((w.alloc o1).alloc o2).alloc o3).alloc (.map #[] 0)).heap[w.heap.size + 1 + 1 + 1]? = some (.map (endMap w.heap.size 0) 0)) := fun o1 o2 o3 => Lib.hid ⟨((((Below.refl _ w).alloc (Nat.le_refl _) _).alloc (by simp) _).alloc (by simp; omega) _).alloc (by simp; omega) _, by
    have := heap_alloc_new (((w.alloc o1).alloc o2).alloc o3) (.map #[] 0)
    simp only [World.size_alloc] at this
    exact this⟩
  have HW := Lib.hid hW
  clear hW
  have F0 : Hid (Instr.findNow (.int .i64) (.int .i64 0) (endMap w.heap.size 0).toList 0 = some none) := Lib.hid (endMap_new w.heap.size 0 (by omega))
  have F1 : Hid (Instr.findNow (.int .i64) (.int .i64 1) (endMap w.heap.size 1).toList 0 = some none) := Lib.hid (endMap_new w.heap.size 1 (by omega))
  have F2 : Hid (Instr.findNow (.int .i64) (.int .i64 2) (endMap w.heap.size 2).toList 0 = some none) := Lib.hid (endMap_new w.heap.size 2 (by omega))
  have F3 : Hid (Instr.findNow (.int .i64) (.int .i64 3) (endMap w.heap.size 3).toList 0 = some none) := Lib.hid (endMap_new w.heap.size 3 (by omega))
  have F4 : Hid (Instr.findNow (.int .i64) (.int .i64 4) (endMap w.heap.size 4).toList 0 = some none) := Lib.hid (endMap_new w.heap.size 4 (by omega))
  have F5 : Hid (Instr.findNow (.int .i64) (.int .i64 5) (endMap w.heap.size 5).toList 0 = some none) := Lib.hid (endMap_new w.heap.size 5 (by omega))
  have F6 : Hid (Instr.findNow (.int .i64) (.int .i64 6) (endMap w.heap.size 6).toList 0 = some none) := Lib.hid (endMap_new w.heap.size 6 (by omega))
  have F7 : Hid (Instr.findNow (.int .i64) (.int .i64 7) (endMap w.heap.size 7).toList 0 = some none) := Lib.hid (endMap_new w.heap.size 7 (by omega))
  go_enter Tryz.func67, Tryz.ntmps67
  go_wp2_with (first
    | ((with_reducible refine wpList_insert_int (o := ⟨none, .insert 112 (.tmp 9) (.const (.int .i64 0)) (.tmp 10), _, _, _, _⟩) _ rfl (.tmp 9) (.const (.int .i64 0)) (.tmp 10) 112 rfl 109 115 .i64 Tryz.underlying112 Tryz.underlying109 (w.heap.size + 1 + 1 + 1) (endMap w.heap.size 0) 0 rfl (HW.out _ _ _).out.2 0 rfl _ rfl F0.out ?_); intro w1 hm ht; have M1 := Lib.hid (show w1.heap[w.heap.size + 1 + 1 + 1]? = some (.map (endMap w.heap.size (0 + 1)) (0 + 1)) from hm.trans (by rw [← endMap_snoc]; rfl)); have T1 := Lib.hid ht; clear hm ht)
    | ((with_reducible refine wpList_insert_int (o := ⟨none, .insert 112 (.tmp 9) (.const (.int .i64 1)) (.tmp 11), _, _, _, _⟩) _ rfl (.tmp 9) (.const (.int .i64 1)) (.tmp 11) 112 rfl 109 115 .i64 Tryz.underlying112 Tryz.underlying109 (w.heap.size + 1 + 1 + 1) (endMap w.heap.size 1) 1 rfl M1.out 1 rfl _ rfl F1.out ?_); intro w2 hm ht; have M2 := Lib.hid (show w2.heap[w.heap.size + 1 + 1 + 1]? = some (.map (endMap w.heap.size (1 + 1)) (1 + 1)) from hm.trans (by rw [← endMap_snoc]; rfl)); have T2 := Lib.hid ht; clear hm ht)
    | ((with_reducible refine wpList_insert_int (o := ⟨none, .insert 112 (.tmp 9) (.const (.int .i64 2)) (.tmp 12), _, _, _, _⟩) _ rfl (.tmp 9) (.const (.int .i64 2)) (.tmp 12) 112 rfl 109 115 .i64 Tryz.underlying112 Tryz.underlying109 (w.heap.size + 1 + 1 + 1) (endMap w.heap.size 2) 2 rfl M2.out 2 rfl _ rfl F2.out ?_); intro w3 hm ht; have M3 := Lib.hid (show w3.heap[w.heap.size + 1 + 1 + 1]? = some (.map (endMap w.heap.size (2 + 1)) (2 + 1)) from hm.trans (by rw [← endMap_snoc]; rfl)); have T3 := Lib.hid ht; have r3 : w3.cell? ⟨w.heap.size + 1 + 1, 0, none⟩ = some (.func (.func 111) #[] #[.pointer (some ⟨w.heap.size, 0, none⟩), .pointer (some ⟨w.heap.size + 1, 0, none⟩)]) := by { rw [ht.cell (by simp), T2.out.cell (by simp), T1.out.cell (by simp)]; go_simp }; clear hm ht)
    | ((with_reducible refine wpList_insert_int (o := ⟨none, .insert 112 (.tmp 9) (.const (.int .i64 3)) (.tmp 13), _, _, _, _⟩) _ rfl (.tmp 9) (.const (.int .i64 3)) (.tmp 13) 112 rfl 109 115 .i64 Tryz.underlying112 Tryz.underlying109 (w.heap.size + 1 + 1 + 1) (endMap w.heap.size 3) 3 rfl M3.out 3 rfl _ rfl F3.out ?_); intro w4 hm ht; have M4 := Lib.hid (show w4.heap[w.heap.size + 1 + 1 + 1]? = some (.map (endMap w.heap.size (3 + 1)) (3 + 1)) from hm.trans (by rw [← endMap_snoc]; rfl)); have T4 := Lib.hid ht; clear hm ht)
    | ((with_reducible refine wpList_insert_int (o := ⟨none, .insert 112 (.tmp 9) (.const (.int .i64 4)) (.tmp 14), _, _, _, _⟩) _ rfl (.tmp 9) (.const (.int .i64 4)) (.tmp 14) 112 rfl 109 115 .i64 Tryz.underlying112 Tryz.underlying109 (w.heap.size + 1 + 1 + 1) (endMap w.heap.size 4) 4 rfl M4.out 4 rfl _ rfl F4.out ?_); intro w5 hm ht; have M5 := Lib.hid (show w5.heap[w.heap.size + 1 + 1 + 1]? = some (.map (endMap w.heap.size (4 + 1)) (4 + 1)) from hm.trans (by rw [← endMap_snoc]; rfl)); have T5 := Lib.hid ht; clear hm ht)
    | ((with_reducible refine wpList_insert_int (o := ⟨none, .insert 112 (.tmp 9) (.const (.int .i64 5)) (.tmp 15), _, _, _, _⟩) _ rfl (.tmp 9) (.const (.int .i64 5)) (.tmp 15) 112 rfl 109 115 .i64 Tryz.underlying112 Tryz.underlying109 (w.heap.size + 1 + 1 + 1) (endMap w.heap.size 5) 5 rfl M5.out 5 rfl _ rfl F5.out ?_); intro w6 hm ht; have M6 := Lib.hid (show w6.heap[w.heap.size + 1 + 1 + 1]? = some (.map (endMap w.heap.size (5 + 1)) (5 + 1)) from hm.trans (by rw [← endMap_snoc]; rfl)); have T6 := Lib.hid ht; clear hm ht)
    | ((with_reducible refine wpList_insert_int (o := ⟨none, .insert 112 (.tmp 9) (.const (.int .i64 6)) (.tmp 16), _, _, _, _⟩) _ rfl (.tmp 9) (.const (.int .i64 6)) (.tmp 16) 112 rfl 109 115 .i64 Tryz.underlying112 Tryz.underlying109 (w.heap.size + 1 + 1 + 1) (endMap w.heap.size 6) 6 rfl M6.out 6 rfl _ rfl F6.out ?_); intro w7 hm ht; have M7 := Lib.hid (show w7.heap[w.heap.size + 1 + 1 + 1]? = some (.map (endMap w.heap.size (6 + 1)) (6 + 1)) from hm.trans (by rw [← endMap_snoc]; rfl)); have T7 := Lib.hid ht; clear hm ht)
    | ((with_reducible refine wpList_insert_int (o := ⟨none, .insert 112 (.tmp 9) (.const (.int .i64 7)) (.tmp 17), _, _, _, _⟩) _ rfl (.tmp 9) (.const (.int .i64 7)) (.tmp 17) 112 rfl 109 115 .i64 Tryz.underlying112 Tryz.underlying109 (w.heap.size + 1 + 1 + 1) (endMap w.heap.size 7) 7 rfl M7.out 7 rfl _ rfl F7.out ?_); intro w8 hm ht; have M8 := Lib.hid (show w8.heap[w.heap.size + 1 + 1 + 1]? = some (.map (endMap w.heap.size (7 + 1)) (7 + 1)) from hm.trans (by rw [← endMap_snoc]; rfl)); have T8 := Lib.hid ht; clear hm ht))
  go_ret
  have t8 := ((((((T1.out.trans T2.out).trans T3.out).trans T4.out).trans T5.out).trans T6.out).trans T7.out).trans T8.out
  have hb := (HW.out _ _ _).out.1.trans (t8.below (n := w.heap.size) (by omega))
  refine ⟨rfl, hb, ⟨M8.out, ?_, ?_, ?_⟩, ?_⟩
  · rw [t8.cell (by simp; omega)]; go_simp
  · rw [t8.cell (by simp)]; go_simp
  · rw [t8.cell (by simp)]; go_simp; rfl
  · rw [t8.size]; simp
end Go.Proofs.YtnbolgdccdnjeaaGreatDoor
