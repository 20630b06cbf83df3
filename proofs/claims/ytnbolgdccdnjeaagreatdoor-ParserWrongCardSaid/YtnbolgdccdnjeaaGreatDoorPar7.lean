/- The parser's readers of data: a map of functions. -/
import Derived.Test.YtnbolgdccdnjeaaGreatDoorQB
import Derived.Test.YtnbolgdccdnjeaaGreatDoorLA
namespace Go.Proofs.YtnbolgdccdnjeaaGreatDoor
open Go.RowKit Go.MapKept
/-- The reader for each type. -/
def dataFn (bx b4 b6 b7 : Nat) : Nat → Value
  | 0 => fnv 83 [bx]
  | 1 => fnv 86 [bx]
  | 2 => fnv 86 [bx]
  | 3 => fnv 94 [bx, b4, b4 + 1]
  | 4 => fnv 90 [bx]
  | 5 => fnv 94 [bx, b6, b6 + 1]
  | _ => fnv 94 [bx, b7, b7 + 1]
def dataMap (bx b4 b6 b7 k : Nat) : Array MapEntry := ((List.range k).map fun i => { key := .int .i64 ((i + 1 : Nat) : Int), val := dataFn bx b4 b6 b7 i, born := i }).toArray
theorem dataMap_snoc (bx b4 b6 b7 k : Nat) : (dataMap bx b4 b6 b7 k).push { key := .int .i64 ((k + 1 : Nat) : Int), val := dataFn bx b4 b6 b7 k, born := k } = dataMap bx b4 b6 b7 (k + 1) := by
  simp [dataMap, List.range_succ]
theorem dataMap_new (bx b4 b6 b7 : Nat) : ∀ k : Nat, k ≤ 6 → Instr.findNow (.int .i64) (.int .i64 ((k + 1 : Nat) : Int)) (dataMap bx b4 b6 b7 k).toList 0 = some none := by
  intro k hk
  rcases (by omega : k = 0 ∨ k = 1 ∨ k = 2 ∨ k = 3 ∨ k = 4 ∨ k = 5 ∨ k = 6) with rfl | rfl | rfl | rfl | rfl | rfl | rfl <;> rfl
theorem dataMap_find (bx b4 b6 b7 : Nat) (k : Nat) (hk : k ≤ 6) : Instr.findNow (.int .i64) (.int .i64 ((k + 1 : Nat) : Int)) (dataMap bx b4 b6 b7 7).toList 0 = some (some (k, dataFn bx b4 b6 b7 k)) := by
  rcases (by omega : k = 0 ∨ k = 1 ∨ k = 2 ∨ k = 3 ∨ k = 4 ∨ k = 5 ∨ k = 6) with rfl | rfl | rfl | rfl | rfl | rfl | rfl <;> rfl
theorem dataMap_less (bx b4 b6 b7 c4 c6 c7 : Nat) (k : Nat) (h4 : 4 ≤ k → c4 = b4) (h6 : 6 ≤ k → c6 = b6) (h7 : 7 ≤ k → c7 = b7) (hk : k ≤ 7) : dataMap bx b4 b6 b7 k = dataMap bx c4 c6 c7 k := by
  rcases (by omega : k = 0 ∨ k = 1 ∨ k = 2 ∨ k = 3 ∨ k = 4 ∨ k = 5 ∨ k = 6 ∨ k = 7) with rfl | rfl | rfl | rfl | rfl | rfl | rfl | rfl
  · rfl
  · rfl
  · rfl
  · rfl
  · rw [h4 (by omega)]; rfl
  · rw [h4 (by omega)]; rfl
  · rw [h4 (by omega), h6 (by omega)]; rfl
  · rw [h4 (by omega), h6 (by omega), h7 (by omega)]
/-- What the parser's data leads to. -/
structure DataAt (pb dm bx b4 b6 b7 : Nat) (w : World) : Prop where
  map : w.heap[dm]? = some (.map (dataMap bx b4 b6 b7 7) 7)
  box : w.cell? ⟨bx, 0, none⟩ = some (.pointer (some ⟨pb, 0, none⟩))
  t4 : w.cell? ⟨b4, 0, none⟩ = some (.int .i64 4)
  u4 : w.cell? ⟨b4 + 1, 0, none⟩ = some (.int .i64 0)
  t6 : w.cell? ⟨b6, 0, none⟩ = some (.int .i64 6)
  u6 : w.cell? ⟨b6 + 1, 0, none⟩ = some (.int .i64 1)
  t7 : w.cell? ⟨b7, 0, none⟩ = some (.int .i64 7)
  u7 : w.cell? ⟨b7 + 1, 0, none⟩ = some (.int .i64 1)
  far : pb < dm ∧ pb < bx ∧ pb < b4 ∧ pb < b6 ∧ pb < b7
theorem DataAt.keep {pb dm bx b4 b6 b7 : Nat} {w w' : World} (h : DataAt pb dm bx b4 b6 b7 w) (hb : ∀ k, k < w.heap.size → (k = dm ∨ k = bx ∨ k = b4 ∨ k = b4 + 1 ∨ k = b6 ∨ k = b6 + 1 ∨ k = b7 ∨ k = b7 + 1) → w'.heap[k]? = w.heap[k]?) : DataAt pb dm bx b4 b6 b7 w' := by
  have hc : ∀ k v, (k = dm ∨ k = bx ∨ k = b4 ∨ k = b4 + 1 ∨ k = b6 ∨ k = b6 + 1 ∨ k = b7 ∨ k = b7 + 1) → w.cell? ⟨k, 0, none⟩ = some v → w'.cell? ⟨k, 0, none⟩ = some v := fun k v hk h =>
    (World.cell?_of_block (w := w) (a := ⟨k, 0, none⟩) (hb k (World.block_lt_of_cell? w ⟨k, 0, none⟩ h) hk)).trans h
  exact ⟨(hb dm (Array.getElem?_eq_some_iff.1 h.map).1 (.inl rfl)).trans h.map, hc _ _ (by simp) h.box, hc _ _ (by simp) h.t4, hc _ _ (by simp) h.u4, hc _ _ (by simp) h.t6, hc _ _ (by simp) h.u6, hc _ _ (by simp) h.t7, hc _ _ (by simp) h.u7, h.far⟩
theorem DataAt.below {pb dm bx b4 b6 b7 : Nat} {w w' : World} (h : DataAt pb dm bx b4 b6 b7 w) (hb : Below w.heap.size w w') : DataAt pb dm bx b4 b6 b7 w' := h.keep (fun k hk _ => hb.block k hk)
theorem DataAt.mv {X : Nat → Prop} {pb dm bx b4 b6 b7 i : Nat} {w w' : World} (h : DataAt pb dm bx b4 b6 b7 w) (hm : Mv X pb i w w') (hX : ∀ k, (k = dm ∨ k = bx ∨ k = b4 ∨ k = b4 + 1 ∨ k = b6 ∨ k = b6 + 1 ∨ k = b7 ∨ k = b7 + 1) → ¬ X k) : DataAt pb dm bx b4 b6 b7 w' :=
  h.keep (fun k hk hs => hm.block hk (hX k hs) (by have := h.far; omega))
theorem pairFn_any (t u : Int) (bx : Nat) (w : World) : Calls Tryz.prog 93 #[.int .i64 t, .int .i64 u, .pointer (some ⟨bx, 0, none⟩)] w fun e w' => e = .returned (fnv 94 [bx, w.heap.size, w.heap.size + 1]) ∧ (w.alloc (.cells #[.int .i64 t] 3)).alloc (.cells #[.int .i64 u] 3) = w' := by
  have hmf : ∀ (fn : Fn) (first cap : Array Value) (w : World), (Instr.makeFunc fn first cap).run Tryz.prog w = .ok (.func fn first cap) w := fun _ _ _ _ => rfl
  go_enter Tryz.func93, Tryz.ntmps93
  go_wp2_with fail
  go_ret
  exact ⟨rfl, rfl⟩
set_option maxRecDepth 100000 in
set_option maxHeartbeats 4000000 in
theorem dataReaders_any (pb : Nat) (w : World) (hpb : pb < w.heap.size) :
    Calls Tryz.prog 57 #[.pointer (some ⟨pb, 0, none⟩)] w fun e w' => ∃ b4 b6 b7, e = .returned (.map (some (w.heap.size + 1))) ∧ Below w.heap.size w w' ∧ DataAt pb (w.heap.size + 1) w.heap.size b4 b6 b7 w' := by
  have hmm := @run_makeMap Tryz.prog
  have hmf : ∀ (fn : Fn) (first cap : Array Value) (w : World), (Instr.makeFunc fn first cap).run Tryz.prog w = .ok (.func fn first cap) w := fun _ _ _ _ => rfl
  have eg : ∀ args w, (callFunc 93 args).run Tryz.prog w = .ok (.enter 93 args) w := fun args w => by simp [go_sem]
  have hW : ∀ o1, Hid (Below w.heap.size w ((w.alloc o1).alloc (.map #[] 0)) ∧ ((w.alloc o1).alloc (.map #[] 0)).heap[w.heap.size + 1]? = some (.map (dataMap w.heap.size 0 0 0 0) 0)) := fun o1 => Lib.hid ⟨((Below.refl _ w).alloc (Nat.le_refl _) _).alloc (by simp) _, by
    have := heap_alloc_new (w.alloc o1) (.map #[] 0)
    simp only [World.size_alloc] at this
    exact this⟩
  have HW := Lib.hid hW
  clear hW
  have F0 : Hid (Instr.findNow (.int .i64) (.int .i64 1) (dataMap w.heap.size 0 0 0 0).toList 0 = some none) := Lib.hid (dataMap_new w.heap.size 0 0 0 0 (by omega))
  have F1 : Hid (Instr.findNow (.int .i64) (.int .i64 2) (dataMap w.heap.size 0 0 0 1).toList 0 = some none) := Lib.hid (dataMap_new w.heap.size 0 0 0 1 (by omega))
  have F2 : Hid (Instr.findNow (.int .i64) (.int .i64 3) (dataMap w.heap.size 0 0 0 2).toList 0 = some none) := Lib.hid (dataMap_new w.heap.size 0 0 0 2 (by omega))
  go_enter Tryz.func57, Tryz.ntmps57
  go_wp2_with (first
    | ((with_reducible refine wpList_insert_int (o := ⟨none, .insert 99 (.tmp 11) (.const (.int .i64 1)) (.tmp 12), _, _, _, _⟩) _ rfl (.tmp 11) (.const (.int .i64 1)) (.tmp 12) 99 rfl 3 130 .i64 Tryz.underlying99 Tryz.underlying3 (w.heap.size + 1) (dataMap w.heap.size 0 0 0 0) 0 rfl (HW.out _).out.2 1 rfl _ rfl F0.out ?_); intro v1 hm ht; have M1 := Lib.hid (show v1.heap[w.heap.size + 1]? = some (.map (dataMap w.heap.size 0 0 0 (0 + 1)) (0 + 1)) from hm.trans (by rw [← dataMap_snoc]; rfl)); have T1 := Lib.hid ht; clear hm ht)
    | ((with_reducible refine wpList_insert_int (o := ⟨none, .insert 99 (.tmp 11) (.const (.int .i64 2)) (.tmp 13), _, _, _, _⟩) _ rfl (.tmp 11) (.const (.int .i64 2)) (.tmp 13) 99 rfl 3 130 .i64 Tryz.underlying99 Tryz.underlying3 (w.heap.size + 1) (dataMap w.heap.size 0 0 0 1) 1 rfl M1.out 2 rfl _ rfl F1.out ?_); intro v2 hm ht; have M2 := Lib.hid (show v2.heap[w.heap.size + 1]? = some (.map (dataMap w.heap.size 0 0 0 (1 + 1)) (1 + 1)) from hm.trans (by rw [← dataMap_snoc]; rfl)); have T2 := Lib.hid ht; clear hm ht)
    | ((with_reducible refine wpList_insert_int (o := ⟨none, .insert 99 (.tmp 11) (.const (.int .i64 3)) (.tmp 14), _, _, _, _⟩) _ rfl (.tmp 11) (.const (.int .i64 3)) (.tmp 14) 99 rfl 3 130 .i64 Tryz.underlying99 Tryz.underlying3 (w.heap.size + 1) (dataMap w.heap.size 0 0 0 2) 2 rfl M2.out 3 rfl _ rfl F2.out ?_); intro v3 hm ht; have M3 := Lib.hid (show v3.heap[w.heap.size + 1]? = some (.map (dataMap w.heap.size 0 0 0 (2 + 1)) (2 + 1)) from hm.trans (by rw [← dataMap_snoc]; rfl)); have T3 := Lib.hid ht; clear hm ht))
  refine (pairFn_any 4 0 w.heap.size _).mono ?_
  rintro e w' ⟨rfl, rfl⟩
  have hx : Below v3.heap.size v3 ((v3.alloc (.cells #[.int .i64 4] 3)).alloc (.cells #[.int .i64 0] 3)) := ((Below.refl _ _).alloc (Nat.le_refl _) _).alloc (by simp) _
  have HZ4 := Lib.hid (show v3.heap.size + 2 ≤ ((v3.alloc (.cells #[.int .i64 4] 3)).alloc (.cells #[.int .i64 0] 3)).heap.size by simp)
  have C4 := Lib.hid (show ((v3.alloc (.cells #[.int .i64 4] 3)).alloc (.cells #[.int .i64 0] 3)).cell? ⟨v3.heap.size, 0, none⟩ = some (.int .i64 4) by go_simp)
  have U4 := Lib.hid (show ((v3.alloc (.cells #[.int .i64 4] 3)).alloc (.cells #[.int .i64 0] 3)).cell? ⟨v3.heap.size + 1, 0, none⟩ = some (.int .i64 0) by go_simp)
  generalize ((v3.alloc (.cells #[.int .i64 4] 3)).alloc (.cells #[.int .i64 0] 3)) = w4 at *
  have X4 := Lib.hid hx
  have M3' := Lib.hid (show w4.heap[w.heap.size + 1]? = some (.map (dataMap w.heap.size v3.heap.size 0 0 3) 3) from (hx.block _ (Array.getElem?_eq_some_iff.1 M3.out).1).trans (M3.out.trans (by rw [dataMap_less w.heap.size 0 0 0 v3.heap.size 0 0 3 (by omega) (by omega) (by omega) (by omega)])))
  clear hx
  have F3 : Hid (Instr.findNow (.int .i64) (.int .i64 4) (dataMap w.heap.size v3.heap.size 0 0 3).toList 0 = some none) := Lib.hid (dataMap_new w.heap.size v3.heap.size 0 0 3 (by omega))
  have F4 : Hid (Instr.findNow (.int .i64) (.int .i64 5) (dataMap w.heap.size v3.heap.size 0 0 4).toList 0 = some none) := Lib.hid (dataMap_new w.heap.size v3.heap.size 0 0 4 (by omega))
  go_wp2_with (first
    | ((with_reducible refine wpList_insert_int (o := ⟨none, .insert 99 (.tmp 11) (.const (.int .i64 4)) (.tmp 16), _, _, _, _⟩) _ rfl (.tmp 11) (.const (.int .i64 4)) (.tmp 16) 99 rfl 3 130 .i64 Tryz.underlying99 Tryz.underlying3 (w.heap.size + 1) (dataMap w.heap.size v3.heap.size 0 0 3) 3 rfl M3'.out 4 rfl _ rfl F3.out ?_); intro v4 hm ht; have M4 := Lib.hid (show v4.heap[w.heap.size + 1]? = some (.map (dataMap w.heap.size v3.heap.size 0 0 (3 + 1)) (3 + 1)) from hm.trans (by rw [← dataMap_snoc]; rfl)); have T4 := Lib.hid ht; clear hm ht)
    | ((with_reducible refine wpList_insert_int (o := ⟨none, .insert 99 (.tmp 11) (.const (.int .i64 5)) (.tmp 17), _, _, _, _⟩) _ rfl (.tmp 11) (.const (.int .i64 5)) (.tmp 17) 99 rfl 3 130 .i64 Tryz.underlying99 Tryz.underlying3 (w.heap.size + 1) (dataMap w.heap.size v3.heap.size 0 0 4) 4 rfl M4.out 5 rfl _ rfl F4.out ?_); intro v5 hm ht; have M5 := Lib.hid (show v5.heap[w.heap.size + 1]? = some (.map (dataMap w.heap.size v3.heap.size 0 0 (4 + 1)) (4 + 1)) from hm.trans (by rw [← dataMap_snoc]; rfl)); have T5 := Lib.hid ht; clear hm ht))
  refine (pairFn_any 6 1 w.heap.size _).mono ?_
  rintro e w' ⟨rfl, rfl⟩
  have hx : Below v5.heap.size v5 ((v5.alloc (.cells #[.int .i64 6] 3)).alloc (.cells #[.int .i64 1] 3)) := ((Below.refl _ _).alloc (Nat.le_refl _) _).alloc (by simp) _
  have HZ6 := Lib.hid (show v5.heap.size + 2 ≤ ((v5.alloc (.cells #[.int .i64 6] 3)).alloc (.cells #[.int .i64 1] 3)).heap.size by simp)
  have C6 := Lib.hid (show ((v5.alloc (.cells #[.int .i64 6] 3)).alloc (.cells #[.int .i64 1] 3)).cell? ⟨v5.heap.size, 0, none⟩ = some (.int .i64 6) by go_simp)
  have U6 := Lib.hid (show ((v5.alloc (.cells #[.int .i64 6] 3)).alloc (.cells #[.int .i64 1] 3)).cell? ⟨v5.heap.size + 1, 0, none⟩ = some (.int .i64 1) by go_simp)
  generalize ((v5.alloc (.cells #[.int .i64 6] 3)).alloc (.cells #[.int .i64 1] 3)) = w6 at *
  have X6 := Lib.hid hx
  have M5' := Lib.hid (show w6.heap[w.heap.size + 1]? = some (.map (dataMap w.heap.size v3.heap.size v5.heap.size 0 5) 5) from (hx.block _ (Array.getElem?_eq_some_iff.1 M5.out).1).trans (M5.out.trans (by rw [dataMap_less w.heap.size v3.heap.size 0 0 v3.heap.size v5.heap.size 0 5 (by omega) (by omega) (by omega) (by omega)])))
  clear hx
  have F5 : Hid (Instr.findNow (.int .i64) (.int .i64 6) (dataMap w.heap.size v3.heap.size v5.heap.size 0 5).toList 0 = some none) := Lib.hid (dataMap_new w.heap.size v3.heap.size v5.heap.size 0 5 (by omega))
  go_wp2_with (first
    | ((with_reducible refine wpList_insert_int (o := ⟨none, .insert 99 (.tmp 11) (.const (.int .i64 6)) (.tmp 19), _, _, _, _⟩) _ rfl (.tmp 11) (.const (.int .i64 6)) (.tmp 19) 99 rfl 3 130 .i64 Tryz.underlying99 Tryz.underlying3 (w.heap.size + 1) (dataMap w.heap.size v3.heap.size v5.heap.size 0 5) 5 rfl M5'.out 6 rfl _ rfl F5.out ?_); intro v6 hm ht; have M6 := Lib.hid (show v6.heap[w.heap.size + 1]? = some (.map (dataMap w.heap.size v3.heap.size v5.heap.size 0 (5 + 1)) (5 + 1)) from hm.trans (by rw [← dataMap_snoc]; rfl)); have T6 := Lib.hid ht; clear hm ht))
  refine (pairFn_any 7 1 w.heap.size _).mono ?_
  rintro e w' ⟨rfl, rfl⟩
  have hx : Below v6.heap.size v6 ((v6.alloc (.cells #[.int .i64 7] 3)).alloc (.cells #[.int .i64 1] 3)) := ((Below.refl _ _).alloc (Nat.le_refl _) _).alloc (by simp) _
  have HZ7 := Lib.hid (show v6.heap.size + 2 ≤ ((v6.alloc (.cells #[.int .i64 7] 3)).alloc (.cells #[.int .i64 1] 3)).heap.size by simp)
  have C7 := Lib.hid (show ((v6.alloc (.cells #[.int .i64 7] 3)).alloc (.cells #[.int .i64 1] 3)).cell? ⟨v6.heap.size, 0, none⟩ = some (.int .i64 7) by go_simp)
  have U7 := Lib.hid (show ((v6.alloc (.cells #[.int .i64 7] 3)).alloc (.cells #[.int .i64 1] 3)).cell? ⟨v6.heap.size + 1, 0, none⟩ = some (.int .i64 1) by go_simp)
  generalize ((v6.alloc (.cells #[.int .i64 7] 3)).alloc (.cells #[.int .i64 1] 3)) = w7 at *
  have X7 := Lib.hid hx
  have M6' := Lib.hid (show w7.heap[w.heap.size + 1]? = some (.map (dataMap w.heap.size v3.heap.size v5.heap.size v6.heap.size 6) 6) from (hx.block _ (Array.getElem?_eq_some_iff.1 M6.out).1).trans (M6.out.trans (by rw [dataMap_less w.heap.size v3.heap.size v5.heap.size 0 v3.heap.size v5.heap.size v6.heap.size 6 (by omega) (by omega) (by omega) (by omega)])))
  clear hx
  have F6 : Hid (Instr.findNow (.int .i64) (.int .i64 7) (dataMap w.heap.size v3.heap.size v5.heap.size v6.heap.size 6).toList 0 = some none) := Lib.hid (dataMap_new w.heap.size v3.heap.size v5.heap.size v6.heap.size 6 (by omega))
  go_wp2_with (first
    | ((with_reducible refine wpList_insert_int (o := ⟨none, .insert 99 (.tmp 11) (.const (.int .i64 7)) (.tmp 21), _, _, _, _⟩) _ rfl (.tmp 11) (.const (.int .i64 7)) (.tmp 21) 99 rfl 3 130 .i64 Tryz.underlying99 Tryz.underlying3 (w.heap.size + 1) (dataMap w.heap.size v3.heap.size v5.heap.size v6.heap.size 6) 6 rfl M6'.out 7 rfl _ rfl F6.out ?_); intro v7 hm ht; have M7 := Lib.hid (show v7.heap[w.heap.size + 1]? = some (.map (dataMap w.heap.size v3.heap.size v5.heap.size v6.heap.size (6 + 1)) (6 + 1)) from hm.trans (by rw [← dataMap_snoc]; rfl)); have T7 := Lib.hid ht; clear hm ht))
  go_ret
  have hw0 := (HW.out (.cells #[.pointer (some ⟨pb, 0, none⟩)] 127)).out.1
  have t3 := (T1.out.trans T2.out).trans T3.out
  have s3 : v3.heap.size = w.heap.size + 2 := by rw [t3.size]; simp
  have t45 := T4.out.trans T5.out
  have z4 := HZ4.out
  have z6 := HZ6.out
  have z7 := HZ7.out
  have s5 : v5.heap.size = w4.heap.size := t45.size
  have s6 : v6.heap.size = w6.heap.size := T6.out.size
  have s7 : v7.heap.size = w7.heap.size := T7.out.size
  have b3 : Below w.heap.size w v3 := hw0.trans (t3.below (by omega))
  have b5 : Below w.heap.size w v5 := (b3.trans (X4.out.mono (by omega))).trans (t45.below (by omega))
  have b6 : Below w.heap.size w v6 := (b5.trans (X6.out.mono (by omega))).trans (T6.out.below (by omega))
  have b7 : Below w.heap.size w v7 := (b6.trans (X7.out.mono (by omega))).trans (T7.out.below (by omega))
  refine ⟨v3.heap.size, v5.heap.size, v6.heap.size, rfl, b7, M7.out, ?_, ?_, ?_, ?_, ?_, ?_, ?_, by omega⟩
  · rw [T7.out.cell (by simp), X7.out.cell (by dsimp only; omega), T6.out.cell (by simp), X6.out.cell (by dsimp only; omega), t45.cell (by simp), X4.out.cell (by dsimp only; omega), t3.cell (by simp)]; go_simp
  · rw [T7.out.cell (by dsimp only; omega), X7.out.cell (by dsimp only; omega), T6.out.cell (by dsimp only; omega), X6.out.cell (by dsimp only; omega), t45.cell (by dsimp only; omega)]; exact C4.out
  · rw [T7.out.cell (by dsimp only; omega), X7.out.cell (by dsimp only; omega), T6.out.cell (by dsimp only; omega), X6.out.cell (by dsimp only; omega), t45.cell (by dsimp only; omega)]; exact U4.out
  · rw [T7.out.cell (by dsimp only; omega), X7.out.cell (by dsimp only; omega), T6.out.cell (by dsimp only; omega)]; exact C6.out
  · rw [T7.out.cell (by dsimp only; omega), X7.out.cell (by dsimp only; omega), T6.out.cell (by dsimp only; omega)]; exact U6.out
  · rw [T7.out.cell (by dsimp only; omega)]; exact C7.out
  · rw [T7.out.cell (by dsimp only; omega)]; exact U7.out
end Go.Proofs.YtnbolgdccdnjeaaGreatDoor
