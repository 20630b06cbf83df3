/- A map with texts as keys that the call has made: looking up, and a further key. -/
import Derived.Test.YtnbolgdccdnjeaaGreatDoorRf2
import Derived.Test.YtnbolgdccdnjeaaGreatDoorTurned
import Derived.Maps.Own
import Derived.WideMake
namespace Go.Proofs.YtnbolgdccdnjeaaGreatDoor
open Go.RowKit Go.MapKept
/-- The map in block r has these keys and values, in the order of their coming. -/
def MapS (r : Nat) (kvs : List (List UInt8 × Value)) (w : World) : Prop := ∃ es c, w.heap[r]? = some (.map es c) ∧ es.toList.map (fun e => (e.key, e.val)) = kvs.map fun p => (strs p.1, p.2)
theorem MapS.lt {r : Nat} {kvs : List (List UInt8 × Value)} {w : World} (h : MapS r kvs w) : r < w.heap.size := by
  obtain ⟨es, c, h, _⟩ := h
  exact (Array.getElem?_eq_some_iff.1 h).1
theorem MapS.keep {r : Nat} {kvs : List (List UInt8 × Value)} {w w' : World} {n : Nat} (h : MapS r kvs w) (hb : Below n w w') (hn : r < n) : MapS r kvs w' := by
  obtain ⟨es, c, h, h2⟩ := h
  exact ⟨es, c, (hb.block r hn).trans h, h2⟩
theorem MapS.made (w : World) : MapS w.heap.size [] (w.alloc (.map #[] 0)) := ⟨#[], 0, heap_alloc_new _ _, rfl⟩
theorem strs_beq (x y : List UInt8) : ((⟨x.toArray⟩ : ByteArray) == ⟨y.toArray⟩) = (x == y) := by
  have h : ((⟨x.toArray⟩ : ByteArray) == ⟨y.toArray⟩) = (x.toArray == y.toArray) := rfl
  rw [h, List.beq_toArray]
theorem findNow_str (x : List UInt8) : ∀ (es : List MapEntry) (kvs : List (List UInt8 × Value)) (i : Nat), es.map (fun e => (e.key, e.val)) = kvs.map (fun p => (strs p.1, p.2)) →
    (∀ v, kvs.lookup x = some v → ∃ j, Instr.findNow .string (strs x) es i = some (some (j, v))) ∧ (kvs.lookup x = none → Instr.findNow .string (strs x) es i = some none) := by
  intro es
  induction es with
  | nil =>
    intro kvs i h
    cases kvs with
    | nil => exact ⟨fun v hv => by simp at hv, fun _ => rfl⟩
    | cons => simp at h
  | cons e es ih =>
    intro kvs i h
    cases kvs with
    | nil => simp at h
    | cons p kvs =>
      obtain ⟨y, u⟩ := p
      simp only [List.map_cons, List.cons.injEq, Prod.mk.injEq] at h
      obtain ⟨⟨h1, h2⟩, h3⟩ := h
      have hs : Instr.sameNow .string (strs x) e.key = some (x == y) := by rw [h1]; simp only [Instr.sameNow]; rw [strs_beq]
      by_cases hxy : x = y
      · subst hxy
        have hb : (x == x) = true := by simp
        rw [hb] at hs
        refine ⟨fun v hv => ⟨i, ?_⟩, fun hv => ?_⟩
        · rw [List.lookup_cons_self] at hv
          simp only [Instr.findNow, hs]
          cases hv
          rw [h2]
        · rw [List.lookup_cons_self] at hv; cases hv
      · have hb : (x == y) = false := by simpa using hxy
        rw [hb] at hs
        have hl : ((y, u) :: kvs).lookup x = kvs.lookup x := by rw [List.lookup_cons, hb]
        rw [hl]
        obtain ⟨i1, i2⟩ := ih kvs (i + 1) h3
        refine ⟨fun v hv => ?_, fun hv => ?_⟩
        · obtain ⟨j, hj⟩ := i1 v hv
          exact ⟨j, by simp only [Instr.findNow, hs]; exact hj⟩
        · simp only [Instr.findNow, hs]; exact i2 hv
section
variable {P : Program} {ops : Array Oper} {rest : List Oper} {o : Oper} {a : Act} {Q : Exit → Act → World → Prop}
/-- A new key. -/
theorem wpList_update_str (w : World) (hg : o.guard = none) (m x v : Operand) (t : TypeId) (hop : o.op = Op.mapUpdate t m x v) (kt et : TypeId) (ht : P.underlying t = some (.map kt et)) (hk : P.underlying kt = some .string)
    (r : Nat) (kvs : List (List UInt8 × Value)) (hm : a.eval m = .map (some r)) (hr : MapS r kvs w) (key : List UInt8) (hx : a.eval x = strs key) (val : Value) (hv : a.eval v = val) (hno : kvs.lookup key = none)
    (hK : ∀ w', MapS r (kvs ++ [(key, val)]) w' → Turned r w w' → wpList P ops Q rest (a.put o.dst undef) w') : wpList P ops Q (o :: rest) a w := by
  obtain ⟨es, c, hr, he⟩ := hr
  have hf := (findNow_str key es.toList kvs 0 he).2 hno
  refine wpList_plain hg fun K' hK' => ?_
  have hc : (Instr.checkKey false 10000 kt (strs key)).run P w = .ok () w := MapKept.run_checkKey (k := strs key) hk (by simp [MapKept.IsKey]) false 9999
  have hrun : (Instr.mapUpdate t (.map (some r)) (strs key) val).run P w = .ok () { w with heap := w.heap.setIfInBounds r (.map (es.push { key := strs key, val := val, born := c }) (c + 1)) } := by
    simp [Instr.mapUpdate, run_underlying ht, MapKept.run_getObj_map hr, hc, MapKept.run_findKey hk hf, MapKept.run_setObj_map _ hr, Result.andThen]
  unfold Oper.wp
  simp [execOp, hop, hm, hx, hv, hrun, Result.andThen]
  have hl : r < w.heap.size := (Array.getElem?_eq_some_iff.1 hr).1
  refine hK' _ _ (hK _ ⟨_, _, by simp [hl]; exact ⟨rfl, rfl⟩, by simp [he]⟩ ⟨rfl, rfl, rfl, by simp, fun i hi => by simp [Ne.symm hi]⟩)
/-- Is a key there? -/
theorem wpList_lookup_str (w : World) (hg : o.guard = none) (m x : Operand) (t : TypeId) (hop : o.op = Op.lookup t m x false) (kt et : TypeId) (ht : P.underlying t = some (.map kt et)) (hk : P.underlying kt = some .string)
    (r : Nat) (kvs : List (List UInt8 × Value)) (hm : a.eval m = .map (some r)) (hr : MapS r kvs w) (key : List UInt8) (hx : a.eval x = strs key) (z : Value) (hz : (zeroValue et).run P w = .ok z w)
    (hK : wpList P ops Q rest (a.put o.dst ((kvs.lookup key).getD z)) w) : wpList P ops Q (o :: rest) a w := by
  obtain ⟨es, c, hr, he⟩ := hr
  have hf := findNow_str key es.toList kvs 0 he
  refine wpList_plain hg fun K' hK' => ?_
  have hc : ∀ b, (Instr.checkKey b 10000 kt (strs key)).run P w = .ok () w := fun b => MapKept.run_checkKey (k := strs key) hk (by simp [MapKept.IsKey]) b 9999
  have hrun : (Instr.lookup t (.map (some r)) (strs key) false).run P w = .ok ((kvs.lookup key).getD z) w := by
    cases hl : kvs.lookup key with
    | none => simp [Instr.lookup, run_underlying ht, MapKept.run_getObj_map hr, hc, MapKept.run_findKey hk (hf.2 hl), Result.andThen, hz]
    | some v =>
      obtain ⟨j, hj⟩ := hf.1 v hl
      simp [Instr.lookup, run_underlying ht, MapKept.run_getObj_map hr, hc, MapKept.run_findKey hk hj, Result.andThen]
  unfold Oper.wp
  simp [execOp, hop, hm, hx, hrun, Result.andThen]
  exact hK' _ _ hK
end
end Go.Proofs.YtnbolgdccdnjeaaGreatDoor
