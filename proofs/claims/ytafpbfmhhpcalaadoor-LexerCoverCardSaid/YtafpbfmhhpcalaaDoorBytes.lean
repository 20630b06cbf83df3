/- Bytes that are appended: a row of the call's own, handed from call to call. -/
import Derived.Test.YtafpbfmhhpcalaaDoorOwn
import Derived.Test.YtafpbfmhhpcalaaDoorRec3
import Derived.Lib.AppendStr
namespace Go.Proofs.YtafpbfmhhpcalaaDoor
open Go.RowKit

/-- The value v owns the bytes bs, in a block from base on. -/
def OwnB (w : World) (base : Nat) (v : Value) (bs : List UInt8) : Prop := w.ownsRow base 5 1 v bs.length (bs.map fun c => Value.int .u8 c.toNat)

/-- From w to w' only v's own row has turned, and v' lies there or in a new block. -/
structure Handed1 (v v' : Value) (w w' : World) : Prop where
  grown : w.grownBy w' v.ownBlock
  at_ : v'.ownBlock = v.ownBlock ∨ ∃ k, w.heap.size ≤ k ∧ v'.ownBlock = some k
theorem Handed1.refl (v : Value) (w : World) : Handed1 v v w w := ⟨⟨rfl, rfl, rfl, Nat.le_refl _, fun _ _ _ => rfl⟩, .inl rfl⟩
theorem Handed1.trans {a b c : Value} {u v w : World} (h : Handed1 a b u v) (k : Handed1 b c v w) : Handed1 a c u w := by
  refine ⟨⟨k.grown.os.trans h.grown.os, k.grown.tape.trans h.grown.tape, k.grown.output.trans h.grown.output, Nat.le_trans h.grown.size k.grown.size, fun i hi hne => ?_⟩, ?_⟩
  · refine (k.grown.block i (Nat.lt_of_lt_of_le hi h.grown.size) (fun e => ?_)).trans (h.grown.block i hi hne)
    rcases h.at_ with e' | ⟨j, hj, e'⟩
    · rw [e'] at e; exact hne e
    · rw [e'] at e; simp at e; omega
  · rcases k.at_ with e | ⟨j, hj, e⟩
    · rcases h.at_ with e' | ⟨j, hj, e'⟩
      · exact .inl (e.trans e')
      · exact .inr ⟨j, hj, e.trans e'⟩
    · exact .inr ⟨j, Nat.le_trans h.grown.size hj, e⟩
theorem Handed1.below {v v' : Value} {w w' : World} {base n : Nat} {e : TypeId} {k : Nat} {xs : List Value} (h : Handed1 v v' w w') (ho : w.ownsRow base e 1 v k xs) (hb : n ≤ base) (hn : n ≤ w.heap.size) : Below n w w' :=
  ⟨h.grown.os, h.grown.tape, h.grown.output, h.grown.size, fun i hi => h.grown.block i (by omega) (fun e => by have := (ownsRow_base ho i e.symm).1; omega)⟩
/-- New blocks ahead of the step. -/
theorem Handed1.of_below {v v' : Value} {w w1 w2 : World} (hb : Below w.heap.size w w1) (h : Handed1 v v' w1 w2) : Handed1 v v' w w2 := by
  refine ⟨⟨h.grown.os.trans hb.os, h.grown.tape.trans hb.tape, h.grown.output.trans hb.output, Nat.le_trans hb.size h.grown.size, fun i hi hne => (h.grown.block i (Nat.lt_of_lt_of_le hi hb.size) hne).trans (hb.block i hi)⟩, ?_⟩
  rcases h.at_ with e | ⟨k, hk, e⟩
  · exact .inl e
  · exact .inr ⟨k, Nat.le_trans hb.size hk, e⟩

section
variable {P : Program} (w : World)
theorem run_append_string_at (base : Nat) (t u ty e : TypeId) (i : TypeInfo) (ht : P.underlying t = some (.slice e)) (hu : P.underlying u = some .string) (hi : P.info? e = some i) (hz : i.zero = some (.int .u8 0))
    (hsize : i.size = 1) (hby : i.bytes = 1) (v : Value) (n : Nat) (xs : List Value) (hown : w.ownsRow base e 1 v n xs) (s : ByteArray) (h63 : n + s.size ≤ maxLen) (hbytes : n + s.size ≤ 140737488355328) (hbase : base ≤ w.heap.size) :
    ∃ v' w', (Builtin.append_ #[t, u] ty #[v, .string s]).run P w = .ok v' w' ∧ w'.ownsRow base e 1 v' (n + s.size) (xs ++ Lib.strCells s) ∧ w.grownBy w' v.ownBlock ∧ (v'.ownBlock = v.ownBlock ∨ v'.ownBlock = some w.heap.size) := by
  obtain ⟨v', w', hrun, h2, h3, h4⟩ := Lib.run_append_own_string (P := P) w base t u ty e i ht hu hi hz hsize hby v n xs hown s h63 hbytes hbase
  refine ⟨v', w', hrun, h2, h3, ?_⟩
  have hm63 : n + s.size ≤ 9223372036854775807 := by simp only [maxLen] at h63; omega
  rcases hown.2 with ⟨rfl, rfl⟩ | ⟨g, cap, cur, rfl, hbg, hg, hnc, hcm, hcs, htake⟩
  · by_cases hm : s.size = 0
    · exact .inl (by rw [h4.2 ⟨rfl, hm⟩])
    · have hr := run_append_nil_string (P := P) w t u ty e i (.int .u8 0) ht hu hi hz s (by omega) (by omega) (by rw [hby]; omega)
      rw [hr] at hrun
      injection hrun with h5 _
      exact .inr (by rw [← h5]; rfl)
  · by_cases hroom : n + s.size ≤ cap
    · have hr := Lib.run_append_room_string (P := P) w t u ty e i ht hu hi hsize g n cap cur hg s hroom (by omega)
      rw [hr] at hrun
      injection hrun with h5 _
      exact .inl (by rw [← h5]; rfl)
    · have holds : ∀ j u, xs[j]? = some u → w.cell? ((⟨g, 0, none⟩ : Addr).add j) = some u := hown.cells (g := g) rfl
      have hr := Lib.run_append_grow_string (P := P) w t u ty e i (.int .u8 0) ht hu hi hz ⟨g, 0, none⟩ n cap xs (by rw [hsize]; exact hown.1) holds s (by omega) (by omega) (by rw [hby]; exact growslice_fits (by omega) (by omega))
      rw [hr] at hrun
      injection hrun with h5 _
      exact .inr (by rw [← h5]; rfl)

theorem wpList_append_string_at {ops : Array Oper} {rest : List Oper} {o : Oper} {a : Act} {Q : Exit → Act → World → Prop} (hgd : o.guard = none) (sl x : Operand) (t u : TypeId)
    (ho : o.op = .call { callee := .builtin .append, args := #[sl, x], argTypes := #[t, u] })
    (base : Nat) (e : TypeId) (i : TypeInfo) (ht : P.underlying t = some (.slice e)) (hu : P.underlying u = some .string) (hi : P.info? e = some i) (hz : i.zero = some (.int .u8 0)) (hsize : i.size = 1) (hby : i.bytes = 1)
    (v : Value) (n : Nat) (xs : List Value) (hs : a.eval sl = v) (hown : w.ownsRow base e 1 v n xs) (s : ByteArray) (hx : a.eval x = .string s) (h63 : n + s.size ≤ maxLen) (hbytes : n + s.size ≤ 140737488355328) (hbase : base ≤ w.heap.size)
    (h : ∀ v' w', w'.ownsRow base e 1 v' (n + s.size) (xs ++ Lib.strCells s) → w.grownBy w' v.ownBlock → (v'.ownBlock = v.ownBlock ∨ v'.ownBlock = some w.heap.size) → wpList P ops Q rest (a.put o.dst v') w') : wpList P ops Q (o :: rest) a w := by
  obtain ⟨v', w', hr, h2, h3, h4⟩ := run_append_string_at (P := P) w base t u o.type e i ht hu hi hz hsize hby v n xs hown s h63 hbytes hbase
  refine wpList_plain hgd fun K hK => ?_
  unfold Oper.wp execOp
  simp only [ho, resolve, invoke, builtin, Sem.run_bind, Sem.run_pure, Result.andThen_ok, List.map_toArray, List.map_cons, List.map_nil, hs, hx, hr]
  exact hK _ _ (h v' w' h2 h3 h4)
end

theorem Tryd.infoByte : (Tryd.prog.info? 5).map (fun i => (i.zero, i.size, i.bytes)) = some (some (.int .u8 0), 1, 1) := by kernel_rfl

/-- Bytes are appended to v. -/
def GivesB (base : Nat) (v : Value) (bs : List UInt8) (w : World) (e : Ending) (w' : World) : Prop := ∃ v', e = .returned v' ∧ OwnB w' base v' bs ∧ Handed1 v v' w w'

theorem strCells_map (s : ByteArray) : Lib.strCells s = s.data.toList.map fun c => Value.int .u8 c.toNat := rfl
theorem ownB_snoc {w : World} {base : Nat} {v : Value} {bs : List UInt8} {k : Int} {c : UInt8} (hc : (c.toNat : Int) = k) (h : w.ownsRow base 5 1 v (bs.length + 1) ((bs.map fun c => Value.int .u8 c.toNat) ++ [.int .u8 k])) : OwnB w base v (bs ++ [c]) := by
  unfold OwnB
  subst hc
  simpa using h
theorem ownB_str {w : World} {base : Nat} {v : Value} {bs : List UInt8} {s : ByteArray} (h : w.ownsRow base 5 1 v (bs.length + s.size) ((bs.map fun c => Value.int .u8 c.toNat) ++ Lib.strCells s)) : OwnB w base v (bs ++ s.data.toList) := by
  unfold OwnB
  rw [strCells_map, ← List.map_append] at h
  simpa using h

theorem handed_step {v v' : Value} {w w' : World} (hg : w.grownBy w' v.ownBlock) (hat : v'.ownBlock = v.ownBlock ∨ v'.ownBlock = some w.heap.size) : Handed1 v v' w w' :=
  ⟨hg, hat.elim .inl fun h => .inr ⟨_, Nat.le_refl _, h⟩⟩

set_option maxRecDepth 100000 in
set_option maxHeartbeats 1000000 in
theorem appendText_any (base : Nat) (v : Value) (bs : List UInt8) (s : ByteArray) (hl : bs.length ≤ 1000000) (hs : s.size ≤ 255) (w : World) (hb : base ≤ w.heap.size) (h : OwnB w base v bs) :
    Calls Tryd.prog 71 #[v, .string s] w (GivesB base v (bs ++ (UInt8.ofNat s.size :: s.data.toList)) w) := by
  obtain ⟨A, cap, rfl⟩ := ownsRow_form h
  have H := Lib.hid h
  clear h
  obtain ⟨i0, hi, hz0, hz1, hz2⟩ := info_parts Tryd.infoByte
  go_enter Tryd.func71, Tryd.ntmps71
  go_wp2_with (first
    | (at_builtin; refine wpList_append_own_at _ rfl _ _ 80 rfl base 5 i0 (.int .u8 0) 1 1 Tryd.underlying80 hi hz0 hz1 hz2 rfl (by decide) _ _ _ rfl (H.out.alloc _) ⟨w.heap.size, 0, none⟩ 1 1 [.int .u8 s.size] rfl rfl (cell_one_new _ _ _) (by simp [Value.oneCell']) (by unfold maxLen; omega) (by omega) (by simp; omega) ?_; intro v1 w1 hown1 hg1 _ hat1; have H1 := Lib.hid (And.intro hown1 (And.intro hg1 hat1)); clear hown1 hg1 hat1)
    | (at_builtin; refine wpList_append_string_at _ rfl _ _ 80 9 rfl base 5 i0 Tryd.underlying80 Tryd.underlying9 hi hz0 hz1 hz2 _ _ _ rfl H1.out.1 s rfl (by unfold maxLen; omega) (by omega) (by have := H1.out.2.1.size; simp at this; omega) ?_; intro v2 w2 hown2 hg2 hat2; have H2 := Lib.hid (And.intro hown2 (And.intro hg2 hat2)); clear hown2 hg2 hat2))
  go_ret
  obtain ⟨o1, g1, a1⟩ := H1.out
  obtain ⟨o2, g2, a2⟩ := H2.out
  refine ⟨_, rfl, ?_, ?_⟩
  · have := ownB_str (bs := bs ++ [UInt8.ofNat s.size]) (s := s) (w := w2) (base := base) (v := v2) (by
      have hc : (UInt8.ofNat s.size).toNat = s.size := by simp; omega
      simp [hc]
      simpa using o2)
    simpa using this
  · exact ((handed_step g1 a1).of_below ((Below.refl _ w).alloc (Nat.le_refl _) _)).trans (handed_step g2 a2)
end Go.Proofs.YtafpbfmhhpcalaaDoor
