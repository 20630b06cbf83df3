/- Joined by program from: AppStr, Bld, Bld2, Entry, Entry2. No condition. -/
import Derived.Test.YtnbolgdccdnjeaaGreatDoorKA
import Derived.Lib.AppendStr
import Derived.Test.YtnbolgdccdnjeaaGreatDoorProg
import Derived.Test.YtnbolgdccdnjeaaGreatDoorRf2
import Derived.Lib.Builder
import Derived.Lib.UnsafeStr
import Derived.Laws.Externs
import Derived.Laws.EntriesVeiled
import Derived.RegionTactic
import Derived.Test.YtnbolgdccdnjeaaGreatDoorPA
import Derived.Test.YtnbolgdccdnjeaaGreatDoorNB
import Derived.Test.YtnbolgdccdnjeaaGreatDoorShelf5
import Derived.Deep.DeepCutAuto
import Derived.Lib.AppendIntMem
/- A string that is appended to bytes of the call's own: where they lie behind it. No condition. -/
namespace Go.Proofs.YtnbolgdccdnjeaaGreatDoor
open Go.RowKit
section
variable {P : Program} (w : World)
theorem run_append_string_at (base : Nat) (t u ty e : TypeId) (i : TypeInfo) (ht : P.underlying t = some (.slice e)) (hu : P.underlying u = some .string) (hi : P.info? e = some i) (hz : i.zero = some (.int .u8 0))
    (hsize : i.size = 1) (hby : i.bytes = 1) (v : Value) (n : Nat) (xs : List Value) (hown : w.ownsRow base e 1 v n xs) (s : ByteArray) (h63 : n + s.size ≤ maxLen) (hbytes : n + s.size ≤ 140737488355328) (hbase : base ≤ w.heap.size) :
    ∃ v' w', (Builtin.append_ #[t, u] ty #[v, .string s]).run P w = .ok v' w' ∧ w'.ownsRow base e 1 v' (n + s.size) (xs ++ Lib.strCells s) ∧ w.grownBy w' v.ownBlock ∧ (v'.ownBlock = v.ownBlock ∨ v'.ownBlock = some w.heap.size) ∧ (v' = .slice none 0 0 ↔ v = .slice none 0 0 ∧ s.size = 0) := by
  obtain ⟨v', w', hrun, h2, h3, h4⟩ := Lib.run_append_own_string (P := P) w base t u ty e i ht hu hi hz hsize hby v n xs hown s h63 hbytes hbase
  refine ⟨v', w', hrun, h2, h3, ?_, h4⟩
  have hm63 : n + s.size ≤ 9223372036854775807 := by simp only [maxLen] at h63; omega
  rcases hown.2 with ⟨rfl, rfl⟩ | ⟨g, cap, cur, rfl, hbg, hg, hnc, hcm, hcs, htake⟩
  · by_cases hm : s.size = 0
    · exact .inl (by rw [h4.2 ⟨rfl, hm⟩])
    · have hr := run_append_nil_string (P := P) w t u ty e i (.int .u8 0) ht hu hi hz s (by omega) (by omega) (by rw [hby]; omega)
      rw [hr] at hrun
      injection hrun with h5 _
      exact .inr (by rw [← h5]; rfl)
  · by_cases hroom : n + s.size ≤ cap
    · have hr := Lib.run_append_room_string (P := P) w t u ty e i ht hu hi hsize g n cap cur hg s hroom (by omega)
      rw [hr] at hrun
      injection hrun with h5 _
      exact .inl (by rw [← h5]; rfl)
    · have holds : ∀ j u, xs[j]? = some u → w.cell? ((⟨g, 0, none⟩ : Addr).add j) = some u := hown.cells (g := g) rfl
      have hr := Lib.run_append_grow_string (P := P) w t u ty e i (.int .u8 0) ht hu hi hz ⟨g, 0, none⟩ n cap xs (by rw [hsize]; exact hown.1) holds s (by omega) (by omega) (by rw [hby]; exact growslice_fits (by omega) (by omega))
      rw [hr] at hrun
      injection hrun with h5 _
      exact .inr (by rw [← h5]; rfl)

theorem wpList_append_string_at {ops : Array Oper} {rest : List Oper} {o : Oper} {a : Act} {Q : Exit → Act → World → Prop} (hgd : o.guard = none) (sl x : Operand) (t u : TypeId)
    (ho : o.op = .call { callee := .builtin .append, args := #[sl, x], argTypes := #[t, u] })
    (base : Nat) (e : TypeId) (i : TypeInfo) (ht : P.underlying t = some (.slice e)) (hu : P.underlying u = some .string) (hi : P.info? e = some i) (hz : i.zero = some (.int .u8 0)) (hsize : i.size = 1) (hby : i.bytes = 1)
    (v : Value) (n : Nat) (xs : List Value) (hs : a.eval sl = v) (hown : w.ownsRow base e 1 v n xs) (s : ByteArray) (hx : a.eval x = .string s) (h63 : n + s.size ≤ maxLen) (hbytes : n + s.size ≤ 140737488355328) (hbase : base ≤ w.heap.size)
    (h : ∀ v' w', w'.ownsRow base e 1 v' (n + s.size) (xs ++ Lib.strCells s) → w.grownBy w' v.ownBlock → (v'.ownBlock = v.ownBlock ∨ v'.ownBlock = some w.heap.size) → (v' = .slice none 0 0 ↔ v = .slice none 0 0 ∧ s.size = 0) → wpList P ops Q rest (a.put o.dst v') w') : wpList P ops Q (o :: rest) a w := by
  obtain ⟨v', w', hr, h2, h3, h4, h5⟩ := run_append_string_at (P := P) w base t u o.type e i ht hu hi hz hsize hby v n xs hown s h63 hbytes hbase
  refine wpList_plain hgd fun K hK => ?_
  unfold Oper.wp execOp
  simp only [ho, resolve, invoke, builtin, Sem.run_bind, Sem.run_pure, Result.andThen_ok, List.map_toArray, List.map_cons, List.map_nil, hs, hx, hr]
  exact hK _ _ (h v' w' h2 h3 h4 h5)
end

theorem Tryz.infoByte : (Tryz.prog.info? 5).map (fun i => (i.zero, i.size, i.bytes)) = some (some (.int .u8 0), 1, 1) := by kernel_rfl
end Go.Proofs.YtnbolgdccdnjeaaGreatDoor
/- A strings.Builder of the call's own, in a block of its own or at the head of a struct: what its methods do. -/
namespace Go.Proofs.YtnbolgdccdnjeaaGreatDoor
open Go.RowKit
/-- A type of two cells with a Builder at its head. -/
structure BldT (T : TypeId) : Prop where
  lies : liesAt Tryz.prog Tryz.prog.depth T (2 / Tryz.prog.cellsOf T) 0 83 1 = true
  ne : T ≠ 5
/-- The builder in block b holds the bytes l; r: the block of its buffer; all that is its own lies from B on. -/
def Bld (T : TypeId) (B b : Nat) (r : Option Nat) (l : List UInt8) (w : World) : Prop :=
  ∃ p v, (p = .pointer none ∨ p = .pointer (some ⟨b, 0, none⟩)) ∧ B ≤ b ∧ w.heap[b]? = some (.cells #[p, v] T (0, 0)) ∧ w.ownsRow B 5 1 v l.length (Lib.byteCells l) ∧ v.ownBlock = r ∧ r ≠ some b ∧ (l = [] → v = .slice none 0 0)
/-- What a step of a builder leaves alone. -/
structure BS (b : Nat) (r : Option Nat) (w : World) (r' : Option Nat) (w' : World) : Prop where
  os : w'.os = w.os
  tape : w'.tape = w.tape
  output : w'.output = w.output
  size : w.heap.size ≤ w'.heap.size
  keep : ∀ k, k < w.heap.size → k ≠ b → r ≠ some k → w'.heap[k]? = w.heap[k]?
  at_ : r' = r ∨ ∃ k, w.heap.size ≤ k ∧ r' = some k
theorem BS.refl (b : Nat) (r : Option Nat) (w : World) : BS b r w r w := ⟨rfl, rfl, rfl, Nat.le_refl _, fun _ _ _ _ => rfl, .inl rfl⟩
theorem BS.trans {b : Nat} {r r' r'' : Option Nat} {w w' w'' : World} (h : BS b r w r' w') (k : BS b r' w' r'' w'') : BS b r w r'' w'' := by
  refine ⟨k.os.trans h.os, k.tape.trans h.tape, k.output.trans h.output, Nat.le_trans h.size k.size, fun i hi hb hr => ?_, ?_⟩
  · refine (k.keep i (Nat.lt_of_lt_of_le hi h.size) hb (fun e => ?_)).trans (h.keep i hi hb hr)
    rcases h.at_ with e' | ⟨j, hj, e'⟩
    · rw [e'] at e; exact hr e
    · rw [e'] at e; simp at e; omega
  · rcases k.at_ with e | ⟨j, hj, e⟩
    · rcases h.at_ with e' | ⟨j, hj, e'⟩
      · exact .inl (e.trans e')
      · exact .inr ⟨j, hj, e.trans e'⟩
    · exact .inr ⟨j, Nat.le_trans h.size hj, e⟩
theorem BS.of_below {b : Nat} {r : Option Nat} {w w' : World} (h : Below w.heap.size w w') : BS b r w r w' := ⟨h.os, h.tape, h.output, h.size, fun k hk _ _ => h.block k hk, .inl rfl⟩
theorem BS.after {b : Nat} {r r' : Option Nat} {w w' w'' : World} (h : BS b r w r' w') (k : Below w'.heap.size w' w'') : BS b r w r' w'' := h.trans (BS.of_below k)
theorem BS.below {b : Nat} {r r' : Option Nat} {w w' : World} {n : Nat} (h : BS b r w r' w') (hb : n ≤ b) (hr : ∀ k, r = some k → n ≤ k) (hn : n ≤ w.heap.size) : Below n w w' :=
  ⟨h.os, h.tape, h.output, h.size, fun k hk => h.keep k (by omega) (by omega) (fun e => by have := hr k e; omega)⟩
theorem BS.cell {b : Nat} {r r' : Option Nat} {w w' : World} (h : BS b r w r' w') {k : Nat} (hk : k < w.heap.size) (hb : k ≠ b) (hr : r ≠ some k) (o : Nat) : w'.cell? ⟨k, o, none⟩ = w.cell? ⟨k, o, none⟩ := World.cell?_of_block (w := w) (h.keep k hk hb hr)
theorem BS.free {b : Nat} {r r' : Option Nat} {w w' : World} (h : BS b r w r' w') {k : Nat} (hk : k < w.heap.size) (hr : r ≠ some k) : r' ≠ some k := fun e => by
  rcases h.at_ with e' | ⟨j, hj, e'⟩
  · rw [e'] at e; exact hr e
  · rw [e'] at e; simp at e; omega
theorem Bld.row {T : TypeId} {B b : Nat} {r : Option Nat} {l : List UInt8} {w : World} (h : Bld T B b r l w) : B ≤ b ∧ b < w.heap.size ∧ ∀ k, r = some k → B ≤ k ∧ k < w.heap.size := by
  obtain ⟨p, v, _, hB, hb, ho, rfl, _, _⟩ := h
  exact ⟨hB, (Array.getElem?_eq_some_iff.1 hb).1, fun k hk => ho.lt k hk⟩
theorem Bld.keep {T : TypeId} {B b : Nat} {r : Option Nat} {l : List UInt8} {w w' : World} (h : Bld T B b r l w) (hb : Below w.heap.size w w') : Bld T B b r l w' := by
  have hrow := h.row
  obtain ⟨p, v, hp, hB, hh, ho, rfl, hne, hn⟩ := h
  refine ⟨p, v, hp, hB, (hb.block b hrow.2.1).trans hh, ownsRow_keep ho (fun g hg => hb.block g (hrow.2.2 g hg).2), rfl, hne, hn⟩
theorem Bld.fresh (T : TypeId) (w : World) : Bld T w.heap.size w.heap.size none [] (w.alloc (.cells #[.pointer none, .slice none 0 0] T)) :=
  ⟨_, _, .inl rfl, Nat.le_refl _, heap_alloc_new w _, World.ownsRow_nil _ _ _ _, rfl, by simp, fun _ => rfl⟩
theorem ownBlock_not {w : World} {base : Nat} {e T : TypeId} {v : Value} {n : Nat} {xs : List Value} {b : Nat} {cs : Array Value} {fr : Nat × Nat} (ho : w.ownsRow base e 1 v n xs) (hb : w.heap[b]? = some (.cells cs T fr)) (hT : T ≠ e) : v.ownBlock ≠ some b := by
  intro h
  rcases ho.2 with ⟨rfl, _⟩ | ⟨g, cap, cur, rfl, _, hg, _⟩
  · cases h
  · have : g = b := Option.some.inj h
    subst this
    rw [hb] at hg
    simp only [Option.some.injEq, Obj.cells.injEq] at hg
    exact hT hg.2.1
theorem cellsByteB : Tryz.prog.cellsOf 5 = 1 := by kernel_rfl
theorem sizeBuilder : (Tryz.prog.info? 83).map (·.size) = some 2 := by kernel_rfl
set_option maxRecDepth 100000 in
set_option maxHeartbeats 1000000 in
theorem copyCheck_used (b : Nat) (w : World) (h0 : w.cell? ⟨b, 0, none⟩ = some (.pointer (some ⟨b, 0, none⟩))) :
    Calls Tryz.prog 162 #[.pointer (some ⟨b, 0, none⟩)] w fun e w' => e = .returned (.tuple #[]) ∧ w' = w := by
  obtain ⟨j, hj, _⟩ := Option.map_eq_some_iff.1 sizeBuilder
  go_enter Tryz.func162, Tryz.ntmps162
  go_wp2
  rw [Lib.run_neq_ptr_same w _ Tryz.underlying80 hj]
  go_wp2
  go_end0
  exact ⟨rfl, rfl⟩
set_option maxRecDepth 100000 in
set_option maxHeartbeats 1000000 in
theorem copyCheck_fresh {T : TypeId} (hT : BldT T) (b : Nat) (w : World) (h0 : w.cell? ⟨b, 0, none⟩ = some (.pointer none)) (hsh : w.shape? b = some (T, 2)) (hfz : w.frozen? ⟨b, 0, none⟩ = false) :
    Calls Tryz.prog 162 #[.pointer (some ⟨b, 0, none⟩)] w fun e w' => e = .returned (.tuple #[]) ∧ w' = w.setCell ⟨b, 0, none⟩ (.pointer (some ⟨b, 0, none⟩)) := by
  obtain ⟨j, hj, hjs⟩ := Option.map_eq_some_iff.1 sizeBuilder
  go_enter Tryz.func162, Tryz.ntmps162
  go_wp2
  rw [Lib.run_to_unsafe w ⟨b, 0, none⟩ Tryz.underlying80 Tryz.underlying196 hj (by rw [hjs]; decide) hsh (Nat.zero_lt_succ 1)]
  simp only [Result.andThen]
  rw [Oper.upon_value]
  go_wp2
  rw [run_callFunc_extern Tryz.func186 (by kernel_rfl) (by kernel_rfl) (by kernel_rfl) (e := Extern.AbiNoEscape.same) (by kernel_rfl)]
  rw [Lib.run_noEscape]
  simp only [Result.andThen]
  rw [Oper.upon_value]
  go_wp2
  rw [Lib.run_from_unsafe w ⟨b, 0, none⟩ Tryz.underlying196 Tryz.underlying80 hj hsh hT.lies]
  simp only [Result.andThen]
  rw [Oper.upon_value]
  go_wp2
  go_end0
  exact ⟨rfl, rfl⟩
/-- Behind copyCheck the builder knows its own address. -/
def Used (T : TypeId) (B b : Nat) (r : Option Nat) (l : List UInt8) (w : World) : Prop :=
  ∃ v, B ≤ b ∧ w.heap[b]? = some (.cells #[.pointer (some ⟨b, 0, none⟩), v] T (0, 0)) ∧ w.ownsRow B 5 1 v l.length (Lib.byteCells l) ∧ v.ownBlock = r ∧ r ≠ some b ∧ (l = [] → v = .slice none 0 0)
theorem copyCheck_any {T : TypeId} (hT : BldT T) (B b : Nat) (r : Option Nat) (l : List UInt8) (w : World) (h : Bld T B b r l w) :
    Calls Tryz.prog 162 #[.pointer (some ⟨b, 0, none⟩)] w fun e w' => e = .returned (.tuple #[]) ∧ Used T B b r l w' ∧ BS b r w r w' := by
  obtain ⟨p, v, hp, hB, hb, ho, hr, hne, hn⟩ := h
  have hlt := (Array.getElem?_eq_some_iff.1 hb).1
  rcases hp with rfl | rfl
  · refine (copyCheck_fresh hT b w (by rw [Lib.cell_of_heap hb]; rfl) (by simp [World.shape?, hb]) (Lib.frozen_of_heap hb 0)).mono ?_
    rintro e w' ⟨rfl, rfl⟩
    refine ⟨rfl, ⟨v, hB, ?_, ?_, hr, hne, hn⟩, ⟨rfl, rfl, rfl, by simp [World.setCell], fun k _ hk _ => Below.heap_setCell _ _ _ _ hk, .inl rfl⟩⟩
    · simp [World.setCell, Array.getElem?_modify, hb]
    · exact ownsRow_keep ho (fun g hg => Below.heap_setCell _ _ _ _ (fun e => by rw [hr] at hg; exact hne (by rw [hg]; simpa using e)))
  · refine (copyCheck_used b w (by rw [Lib.cell_of_heap hb]; rfl)).mono ?_
    rintro e w' ⟨rfl, rfl⟩
    exact ⟨rfl, ⟨v, hB, hb, ho, hr, hne, hn⟩, BS.refl _ _ _⟩
/-- The row is put back into the builder. -/
theorem used_put {T : TypeId} (hT : BldT T) {B b : Nat} {r : Option Nat} {w1 w2 : World} {v v' : Value} {l' : List UInt8} (hB : B ≤ b) (hb2 : w2.heap[b]? = some (.cells #[.pointer (some ⟨b, 0, none⟩), v] T (0, 0)))
    (ho : w2.ownsRow B 5 1 v' l'.length (Lib.byteCells l')) (hsz : w1.heap.size ≤ w2.heap.size) (hkeep : ∀ k, k < w1.heap.size → k ≠ b → r ≠ some k → w2.heap[k]? = w1.heap[k]?) (hos : w2.os = w1.os ∧ w2.tape = w1.tape ∧ w2.output = w1.output)
    (hat : v'.ownBlock = r ∨ ∃ k, w1.heap.size ≤ k ∧ v'.ownBlock = some k) (hn : l' = [] → v' = .slice none 0 0) :
    Bld T B b v'.ownBlock l' (w2.setCell ⟨b, 1, none⟩ v') ∧ BS b r w1 v'.ownBlock (w2.setCell ⟨b, 1, none⟩ v') := by
  have hne := ownBlock_not ho hb2 hT.ne
  refine ⟨⟨_, v', .inr rfl, hB, ?_, ?_, rfl, hne, hn⟩, ⟨hos.1, hos.2.1, hos.2.2, by simpa [World.setCell] using hsz, fun k hk h1 h2 => (Below.heap_setCell _ _ _ _ h1).trans (hkeep k hk h1 h2), hat⟩⟩
  · simp [World.setCell, Array.getElem?_modify, hb2]
  · exact ownsRow_keep ho (fun g hg => Below.heap_setCell _ _ _ _ (fun e => hne (by rw [hg]; simpa using e)))
def GivesBld (T : TypeId) (B b : Nat) (r : Option Nat) (l : List UInt8) (v : Value) (w : World) (e : Ending) (w' : World) : Prop := e = .returned v ∧ ∃ r', Bld T B b r' l w' ∧ BS b r w r' w'
set_option maxRecDepth 100000 in
set_option maxHeartbeats 2000000 in
theorem writeByte_any {T : TypeId} (hT : BldT T) (B b : Nat) (r : Option Nat) (l : List UInt8) (c : UInt8) (w : World) (h : Bld T B b r l w) (hl : l.length ≤ 100000000) (hBw : B ≤ w.heap.size) :
    Calls Tryz.prog 124 #[.pointer (some ⟨b, 0, none⟩), .int .u8 c.toNat] w (GivesBld T B b r (l ++ [c]) .nilIface w) := by
  obtain ⟨i0, hi, hz0, hz1, hz2⟩ := info_parts Tryz.infoByte
  have H := Lib.hid h
  clear h
  go_enter Tryz.func124, Tryz.ntmps124
  go_wp2_with fail
  refine (copyCheck_any hT B b r l _ H.out).mono ?_
  rintro e w1 ⟨rfl, ⟨v, hB, hbk, hown, hr, hne, _⟩, hs1⟩
  have c1 : w1.cell? ⟨b, 1, none⟩ = some v := by rw [Lib.cell_of_heap hbk]; rfl
  have hlt : b < w1.heap.size := (Array.getElem?_eq_some_iff.1 hbk).1
  have HO := Lib.hid hown
  have HBK := Lib.hid hbk
  have HR := Lib.hid hr
  have HS1 := Lib.hid hs1
  have hsz1 := hs1.size
  clear hown hbk hr hs1
  go_wp2_with (at_builtin; refine wpList_append_own_at _ rfl _ _ 81 rfl B 5 i0 (.int .u8 0) 1 1 Tryz.underlying81 hi hz0 hz1 hz2 rfl (by decide) _ _ _ rfl (HO.out.alloc _) ⟨w1.heap.size, 0, none⟩ 1 1 [.int .u8 c.toNat] rfl rfl (cell_one_new _ _ _) (by simp [Value.oneCell']) (by unfold maxLen; omega) (by omega) (by simp; omega) ?_; intro v' w2 hown' hgrow hnil hat; have H2 := Lib.hid (And.intro hown' (And.intro hgrow hat)); clear hown' hgrow hat hnil; have hb2 : w2.heap[b]? = some (.cells #[.pointer (some ⟨b, 0, none⟩), v] T (0, 0)) := (by rw [H2.out.2.1.block b (by simp; omega) (fun e => hne (HR.out.symm.trans e.symm)), Lib.alloc_old w1 _ b hlt]; exact HBK.out); have d1 : w2.cell? ⟨b, 1, none⟩ = some v := (by rw [Lib.cell_of_heap hb2]; rfl); have f1 : w2.frozen? ⟨b, 1, none⟩ = false := Lib.frozen_of_heap hb2 1; have HB2 := Lib.hid hb2; clear hb2; obtain ⟨ao, cap, rfl⟩ := ownsRow_form H2.out.1)
  go_ret
  obtain ⟨o2, g2, a2⟩ := H2.out
  have hfin := used_put hT (r := r) (w1 := w1) (l' := l ++ [c]) hB HB2.out (by simpa [Lib.byteCells] using o2) (by have := g2.size; simp at this; omega) (fun k hk h1 h2 => by rw [g2.block k (by simp; omega) (fun e => h2 (HR.out.symm.trans e.symm)), Lib.alloc_old w1 _ k hk]) ⟨g2.os, g2.tape, g2.output⟩ (by
    rcases a2 with a2 | a2
    · exact .inl (a2.trans HR.out)
    · exact .inr ⟨_, by simp, a2⟩) (by simp)
  exact ⟨rfl, _, hfin.1, HS1.out.trans hfin.2⟩
set_option maxRecDepth 100000 in
set_option maxHeartbeats 2000000 in
theorem writeString_any {T : TypeId} (hT : BldT T) (B b : Nat) (r : Option Nat) (l : List UInt8) (s : ByteArray) (w : World) (h : Bld T B b r l w) (hl : l.length ≤ 100000000) (hs : s.size ≤ 100000000) (hBw : B ≤ w.heap.size) :
    Calls Tryz.prog 125 #[.pointer (some ⟨b, 0, none⟩), .string s] w (GivesBld T B b r (l ++ s.data.toList) (.tuple #[.int .i64 s.size, .nilIface]) w) := by
  obtain ⟨i0, hi, hz0, hz1, hz2⟩ := info_parts Tryz.infoByte
  have H := Lib.hid h
  clear h
  go_enter Tryz.func125, Tryz.ntmps125
  go_wp2_with fail
  refine (copyCheck_any hT B b r l _ H.out).mono ?_
  rintro e w1 ⟨rfl, ⟨v, hB, hbk, hown, hr, hne, hnil⟩, hs1⟩
  have c1 : w1.cell? ⟨b, 1, none⟩ = some v := by rw [Lib.cell_of_heap hbk]; rfl
  have hlt : b < w1.heap.size := (Array.getElem?_eq_some_iff.1 hbk).1
  have HO := Lib.hid hown
  have HBK := Lib.hid hbk
  have HR := Lib.hid hr
  have HS1 := Lib.hid hs1
  have HN := Lib.hid hnil
  have hsz1 := hs1.size
  clear hown hbk hr hs1 hnil
  go_wp2_with (at_builtin; refine wpList_append_string_at _ rfl _ _ 81 9 rfl B 5 i0 Tryz.underlying81 Tryz.underlying9 hi hz0 hz1 hz2 _ _ _ rfl HO.out s rfl (by unfold maxLen; omega) (by omega) (by omega) ?_; intro v' w2 hown' hgrow hat hnl; have H2 := Lib.hid (And.intro hown' (And.intro hgrow hat)); have HNL := Lib.hid hnl; clear hown' hgrow hat hnl; have hb2 : w2.heap[b]? = some (.cells #[.pointer (some ⟨b, 0, none⟩), v] T (0, 0)) := (by rw [H2.out.2.1.block b hlt (fun e => hne (HR.out.symm.trans e.symm))]; exact HBK.out); have d1 : w2.cell? ⟨b, 1, none⟩ = some v := (by rw [Lib.cell_of_heap hb2]; rfl); have f1 : w2.frozen? ⟨b, 1, none⟩ = false := Lib.frozen_of_heap hb2 1; have HB2 := Lib.hid hb2; clear hb2; obtain ⟨ao, cap, rfl⟩ := ownsRow_form H2.out.1)
  go_ret2
  obtain ⟨o2, g2, a2⟩ := H2.out
  have hfin := used_put hT (r := r) (w1 := w1) (l' := l ++ s.data.toList) hB HB2.out (by simpa [Lib.byteCells, Lib.strCells] using o2) g2.size (fun k hk h1 h2 => g2.block k hk (fun e => h2 (HR.out.symm.trans e.symm))) ⟨g2.os, g2.tape, g2.output⟩ (by
    rcases a2 with a2 | a2
    · exact .inl (a2.trans HR.out)
    · exact .inr ⟨_, Nat.le_refl _, a2⟩) (by
    intro h0
    have h1 := List.append_eq_nil_iff.1 h0
    exact HNL.out.2 ⟨HN.out h1.1, by rw [← size_list, h1.2]; rfl⟩)
  exact ⟨rfl, _, hfin.1, HS1.out.trans hfin.2⟩
theorem len_any {T : TypeId} (B b : Nat) (r : Option Nat) (l : List UInt8) (w : World) (h : Bld T B b r l w) :
    Calls Tryz.prog 39 #[.pointer (some ⟨b, 0, none⟩)] w fun e w' => e = .returned (.int .i64 l.length) ∧ w = w' := by
  obtain ⟨p, v, hp, hB, hb, ho, hr, hne, hn⟩ := h
  obtain ⟨ao, cap, rfl⟩ := ownsRow_form ho
  have c1 : w.cell? ⟨b, 1, none⟩ = some (.slice ao l.length cap) := by rw [Lib.cell_of_heap hb]; rfl
  clear hb ho hr hn
  go_enter Tryz.func39, Tryz.ntmps39
  go_wp2
  go_ret
  exact ⟨rfl, rfl⟩
end Go.Proofs.YtnbolgdccdnjeaaGreatDoor
/- The text of a strings.Builder; a line of words. -/
namespace Go.Proofs.YtnbolgdccdnjeaaGreatDoor
open Go.RowKit
/-- A builder whose bytes can be read, written or not since they were read. -/
def BldR (T : TypeId) (B b : Nat) (l : List UInt8) (w : World) : Prop :=
  ∃ p v, B ≤ b ∧ w.heap[b]? = some (.cells #[p, v] T (0, 0)) ∧ ((v = .slice none 0 0 ∧ l = []) ∨ ∃ g cap cur fr, v = .slice (some ⟨g, 0, none⟩) l.length cap ∧ l ≠ [] ∧ B ≤ g ∧ g ≠ b ∧ w.heap[g]? = some (.cells cur 5 fr) ∧ l.length ≤ cur.size ∧ l.length ≤ cap ∧ l.length ≤ 9223372036854775807 ∧ cur.toList.take l.length = Lib.byteCells l)
theorem Bld.read {T : TypeId} {B b : Nat} {r : Option Nat} {l : List UInt8} {w : World} (h : Bld T B b r l w) : BldR T B b l w := by
  obtain ⟨p, v, _, hB, hb, ho, hr, hne, hn⟩ := h
  refine ⟨p, v, hB, hb, ?_⟩
  by_cases h0 : l = []
  · exact .inl ⟨hn h0, h0⟩
  · right
    rcases ho.2 with ⟨_, h1⟩ | ⟨g, cap, cur, rfl, hbg, hg, hnc, hcm, hcs, ht⟩
    · exact absurd (List.eq_nil_of_length_eq_zero h1) h0
    · refine ⟨g, cap, cur, _, rfl, h0, hbg, fun e => hne ?_, hg, by omega, hnc, by unfold maxLen at hcm; omega, by simpa using ht⟩
      rw [← hr, e]; rfl
theorem BldR.keep {T : TypeId} {B b : Nat} {l : List UInt8} {w w' : World} (h : BldR T B b l w) (hb : Below w.heap.size w w') : BldR T B b l w' := by
  obtain ⟨p, v, hB, hh, hv⟩ := h
  refine ⟨p, v, hB, (hb.block b (Array.getElem?_eq_some_iff.1 hh).1).trans hh, ?_⟩
  rcases hv with hv | ⟨g, cap, cur, fr, h1, h2, h3, h4, h5, h6⟩
  · exact .inl hv
  · exact .inr ⟨g, cap, cur, fr, h1, h2, h3, h4, (hb.block g (Array.getElem?_eq_some_iff.1 h5).1).trans h5, h6⟩
theorem freeze_heap_ne {w : World} {g n k : Nat} (h : k ≠ g) : (w.freeze ⟨g, 0, none⟩ n).heap[k]? = w.heap[k]? := by
  unfold World.freeze
  split
  · rfl
  · simp only [Array.getElem?_modify]
    rw [if_neg (Ne.symm h)]
theorem freeze_heap_eq {w : World} {g n : Nat} {cur : Array Value} {t : TypeId} {fr : Nat × Nat} (h : w.heap[g]? = some (.cells cur t fr)) : ∃ fr', (w.freeze ⟨g, 0, none⟩ n).heap[g]? = some (.cells cur t fr') := by
  unfold World.freeze
  split
  · exact ⟨fr, h⟩
  · simp only [Array.getElem?_modify, if_true, h]
    obtain ⟨lo, hi⟩ := fr
    exact ⟨_, rfl⟩
set_option maxRecDepth 100000 in
set_option maxHeartbeats 2000000 in
theorem string_any {T : TypeId} (B b : Nat) (l : List UInt8) (w : World) (h : BldR T B b l w) :
    Calls Tryz.prog 40 #[.pointer (some ⟨b, 0, none⟩)] w fun e w' => e = .returned (strs l) ∧ BldR T B b l w' ∧ Below B w w' := by
  obtain ⟨p, v, hB, hb, hv⟩ := h
  rcases hv with ⟨rfl, rfl⟩ | ⟨g, cap, cur, fr, rfl, h0, hBg, hgb, hg, hlc, hcap, h63, ht⟩
  · have c1 : w.drew.cell? ⟨b, 1, none⟩ = some (.slice none 0 0) := by
      have : w.drew.heap[b]? = some (.cells #[p, .slice none 0 0] T (0, 0)) := hb
      rw [Lib.cell_of_heap this]; rfl
    have hUS : ∀ W q, (Builtin.unsafeString_ #[123, 3] 9 #[.pointer q, .int .i64 0]).run Tryz.prog W = .ok (.string .empty) W := fun W q => Lib.run_unsafeString_none W _ _ _ q
    have hSD : (Builtin.unsafeSliceData_ #[81] 123 #[.slice none 0 0]).run Tryz.prog w.drew = .ok (.pointer none) w.drew := rfl
    have HB := Lib.hid hb
    clear hb
    go_enter Tryz.func40, Tryz.ntmps40
    go_wp2
    go_region
    all_goals (go_wp2; go_ret; exact ⟨rfl, ⟨p, _, hB, HB.out, .inl ⟨rfl, rfl⟩⟩, (Below.refl _ _).drew⟩)
  · have c1 : w.drew.cell? ⟨b, 1, none⟩ = some (.slice (some ⟨g, 0, none⟩) l.length cap) := by
      have : w.drew.heap[b]? = some (.cells #[p, .slice (some ⟨g, 0, none⟩) l.length cap] T (0, 0)) := hb
      rw [Lib.cell_of_heap this]; rfl
    have hl0 : l.length ≠ 0 := by simpa using h0
    have hSD : (Builtin.unsafeSliceData_ #[81] 123 #[.slice (some ⟨g, 0, none⟩) l.length cap]).run Tryz.prog w.drew = .ok (.pointer (some ⟨g, 0, none⟩)) w.drew :=
      Lib.run_unsafeSliceData_row _ _ _ _ _ _ (by omega)
    have hg' : w.drew.heap[g]? = some (.cells cur 5 fr) := hg
    have hUS : (Builtin.unsafeString_ #[123, 3] 9 #[.pointer (some ⟨g, 0, none⟩), .int .i64 l.length]).run Tryz.prog w.drew = .ok (.string ⟨l.toArray⟩) (w.drew.freeze ⟨g, 0, none⟩ l.length) := by
      refine Lib.run_unsafeString_row w.drew 123 3 9 5 Tryz.underlying123 cellsByteB g cur.size (by simp [World.shape?, hg']) l h0 hlc h63 ?_
      intro j x hx
      have hadd : (⟨g, 0, none⟩ : Addr).add j = ⟨g, j, none⟩ := by unfold Addr.add; split <;> simp_all
      rw [hadd, Lib.cell_of_heap hg']
      have h1 : (Lib.byteCells l)[j]? = some (.int .u8 x.toNat) := by simp [Lib.byteCells, hx]
      rw [← ht, List.getElem?_take] at h1
      split at h1
      · simpa using h1
      · cases h1
    have HF : Hid (BldR T B b l (w.drew.freeze ⟨g, 0, none⟩ l.length) ∧ Below B w (w.drew.freeze ⟨g, 0, none⟩ l.length)) := by
      obtain ⟨fr', hfr⟩ := freeze_heap_eq (n := l.length) hg'
      exact Lib.hid ⟨⟨p, _, hB, (freeze_heap_ne (Ne.symm hgb)).trans hb, .inr ⟨g, cap, cur, fr', rfl, h0, hBg, hgb, hfr, hlc, hcap, h63, ht⟩⟩, Lib.below_freeze (Below.drew (Below.refl B w)) (p := ⟨g, 0, none⟩) hBg _⟩
    clear hb hg hg' ht
    go_enter Tryz.func40, Tryz.ntmps40
    go_wp2
    go_region
    all_goals (go_wp2; go_ret; exact ⟨rfl, HF.out⟩)
/-- A slice of texts that lies apart from a builder. -/
def StrsX (b : Nat) (r : Option Nat) (w : World) (v : Value) (ws : List (List UInt8)) : Prop :=
  ∃ A c, v = .slice A ws.length c ∧ ws.length ≤ c ∧ ws.length ≤ 1000000 ∧ ∀ i x, ws[i]? = some x → ∃ g o, A = some ⟨g, o, none⟩ ∧ g < w.heap.size ∧ g ≠ b ∧ r ≠ some g ∧ w.cell? ⟨g, o + i, none⟩ = some (strs x)
theorem StrsX.step {b : Nat} {r r' : Option Nat} {w w' : World} {v : Value} {ws : List (List UInt8)} (h : StrsX b r w v ws) (hs : BS b r w r' w') : StrsX b r' w' v ws := by
  obtain ⟨A, c, h1, h2, h3, h4⟩ := h
  refine ⟨A, c, h1, h2, h3, fun i x hx => ?_⟩
  obtain ⟨g, o, h5, h6, h7, h8, h9⟩ := h4 i x hx
  exact ⟨g, o, h5, Nat.lt_of_lt_of_le h6 hs.size, h7, hs.free h6 h8, (hs.cell h6 h7 h8 _).trans h9⟩
theorem joinB_take : ∀ (ws : List (List UInt8)) (k : Nat) (x : List UInt8), ws[k]? = some x → Np.joinB (ws.take (k + 1)) = if k = 0 then x else Np.joinB (ws.take k) ++ 32 :: x := by
  intro ws
  induction ws with
  | nil => intro k x h; simp at h
  | cons a ws ih =>
    intro k x h
    cases k with
    | zero => simp at h; subst h; simp [Np.joinB]
    | succ k =>
      simp only [List.getElem?_cons_succ] at h
      have hk := ih k x h
      cases ws with
      | nil => simp at h
      | cons c ws =>
        rw [if_neg (by omega)]
        have e1 : (a :: c :: ws).take (k + 1 + 1) = a :: (c :: ws).take (k + 1) := rfl
        have e2 : Np.joinB (a :: (c :: ws).take (k + 1)) = a ++ 32 :: Np.joinB ((c :: ws).take (k + 1)) := by rw [List.take_succ_cons]; rfl
        rw [e1, e2, hk]
        cases k with
        | zero => rw [if_pos rfl]; rfl
        | succ k =>
          rw [if_neg (by omega)]
          have e3 : (a :: c :: ws).take (k + 1 + 1) = a :: (c :: ws).take (k + 1) := rfl
          have e4 : Np.joinB (a :: (c :: ws).take (k + 1)) = a ++ 32 :: Np.joinB ((c :: ws).take (k + 1)) := by rw [List.take_succ_cons]; rfl
          rw [e3, e4]; simp
theorem joinB_le : ∀ (ws : List (List UInt8)) (k : Nat), (Np.joinB (ws.take k)).length ≤ (Np.joinB ws).length := by
  intro ws
  induction ws with
  | nil => intro k; simp
  | cons a ws ih =>
    intro k
    cases k with
    | zero => simp [Np.joinB]
    | succ k =>
      cases ws with
      | nil => simp [Np.joinB]
      | cons c ws =>
        cases k with
        | zero => simp [Np.joinB]
        | succ k =>
          have := ih (k + 1)
          simp only [List.take_succ_cons, Np.joinB, List.length_append, List.length_cons] at this ⊢
          omega
theorem writeByte_lit {T : TypeId} (hT : BldT T) (B b : Nat) (r : Option Nat) (l : List UInt8) (c : UInt8) (k : Int) (hk : (c.toNat : Int) = k) (w : World) (h : Bld T B b r l w) (hl : l.length ≤ 100000000) (hBw : B ≤ w.heap.size) :
    Calls Tryz.prog 124 #[.pointer (some ⟨b, 0, none⟩), .int .u8 k] w (GivesBld T B b r (l ++ [c]) .nilIface w) := by
  subst hk
  exact writeByte_any hT B b r l c w h hl hBw
theorem bldW : BldT 85 := ⟨by kernel_rfl, by decide⟩
def LineRel (B b : Nat) (r : Option Nat) (l : List UInt8) (v : Value) (ws : List (List UInt8)) (w : World) (i : Value) (wr : World) : Prop :=
  ∃ k : Nat, k ≤ ws.length ∧ i = .int .i64 k ∧ ∃ r', Hid (Bld 85 B b r' (l ++ Np.joinB (ws.take k)) wr) ∧ Hid (BS b r w r' wr) ∧ Hid (StrsX b r' wr v ws)
set_option maxRecDepth 100000 in
set_option maxHeartbeats 2000000 in
theorem line_any (B b : Nat) (r : Option Nat) (l : List UInt8) (v : Value) (ws : List (List UInt8)) (w : World) (h : Bld 85 B b r l w) (hv : StrsX b r w v ws) (hl : l.length ≤ 10000000) (hw : (Np.joinB ws).length ≤ 1000000) (hBw : B ≤ w.heap.size) :
    Calls Tryz.prog 73 #[.pointer (some ⟨b, 0, none⟩), v] w (GivesBld 85 B b r (l ++ Np.lineText ws) (.tuple #[]) w) := by
  have H := Lib.hid h
  have HV := Lib.hid hv
  obtain ⟨A, c, rfl, hc, h6, -⟩ := hv
  clear h
  go_enter Tryz.func73, Tryz.ntmps73
  go_wp2_with fail
  go_loopw [8] (fun i wr => LineRel B b r l (.slice A ws.length c) ws w i wr) (fun i _ => ws.length - (intOf i).toNat)
  case atStart => exact ⟨0, Nat.zero_le _, rfl, r, Lib.hid (by simpa [Np.joinB] using H.out), Lib.hid (BS.refl _ _ _), HV⟩
  case round =>
    obtain ⟨k, hk, rfl, r', HB, HS, HX⟩ := hrel
    have hjl := joinB_le ws k
    have hjl2 := joinB_le ws (k + 1)
    have hsz := HS.out.size
    by_cases hlt : k < ws.length
    · have hget := List.getElem?_eq_getElem hlt
      obtain ⟨A', c', hA, _, _, hel⟩ := HX.out
      cases hA
      obtain ⟨g, o, rfl, hg, hgb, hgr, hcell⟩ := hel k _ hget
      have hjt := joinB_take ws k _ hget
      generalize ws[k] = x at *
      have HJ := Lib.hid hjt
      have hxl : x.length ≤ 1000000 := by
        rw [hjt] at hjl2
        split at hjl2
        · omega
        · simp at hjl2; omega
      clear hjt hel hget
      by_cases hk0 : k = 0
      · subst hk0
        simp only [Nat.add_zero] at hcell
        go_wp2_with fail
        refine (writeString_any bldW B b r' _ ⟨x.toArray⟩ _ HB.out (by simp [Np.joinB]; omega) (by rw [← size_list]; simp; omega) (by omega)).mono ?_
        rintro e w2 ⟨rfl, r2, hb2, hs2⟩
        have HB2 := Lib.hid hb2
        have HS2 := Lib.hid hs2
        clear hb2 hs2
        go_wp2_with fail
        go_roundw
        case rel => exact ⟨1, by omega, by go_num, r2, Lib.hid (by have := HB2.out; rw [HJ.out]; simpa [Np.joinB] using this), Lib.hid (HS.out.trans HS2.out), Lib.hid (HX.out.step HS2.out)⟩
        case measure => simp [intOf] <;> omega
      · have hkp : (0 : Int) < (k : Int) := by omega
        go_wp2_with fail
        refine (writeByte_lit bldW B b r' _ 32 32 rfl _ HB.out (by simp; omega) (by omega)).mono ?_
        rintro e w1 ⟨rfl, r1, hb1, hs1⟩
        have HB1 := Lib.hid hb1
        have HS1 := Lib.hid hs1
        have hsz1 := hs1.size
        clear hb1 hs1
        go_wp2_with fail
        refine (writeString_any bldW B b r1 _ ⟨x.toArray⟩ _ HB1.out (by simp; omega) (by rw [← size_list]; simp; omega) (by omega)).mono ?_
        rintro e w2 ⟨rfl, r2, hb2, hs2⟩
        have HB2 := Lib.hid hb2
        have HS2 := Lib.hid hs2
        clear hb2 hs2
        go_wp2_with fail
        go_roundw
        case rel => exact ⟨k + 1, by omega, by go_num, r2, Lib.hid (by have := HB2.out; rw [HJ.out, if_neg hk0]; simpa using this), Lib.hid (HS.out.trans (HS1.out.trans HS2.out)), Lib.hid ((HX.out.step HS1.out).step HS2.out)⟩
        case measure => simp [intOf] <;> omega
    · go_wp2_with fail
      refine (writeByte_lit bldW B b r' _ 10 10 rfl _ HB.out (by simp; omega) (by omega)).mono ?_
      rintro e w1 ⟨rfl, r1, hb1, hs1⟩
      have HB1 := Lib.hid hb1
      have HS1 := Lib.hid hs1
      clear hb1 hs1
      go_wp2_with fail
      go_end0
      refine ⟨rfl, r1, ?_, HS.out.trans HS1.out⟩
      have := HB1.out
      rw [List.take_of_length_le (by omega)] at this
      simpa [Np.lineText] using this
end Go.Proofs.YtnbolgdccdnjeaaGreatDoor
/- Contracts of package printer: the words of a line. -/
namespace Go.Proofs.YtnbolgdccdnjeaaGreatDoor
open Go.RowKit
/-- The table of powers of ten lies in memory. -/
def PowIn (w : World) : Prop := Lib.TabIs Tryz.prog w "internal/strconv.uint64pow10" .u64 Lib.pow10Tab
theorem gPow : Tryz.prog.globalNamed "internal/strconv.uint64pow10" = some 7 := by kernel_rfl
theorem PowIn.keep {w w' : World} (h : PowIn w) (hb : Below w.heap.size w w') : PowIn w' := by
  unfold PowIn Lib.TabIs World.var? at h ⊢
  rw [gPow] at h ⊢
  simp only [Option.bind_some] at h ⊢
  have hg : 7 < w.heap.size := by
    cases hh : w.heap[7]? with
    | none => rw [hh] at h; cases h
    | some o => exact (Array.getElem?_eq_some_iff.1 hh).1
  rw [hb.block _ hg]; exact h
theorem PowIn.lt {w : World} (h : PowIn w) : 7 < w.heap.size := by
  unfold PowIn Lib.TabIs World.var? at h
  rw [gPow] at h
  simp only [Option.bind_some] at h
  cases hh : w.heap[7]? with
  | none => rw [hh] at h; cases h
  | some o => exact (Array.getElem?_eq_some_iff.1 hh).1
theorem PowIn.keepAt {w w' : World} {n : Nat} (h : PowIn w) (hb : Below n w w') (hn : 7 < n) : PowIn w' := by
  unfold PowIn Lib.TabIs World.var? at h ⊢
  rw [gPow] at h ⊢
  simp only [Option.bind_some] at h ⊢
  rw [hb.block _ hn]; exact h
/-- The table of words lies in memory, below B. -/
def WordsIn (w : World) (B : Nat) : Prop := 2 < B ∧ ∀ k : Nat, k < 9 → w.cell? ⟨2, k, none⟩ = some (strs (Np.wordOf k))
theorem WordsIn.keep {w w' : World} {B : Nat} (h : WordsIn w B) (hb : Below B w w') : WordsIn w' B := ⟨h.1, fun k hk => (hb.cell (p := ⟨2, k, none⟩) h.1).trans (h.2 k hk)⟩
theorem WordsIn.more {w : World} {B B' : Nat} (h : WordsIn w B) (hB : B ≤ B') : WordsIn w B' := ⟨Nat.lt_of_lt_of_le h.1 hB, h.2⟩
theorem decDigits_eq : ∀ n : Nat, Lib.decDigits n = Np.decimal n := by
  intro n
  induction n using Nat.strongRecOn with
  | ind n ih =>
    rw [Lib.decDigits, Np.decimal]
    split
    · rfl
    · rw [ih (n / 10) (by omega)]
theorem itoa_any (n : Int) (h0 : 0 ≤ n) (h1 : n ≤ 1000000000) (w : World) (hP : PowIn w) :
    Calls Tryz.prog 126 #[.int .i64 n] w fun e w' => e = .returned (strs (Np.decimal n.toNat)) ∧ Below w.heap.size w w' :=
  (Tryz.strconv_Itoa n (by omega) (by omega) w hP).mono fun e w' ⟨he, k, os, hw⟩ => by
    refine ⟨?_, ?_⟩
    · rw [he, Lib.itoa, if_neg (by omega), decDigits_eq]
    · rw [hw]; exact Lib.below_grow _ w (Nat.le_refl _) k os
theorem str_eta (s : ByteArray) : Value.string s = strs s.data.toList := by cases s; rfl
theorem arr_app (a b : List UInt8) : (⟨(a ++ b).toArray⟩ : ByteArray) = ⟨a.toArray⟩ ++ ⟨b.toArray⟩ := by
  apply str_ext
  rw [ByteArray.data_append, Array.toList_append]
theorem strs_app (a b : List UInt8) : Value.string ((⟨a.toArray⟩ : ByteArray) ++ ⟨b.toArray⟩) = strs (a ++ b) := congrArg _ (arr_app a b).symm
theorem strs_app3 (a b c : List UInt8) : Value.string ((⟨a.toArray⟩ : ByteArray) ++ ⟨b.toArray⟩ ++ ⟨c.toArray⟩) = strs (a ++ b ++ c) := by
  rw [← arr_app a b]; exact strs_app _ _
set_option maxRecDepth 100000 in
set_option maxHeartbeats 2000000 in
theorem datumP_any (t : Int) (h1 : 1 ≤ t) (h7 : t ≤ 7) (x : List UInt8) (hx : x.length ≤ 1000) (n m : Int) (n0 : 0 ≤ n) (n1 : n ≤ 1000000) (m0 : 0 ≤ m) (m1 : m ≤ 1000000) (w : World) (hP : PowIn w) :
    Calls Tryz.prog 127 #[.int .i64 t, .agg #[strs x, .int .i64 n, .int .i64 m]] w fun e w' => e = .returned (strs (Np.datumText t ⟨x, n, m⟩)) ∧ Below w.heap.size w w' := by
  have HP := Lib.hid hP
  clear hP
  have HW : Hid (∀ o, Below w.heap.size w (w.alloc o)) := Lib.hid (fun o => (Below.refl _ w).alloc (Nat.le_refl _) _)
  have ht : t = 1 ∨ (t = 2 ∨ t = 3) ∨ t = 5 ∨ (t = 4 ∨ t = 6 ∨ t = 7) := by omega
  rcases ht with rfl | ht | rfl | ht
  · go_enter Tryz.func127, Tryz.ntmps127
    go_wp2_with fail
    refine (itoa_any n n0 (by omega) _ (HP.out.keep (HW.out _))).mono ?_
    rintro e w1 ⟨rfl, hb⟩
    have HB := Lib.hid ((HW.out _).trans (hb.mono (by simp)))
    clear hb
    go_wp2_with fail
    go_ret
    exact ⟨rfl, HB.out⟩
  · have hd : Np.datumText t ⟨x, n, m⟩ = x := by rcases ht with rfl | rfl <;> rfl
    rw [hd]
    clear hd
    rcases ht with rfl | rfl
    all_goals
      go_enter Tryz.func127, Tryz.ntmps127
      go_wp2_with fail
      go_ret
      exact ⟨rfl, HW.out _⟩
  · have hs1 : ¬ 9223372036854775807 < 1 + x.length := by omega
    have hs2 : ¬ 9223372036854775807 < 1 + x.length + 1 := by omega
    go_enter Tryz.func127, Tryz.ntmps127
    go_wp2_with fail
    go_ret
    refine ⟨?_, HW.out _⟩
    exact congrArg _ (strs_app3 [34] x [34])
  · have hd : Np.datumText t ⟨x, n, m⟩ = Np.decimal n.toNat ++ [32] ++ Np.decimal m.toNat := by rcases ht with rfl | rfl | rfl <;> simp [Np.datumText]
    rw [hd]
    have l1 := Np.decimal_bd 6 n.toNat (by omega)
    have l2 := Np.decimal_bd 6 m.toNat (by omega)
    generalize hA : Np.decimal n.toNat = A
    generalize hB : Np.decimal m.toNat = B
    rw [hA] at l1
    rw [hB] at l2
    have HA := Lib.hid hA
    have HBB := Lib.hid hB
    clear hA hB hd
    have hs1 : ¬ 9223372036854775807 < A.length + 1 := by omega
    have hs2 : ¬ 9223372036854775807 < A.length + 1 + B.length := by omega
    rcases ht with rfl | rfl | rfl
    all_goals
      go_enter Tryz.func127, Tryz.ntmps127
      go_wp2_with fail
      have hb1 := HW.out (.cells #[strs x, .int .i64 n, .int .i64 m] 43)
      have p0 := World.cell?_alloc_new w #[strs x, .int .i64 n, .int .i64 m] 43 0
      have p1 := World.cell?_alloc_new w #[strs x, .int .i64 n, .int .i64 m] 43 1
      have p2 := World.cell?_alloc_new w #[strs x, .int .i64 n, .int .i64 m] 43 2
      have hz : w.heap.size < (w.alloc (.cells #[strs x, .int .i64 n, .int .i64 m] 43)).heap.size := by simp
      generalize w.alloc (.cells #[strs x, .int .i64 n, .int .i64 m] 43) = wa at hb1 p0 p1 p2 hz ⊢
      have HBA := Lib.hid hb1
      clear hb1 p0
      have hgc : ∀ (g : Grow wa) (p : Addr), p.block < wa.heap.size → g.w.cell? p = wa.cell? p := fun g p h => g.cell p h
      have hcall : ∀ g : Grow wa, Calls Tryz.prog 126 #[.int .i64 n] g.w fun e w' => e = .returned (strs A) ∧ Below g.w.heap.size g.w w' := fun g => by
        rw [← HA.out]; exact itoa_any n n0 (by omega) _ ((HP.out.keep HBA.out).keep g.below)
      have hcall2 : ∀ g : Grow wa, Calls Tryz.prog 126 #[.int .i64 m] g.w fun e w' => e = .returned (strs B) ∧ Below g.w.heap.size g.w w' := fun g => by
        rw [← HBB.out]; exact itoa_any m m0 (by omega) _ ((HP.out.keep HBA.out).keep g.below)
      have HC1 := Lib.hid hcall
      have HC2 := Lib.hid hcall2
      clear hcall hcall2
      refine wp_region_grow (by kernel_rfl) (by kernel_rfl) ?_
      go_big_quiet_step (fail)
      go_big_quiet_step (fail)
      go_big_quiet_step ((exact Calls.grow_of (HC1.out _)))
      go_big_quiet_step (fail)
      go_big_quiet_step (fail)
      go_big_quiet_step (fail)
      go_big_quiet_step ((exact Calls.grow_of (HC2.out _)))
      go_big_quiet_step (fail)
      go_big_quiet_step (fail)
      refine wpQuiet_nil ?_
      rintro _ ⟨g, rfl⟩
      go_wp2_with fail
      go_ret
      exact ⟨show Ending.returned (Value.string ((⟨A.toArray⟩ : ByteArray) ++ ⟨#[32]⟩ ++ ⟨B.toArray⟩)) = _ from congrArg _ (strs_app3 A [32] B), HBA.out.trans (g.below.mono (by omega))⟩
end Go.Proofs.YtnbolgdccdnjeaaGreatDoor
/- Contract of printer.entry. -/
namespace Go.Proofs.YtnbolgdccdnjeaaGreatDoor
open Go.RowKit
/-- A row of texts of the call's own comes back. -/
def GivesOwn (w : World) (ws : List (List UInt8)) (e : Ending) (w' : World) : Prop := ∃ v, e = .returned v ∧ w'.ownsRow w.heap.size 9 1 v ws.length (ws.map strs) ∧ Below w.heap.size w w'
theorem own_strs {w : World} {base : Nat} {v : Value} {n : Nat} {ws : List (List UInt8)} {xs : List Value} (h : w.ownsRow base 9 1 v n xs) (hn : n = ws.length) (hx : xs = ws.map strs) : w.ownsRow base 9 1 v ws.length (ws.map strs) := by
  subst hn hx; exact h
theorem own_base {w : World} {B B' : Nat} {e : TypeId} {size n : Nat} {v : Value} {xs : List Value} (h : w.ownsRow B' e size v n xs) (hB : B ≤ B') : w.ownsRow B e size v n xs := by
  refine ⟨h.1, ?_⟩
  rcases h.2 with h2 | ⟨g, cap, cur, h1, h2, h3⟩
  · exact .inl h2
  · exact .inr ⟨g, cap, cur, h1, by omega, h3⟩
def EntRel (N : Nat) (wa : World) (W0 : List (List UInt8)) (ty : Int) (ds : List Np.Datum) (v i : Value) (wr : World) : Prop :=
  ∃ k : Nat, k ≤ ds.length ∧ i = .int .i64 k ∧ Hid (wr.ownsRow (N + 1) 9 1 v (W0 ++ (Np.dataWords ty ds).take k).length ((W0 ++ (Np.dataWords ty ds).take k).map strs)) ∧ Hid (Below (N + 1) wa wr)
theorem two_new (w : World) (x y : Value) (t : TypeId) : ∀ j u, [x, y][j]? = some u → (w.alloc (.cells #[x, y] t)).cell? ((⟨w.heap.size, 0, none⟩ : Addr).add j) = some u := by
  intro j u hj
  have hadd : (⟨w.heap.size, 0, none⟩ : Addr).add j = ⟨w.heap.size, j, none⟩ := by unfold Addr.add; split <;> simp_all
  rw [hadd]
  match j, hj with
  | 0, hj => simp at hj; subst hj; exact World.cell?_alloc_new _ _ _ _
  | 1, hj => simp at hj; subst hj; exact World.cell?_alloc_new _ _ _ _
  | j + 2, hj => simp at hj
set_option maxRecDepth 100000 in
set_option maxHeartbeats 4000000 in
theorem entry_any (a sn : ByteArray) (ty life : Int) (dv : Value) (ds : List Np.Datum) (w : World) (hv : Np.validSet ⟨sn.data.toList, ty, life, ds⟩ = true) (h7 : ty ≤ 7) (hP : PowIn w) (hWd : WordsIn w w.heap.size) (hd : SlR RDatum 3 w w.heap.size dv ds) :
    Calls Tryz.prog 74 #[.string a, .agg #[.string sn, .int .i64 ty, .int .i64 life, dv]] w (GivesOwn w (Np.entryWords a.data.toList ⟨sn.data.toList, ty, life, ds⟩)) := by
  obtain ⟨i0, hi, hz0, hz1, hz2⟩ := info_parts Tryz.infoStr
  obtain ⟨v1, v2, _, v4, v5, _, v7, v8⟩ := Np.valid_parts hv
  simp only at v1 v2 v4 v5 v7 v8
  have HGD := Lib.hid (Np.goodData_all v8)
  have hdl := (Np.dataWords_bd v2 h7 (Np.goodData_all v8)).1
  have HDL := Lib.hid hdl
  have HP := Lib.hid hP
  have HWD := Lib.hid hWd
  have HD := Lib.hid hd
  obtain ⟨A, c, rfl, hc1, hl1, -⟩ := hd
  have hsn : sn.data.toList.length ≤ 60 := (Np.name_form v1).1
  obtain ⟨k0, rfl⟩ := Int.eq_ofNat_of_zero_le (by omega : 0 ≤ ty)
  clear hP hWd hv v1 v8 hdl
  have hEW : Np.entryWords a.data.toList ⟨sn.data.toList, k0, life, ds⟩ = ([[32], Np.ownerOf a.data.toList sn.data.toList, Np.wordOf k0] ++ Np.lifeWords life) ++ Np.dataWords k0 ds := rfl
  rw [hEW]
  clear hEW
  go_enter Tryz.func74, Tryz.ntmps74
  go_upto_if 14 with fail
  go_cut [5] (fun o wx => o = strs (Np.ownerOf a.data.toList sn.data.toList) ∧ wx = w.alloc (.cells #[.string sn, .int .i64 k0, .int .i64 life, .slice A ds.length c] 39))
  case first =>
    go_wp2_with fail
    · have he : (sn.toList == a.toList) = true := by assumption
      rw [ByteArray.toList_eq, ByteArray.toList_eq, beq_iff_eq] at he
      have HO := Lib.hid (show Np.ownerOf a.data.toList sn.data.toList = [64] by unfold Np.ownerOf; rw [if_pos he])
      go_meet
      case rel => exact ⟨by rw [HO.out], rfl⟩
    · have he : (sn.toList == a.toList) = false := by assumption
      rw [ByteArray.toList_eq, ByteArray.toList_eq, beq_eq_false_iff_ne] at he
      have HO := Lib.hid (show Np.ownerOf a.data.toList sn.data.toList = sn.data.toList by unfold Np.ownerOf; rw [if_neg he])
      go_meet
      case rel => exact ⟨by rw [HO.out], rfl⟩
  case rest =>
    obtain ⟨rfl, rfl⟩ := hcut
    have hba : Below w.heap.size w (w.alloc (.cells #[.string sn, .int .i64 k0, .int .i64 life, .slice A ds.length c] 39)) := (Below.refl _ _).alloc (Nat.le_refl _) _
    have p1 := World.cell?_alloc_new w #[.string sn, .int .i64 k0, .int .i64 life, .slice A ds.length c] 39 1
    have p2 := World.cell?_alloc_new w #[.string sn, .int .i64 k0, .int .i64 life, .slice A ds.length c] 39 2
    have p3 := World.cell?_alloc_new w #[.string sn, .int .i64 k0, .int .i64 life, .slice A ds.length c] 39 3
    have hz : (w.alloc (.cells #[.string sn, .int .i64 k0, .int .i64 life, .slice A ds.length c] 39)).heap.size = w.heap.size + 1 := World.size_alloc _ _
    generalize w.alloc (.cells #[.string sn, .int .i64 k0, .int .i64 life, .slice A ds.length c] 39) = wa at hba p1 p2 p3 hz ⊢
    have HBA := Lib.hid hba
    have HZ := Lib.hid hz
    have hlt : w.heap.size < wa.heap.size := by omega
    have hwd := (HWD.out.keep hba).2 k0 (by omega)
    clear hba hz
    generalize hON : Np.ownerOf a.data.toList sn.data.toList = own
    have HON := Lib.hid hON
    clear hON
    have hk0 : (0 : Int) ≤ (k0 : Int) := by omega
    have hk9 : (k0 : Int) < 9 := by omega
    go_upto_if 23 with fail
    go_cut [6] (fun v wx => Hid (wx.ownsRow (w.heap.size + 1) 9 1 v ([[32], own, Np.wordOf k0] ++ Np.lifeWords life).length (([[32], own, Np.wordOf k0] ++ Np.lifeWords life).map strs)) ∧ Hid (Below (w.heap.size + 1) wa wx))
    case first =>
      have hown0 : (wa.alloc (.cells #[strs [32], strs own, strs (Np.wordOf k0)] 9)).ownsRow (w.heap.size + 1) 9 1 (.slice (some ⟨wa.heap.size, 0, none⟩) 3 3) 3 [strs [32], strs own, strs (Np.wordOf k0)] :=
        ⟨rfl, .inr ⟨wa.heap.size, 3, _, rfl, by omega, heap_alloc_new _ _, by simp, by simp [maxLen], rfl, rfl⟩⟩
      have HOW := Lib.hid hown0
      have HB0 : Hid (Below (w.heap.size + 1) wa (wa.alloc (.cells #[strs [32], strs own, strs (Np.wordOf k0)] 9))) := Lib.hid ((Below.refl _ _).alloc (by omega) _)
      clear hown0
      go_wp2_with fail
      rotate_left
      · have he : (life != 300) = false := by assumption
        have HLW := Lib.hid (show Np.lifeWords life = [] by unfold Np.lifeWords; rw [if_pos (by simpa using he)])
        go_meet
        case rel => exact ⟨by rw [HLW.out]; exact HOW, HB0⟩
      · have he : (life != 300) = true := by assumption
        have HLW := Lib.hid (show Np.lifeWords life = [[108, 105, 102, 101], Np.decimal life.toNat] by unfold Np.lifeWords; rw [if_neg (by simpa using he)])
        clear he
        have hp2 : (wa.alloc (.cells #[strs [32], strs own, strs (Np.wordOf k0)] 9)).cell? ⟨w.heap.size, 2, none⟩ = some (.int .i64 life) := (World.cell?_alloc_lt _ _ _ (by simpa using hlt)).trans p2
        refine (itoa_any life v4 (by omega) _ (((HP.out.keep HBA.out).keep ((Below.refl _ _).alloc (Nat.le_refl _) _)))).mono ?_
        rintro e w2 ⟨rfl, hb2⟩
        have HB2 := Lib.hid hb2
        have HOW2 := Lib.hid (ownsRow_keep HOW.out (fun g hg => hb2.block g (by have := (HOW.out.lt g hg).2; exact this)))
        have hs2 : wa.heap.size + 1 ≤ w2.heap.size := by have := hb2.size; simpa using this
        clear hb2
        go_wp2_with (at_builtin; refine wpList_append_own_at _ rfl _ _ 64 rfl (w.heap.size + 1) 9 i0 (.string ⟨#[]⟩) 1 16 Tryz.underlying64 hi hz0 hz1 hz2 rfl (by decide) _ _ _ rfl (HOW2.out.alloc _) ⟨w2.heap.size, 0, none⟩ 2 2 [strs [108, 105, 102, 101], strs (Np.decimal life.toNat)] rfl rfl (two_new _ _ _ _) (by simp [Value.oneCell']) (by unfold maxLen; omega) (by omega) (by simp; omega) ?_; intro v1 w3 hown1 hg1 _ hat1; have H1 := Lib.hid (And.intro hown1 hg1); clear hown1 hg1 hat1)
        go_meet
        case rel =>
          obtain ⟨o1, g1⟩ := H1.out
          refine ⟨by rw [HLW.out]; exact Lib.hid (own_strs o1 rfl rfl), Lib.hid ?_⟩
          have hb := (HB0.out.trans (HB2.out.mono (by simp; omega))).alloc (show w.heap.size + 1 ≤ w2.heap.size by omega) (.cells #[strs [108, 105, 102, 101], strs (Np.decimal life.toNat)] 9)
          exact hb.grown g1 (by simp; omega) (fun j hj => (HOW2.out.lt j hj).1)
    case rest =>
      obtain ⟨HO, HB⟩ := hcut
      generalize hW0 : [[32], own, Np.wordOf k0] ++ Np.lifeWords life = W0 at *
      have hw0l : W0.length ≤ 5 := by
        rw [← hW0]; unfold Np.lifeWords; split <;> simp
      have HW0 := Lib.hid hW0
      clear hW0
      have hszc := HB.out.size
      have q3 : wc.cell? ⟨w.heap.size, 3, none⟩ = some (.slice A ds.length c) := by rw [HB.out.cell (by simp)]; exact p3
      go_wp2_with fail
      go_loopw [6, 33] (fun v i wr => EntRel w.heap.size wa W0 k0 ds v i wr) (fun _ i _ => ds.length - (intOf i).toNat)
      case atStart => exact ⟨0, Nat.zero_le _, rfl, Lib.hid (by simpa using HO.out), HB⟩
      case round =>
        obtain ⟨k, hk, rfl, HOr, HBr⟩ := hrel
        by_cases hlt2 : k < ds.length
        · have hget := List.getElem?_eq_getElem hlt2
          have hbr0 : Below w.heap.size w wr := HBA.out.trans (HBr.out.mono (by omega))
          obtain ⟨b, o, c', sd, hA, hbB, _, hsd, hsz, e0, e1, e2⟩ := datum_at (HD.out.keep rdatum_kept hbr0) hget
          cases hA
          have hvd := HGD.out _ (List.getElem_mem hlt2)
          have hword := Np.dataWords_snoc k0 ds k _ hget
          obtain ⟨m1, m2, m3, m4, m5, m6⟩ := Np.datum_bd v2 h7 hvd
          generalize hx : ds[k] = x at *
          clear hx hvd hget
          obtain ⟨tx, tn, tm⟩ := x
          simp only at hsd m1 m2 m3 m4 m5 m6 e0 e1 e2
          obtain rfl : sd = ⟨tx.toArray⟩ := str_ext (by simpa using hsd)
          have hszr : w.heap.size < wr.heap.size := by have := HBr.out.size; omega
          have r1 : wr.cell? ⟨w.heap.size, 1, none⟩ = some (.int .i64 k0) := by rw [HBr.out.cell (by simp)]; exact p1
          have r3 : wr.cell? ⟨w.heap.size, 3, none⟩ = some (.slice (some ⟨b, o, none⟩) ds.length c) := by rw [HBr.out.cell (by simp)]; exact p3
          have HBR0 := Lib.hid hbr0
          have HWORD := Lib.hid hword
          clear hsd hbr0 hword p1 p2 p3 q3 hwd
          have hwl : (W0 ++ (Np.dataWords k0 ds).take k).length ≤ 13 := by rw [List.length_append, List.length_take, HDL.out]; omega
          generalize hws : W0 ++ (Np.dataWords k0 ds).take k = ws at HOr hwl
          have HWS := Lib.hid hws
          clear hws
          obtain ⟨Av, cv, rfl⟩ := ownsRow_form HOr.out
          have hfin : ∀ (w3 w4 : World) (v4 : Value) (q : UInt8), Below wr.heap.size wr w3 → (if k + 1 = ds.length then (59 : UInt8) else 44) = q →
              w4.ownsRow (w.heap.size + 1) 9 1 v4 (ws.length + 1) (ws.map strs ++ [strs (Np.datumText k0 ⟨tx, tn, tm⟩ ++ [q])]) →
              w3.grownBy w4 (Value.slice Av ws.length cv).ownBlock →
              EntRel w.heap.size wa W0 k0 ds v4 (.int .i64 ((k : Int) + 1)) w4 := fun w3 w4 v4 q hb3 hq ho hg => by
            refine ⟨k + 1, by omega, by go_num, Lib.hid ?_, Lib.hid ?_⟩
            · have ht : W0 ++ (Np.dataWords k0 ds).take (k + 1) = ws ++ [Np.datumText k0 ⟨tx, tn, tm⟩ ++ [q]] := by
                obtain ⟨hl', he'⟩ := List.getElem?_eq_some_iff.1 HWORD.out
                rw [List.take_succ_eq_append_getElem hl', he', hq, ← HWS.out, List.append_assoc]
              rw [ht]
              refine own_strs ho (by simp) (by simp)
            · exact (HBr.out.trans (hb3.mono (by omega))).grown hg (by have := hb3.size; omega) (fun j hj => (HOr.out.lt j hj).1)
          have HFIN := Lib.hid hfin
          clear hfin
          have hln : ¬ 9223372036854775807 < (Np.datumText k0 ⟨tx, tn, tm⟩).length + 1 := by omega
          by_cases hend : k + 1 = ds.length
          · have hcmp : ((k : Int) == (ds.length : Int) - 1) = true := by simp; omega
            have HQ := Lib.hid (show (if k + 1 = ds.length then (59 : UInt8) else 44) = 59 by rw [if_pos hend])
            clear hend
            go_wp2_with fail
            have hbd : Below wr.heap.size wr (wr.alloc (.cells #[strs tx, .int .i64 tn, .int .i64 tm] 43)) := (Below.refl _ _).alloc (Nat.le_refl _) _
            have HBD := Lib.hid hbd
            clear hbd
            refine (datumP_any k0 v2 h7 tx (by omega) tn tm m2 m3 m4 m5 _ (((HP.out.keep HBR0.out).keep HBD.out))).mono ?_
            rintro e w3 ⟨rfl, hb3⟩
            have HB3 := Lib.hid (HBD.out.trans (hb3.mono (by simp)))
            have hs3 : wr.heap.size + 1 ≤ w3.heap.size := by have := hb3.size; simpa using this
            have HO3 := Lib.hid (ownsRow_keep HOr.out (fun g hg => HB3.out.block g (HOr.out.lt g hg).2))
            clear hb3
            go_wp2_with (at_builtin; refine wpList_append_own_at _ rfl _ _ 64 rfl (w.heap.size + 1) 9 i0 (.string ⟨#[]⟩) 1 16 Tryz.underlying64 hi hz0 hz1 hz2 rfl (by decide) _ _ _ rfl (HO3.out.alloc _) ⟨w3.heap.size, 0, none⟩ 1 1 [Value.string ((⟨(Np.datumText k0 ⟨tx, tn, tm⟩).toArray⟩ : ByteArray) ++ ⟨#[59]⟩)] rfl rfl (cell_one_new _ _ _) (by simp [Value.oneCell']) (by unfold maxLen; omega) (by omega) (by simp; omega) ?_; intro v4 w4 hown1 hg1 _ hat1; have H1 := Lib.hid (And.intro hown1 hg1); clear hown1 hg1 hat1)
            go_roundw
            case rel => exact HFIN.out _ _ _ 59 (HB3.out.alloc (by omega) _) HQ.out (by have := H1.out.1; rw [show Value.string ((⟨(Np.datumText k0 ⟨tx, tn, tm⟩).toArray⟩ : ByteArray) ++ ⟨#[59]⟩) = strs (Np.datumText k0 ⟨tx, tn, tm⟩ ++ [59]) from strs_app _ [59]] at this; exact this) H1.out.2
            case measure => simp [intOf] <;> omega
          · have hcmp : ((k : Int) == (ds.length : Int) - 1) = false := by simp; omega
            have HQ := Lib.hid (show (if k + 1 = ds.length then (59 : UInt8) else 44) = 44 by rw [if_neg hend])
            clear hend
            go_wp2_with fail
            have hbd : Below wr.heap.size wr (wr.alloc (.cells #[strs tx, .int .i64 tn, .int .i64 tm] 43)) := (Below.refl _ _).alloc (Nat.le_refl _) _
            have HBD := Lib.hid hbd
            clear hbd
            refine (datumP_any k0 v2 h7 tx (by omega) tn tm m2 m3 m4 m5 _ (((HP.out.keep HBR0.out).keep HBD.out))).mono ?_
            rintro e w3 ⟨rfl, hb3⟩
            have HB3 := Lib.hid (HBD.out.trans (hb3.mono (by simp)))
            have hs3 : wr.heap.size + 1 ≤ w3.heap.size := by have := hb3.size; simpa using this
            have HO3 := Lib.hid (ownsRow_keep HOr.out (fun g hg => HB3.out.block g (HOr.out.lt g hg).2))
            clear hb3
            go_wp2_with (at_builtin; refine wpList_append_own_at _ rfl _ _ 64 rfl (w.heap.size + 1) 9 i0 (.string ⟨#[]⟩) 1 16 Tryz.underlying64 hi hz0 hz1 hz2 rfl (by decide) _ _ _ rfl (HO3.out.alloc _) ⟨w3.heap.size, 0, none⟩ 1 1 [Value.string ((⟨(Np.datumText k0 ⟨tx, tn, tm⟩).toArray⟩ : ByteArray) ++ ⟨#[44]⟩)] rfl rfl (cell_one_new _ _ _) (by simp [Value.oneCell']) (by unfold maxLen; omega) (by omega) (by simp; omega) ?_; intro v4 w4 hown1 hg1 _ hat1; have H1 := Lib.hid (And.intro hown1 hg1); clear hown1 hg1 hat1)
            go_roundw
            case rel => exact HFIN.out _ _ _ 44 (HB3.out.alloc (by omega) _) HQ.out (by have := H1.out.1; rw [show Value.string ((⟨(Np.datumText k0 ⟨tx, tn, tm⟩).toArray⟩ : ByteArray) ++ ⟨#[44]⟩) = strs (Np.datumText k0 ⟨tx, tn, tm⟩ ++ [44]) from strs_app _ [44]] at this; exact this) H1.out.2
            case measure => simp [intOf] <;> omega
        · go_wp2_with fail
          go_ret
          refine ⟨_, rfl, ?_, HBA.out.trans (HBr.out.mono (by omega))⟩
          have h1 := HOr.out
          rw [List.take_of_length_le (by rw [HDL.out]; omega)] at h1
          refine (own_strs (own_base h1 (by omega)) ?_ ?_)
          · rw [← HW0.out, HON.out]; simp
          · rw [← HW0.out, HON.out]; simp
end Go.Proofs.YtnbolgdccdnjeaaGreatDoor
