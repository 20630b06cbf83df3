/- A strings.Builder of the call's own, in a block of its own or at the head of a struct: what its methods do. -/
import Derived.Test.YtnbolgdccdnjeaaGreatDoorAppStr
import Derived.Test.YtnbolgdccdnjeaaGreatDoorRf2
import Derived.Lib.Builder
import Derived.Lib.UnsafeStr
import Derived.Laws.Externs
import Derived.Laws.EntriesVeiled
import Derived.RegionTactic
namespace Go.Proofs.YtnbolgdccdnjeaaGreatDoor
open Go.RowKit
/-- A type of two cells with a Builder at its head. -/
structure BldT (T : TypeId) : Prop where
  lies : liesAt Tryz.prog Tryz.prog.depth T (2 / Tryz.prog.cellsOf T) 0 83 1 = true
  ne : T ≠ 5
/-- The builder in block b holds the bytes l; r: the block of its buffer; all that is its own lies from B on. -/
def Bld (T : TypeId) (B b : Nat) (r : Option Nat) (l : List UInt8) (w : World) : Prop :=
  ∃ p v, (p = .pointer none ∨ p = .pointer (some ⟨b, 0, none⟩)) ∧ B ≤ b ∧ w.heap[b]? = some (.cells #[p, v] T (0, 0)) ∧ w.ownsRow B 5 1 v l.length (Lib.byteCells l) ∧ v.ownBlock = r ∧ r ≠ some b ∧ (l = [] → v = .slice none 0 0)
/-- What a step of a builder leaves alone. -/
structure BS (b : Nat) (r : Option Nat) (w : World) (r' : Option Nat) (w' : World) : Prop where
  os : w'.os = w.os
  tape : w'.tape = w.tape
  output : w'.output = w.output
  size : w.heap.size ≤ w'.heap.size
  keep : ∀ k, k < w.heap.size → k ≠ b → r ≠ some k → w'.heap[k]? = w.heap[k]?
  at_ : r' = r ∨ ∃ k, w.heap.size ≤ k ∧ r' = some k
theorem BS.refl (b : Nat) (r : Option Nat) (w : World) : BS b r w r w := ⟨rfl, rfl, rfl, Nat.le_refl _, fun _ _ _ _ => rfl, .inl rfl⟩
theorem BS.trans {b : Nat} {r r' r'' : Option Nat} {w w' w'' : World} (h : BS b r w r' w') (k : BS b r' w' r'' w'') : BS b r w r'' w'' := by
  refine ⟨k.os.trans h.os, k.tape.trans h.tape, k.output.trans h.output, Nat.le_trans h.size k.size, fun i hi hb hr => ?_, ?_⟩
  · refine (k.keep i (Nat.lt_of_lt_of_le hi h.size) hb (fun e => ?_)).trans (h.keep i hi hb hr)
    rcases h.at_ with e' | ⟨j, hj, e'⟩
    · rw [e'] at e; exact hr e
    · rw [e'] at e; simp at e; omega
  · rcases k.at_ with e | ⟨j, hj, e⟩
    · rcases h.at_ with e' | ⟨j, hj, e'⟩
      · exact .inl (e.trans e')
      · exact .inr ⟨j, hj, e.trans e'⟩
    · exact .inr ⟨j, Nat.le_trans h.size hj, e⟩
theorem BS.of_below {b : Nat} {r : Option Nat} {w w' : World} (h : Below w.heap.size w w') : BS b r w r w' := ⟨h.os, h.tape, h.output, h.size, fun k hk _ _ => h.block k hk, .inl rfl⟩
theorem BS.after {b : Nat} {r r' : Option Nat} {w w' w'' : World} (h : BS b r w r' w') (k : Below w'.heap.size w' w'') : BS b r w r' w'' := h.trans (BS.of_below k)
theorem BS.below {b : Nat} {r r' : Option Nat} {w w' : World} {n : Nat} (h : BS b r w r' w') (hb : n ≤ b) (hr : ∀ k, r = some k → n ≤ k) (hn : n ≤ w.heap.size) : Below n w w' :=
  ⟨h.os, h.tape, h.output, h.size, fun k hk => h.keep k (by omega) (by omega) (fun e => by have := hr k e; omega)⟩
theorem BS.cell {b : Nat} {r r' : Option Nat} {w w' : World} (h : BS b r w r' w') {k : Nat} (hk : k < w.heap.size) (hb : k ≠ b) (hr : r ≠ some k) (o : Nat) : w'.cell? ⟨k, o, none⟩ = w.cell? ⟨k, o, none⟩ := World.cell?_of_block (w := w) (h.keep k hk hb hr)
theorem BS.free {b : Nat} {r r' : Option Nat} {w w' : World} (h : BS b r w r' w') {k : Nat} (hk : k < w.heap.size) (hr : r ≠ some k) : r' ≠ some k := fun e => by
  rcases h.at_ with e' | ⟨j, hj, e'⟩
  · rw [e'] at e; exact hr e
  · rw [e'] at e; simp at e; omega
theorem Bld.row {T : TypeId} {B b : Nat} {r : Option Nat} {l : List UInt8} {w : World} (h : Bld T B b r l w) : B ≤ b ∧ b < w.heap.size ∧ ∀ k, r = some k → B ≤ k ∧ k < w.heap.size := by
  obtain ⟨p, v, _, hB, hb, ho, rfl, _, _⟩ := h
  exact ⟨hB, (Array.getElem?_eq_some_iff.1 hb).1, fun k hk => ho.lt k hk⟩
theorem Bld.keep {T : TypeId} {B b : Nat} {r : Option Nat} {l : List UInt8} {w w' : World} (h : Bld T B b r l w) (hb : Below w.heap.size w w') : Bld T B b r l w' := by
  have hrow := h.row
  obtain ⟨p, v, hp, hB, hh, ho, rfl, hne, hn⟩ := h
  refine ⟨p, v, hp, hB, (hb.block b hrow.2.1).trans hh, ownsRow_keep ho (fun g hg => hb.block g (hrow.2.2 g hg).2), rfl, hne, hn⟩
theorem Bld.fresh (T : TypeId) (w : World) : Bld T w.heap.size w.heap.size none [] (w.alloc (.cells #[.pointer none, .slice none 0 0] T)) :=
  ⟨_, _, .inl rfl, Nat.le_refl _, heap_alloc_new w _, World.ownsRow_nil _ _ _ _, rfl, by simp, fun _ => rfl⟩
theorem ownBlock_not {w : World} {base : Nat} {e T : TypeId} {v : Value} {n : Nat} {xs : List Value} {b : Nat} {cs : Array Value} {fr : Nat × Nat} (ho : w.ownsRow base e 1 v n xs) (hb : w.heap[b]? = some (.cells cs T fr)) (hT : T ≠ e) : v.ownBlock ≠ some b := by
  intro h
  rcases ho.2 with ⟨rfl, _⟩ | ⟨g, cap, cur, rfl, _, hg, _⟩
  · cases h
  · have : g = b := Option.some.inj h
    subst this
    rw [hb] at hg
    simp only [Option.some.injEq, Obj.cells.injEq] at hg
    exact hT hg.2.1
theorem cellsByteB : Tryz.prog.cellsOf 5 = 1 := by kernel_rfl
theorem sizeBuilder : (Tryz.prog.info? 83).map (·.size) = some 2 := by kernel_rfl
set_option maxRecDepth 100000 in
set_option maxHeartbeats 1000000 in
theorem copyCheck_used (b : Nat) (w : World) (h0 : w.cell? ⟨b, 0, none⟩ = some (.pointer (some ⟨b, 0, none⟩))) :
    Calls Tryz.prog 162 #[.pointer (some ⟨b, 0, none⟩)] w fun e w' => e = .returned (.tuple #[]) ∧ w' = w := by
  obtain ⟨j, hj, _⟩ := Option.map_eq_some_iff.1 sizeBuilder
  go_enter Tryz.func162, Tryz.ntmps162
  go_wp2
  rw [Lib.run_neq_ptr_same w _ Tryz.underlying80 hj]
  go_wp2
  go_end0
  exact ⟨rfl, rfl⟩
set_option maxRecDepth 100000 in
set_option maxHeartbeats 1000000 in
theorem copyCheck_fresh {T : TypeId} (hT : BldT T) (b : Nat) (w : World) (h0 : w.cell? ⟨b, 0, none⟩ = some (.pointer none)) (hsh : w.shape? b = some (T, 2)) (hfz : w.frozen? ⟨b, 0, none⟩ = false) :
    Calls Tryz.prog 162 #[.pointer (some ⟨b, 0, none⟩)] w fun e w' => e = .returned (.tuple #[]) ∧ w' = w.setCell ⟨b, 0, none⟩ (.pointer (some ⟨b, 0, none⟩)) := by
  obtain ⟨j, hj, hjs⟩ := Option.map_eq_some_iff.1 sizeBuilder
  go_enter Tryz.func162, Tryz.ntmps162
  go_wp2
  rw [Lib.run_to_unsafe w ⟨b, 0, none⟩ Tryz.underlying80 Tryz.underlying196 hj (by rw [hjs]; decide) hsh (Nat.zero_lt_succ 1)]
  simp only [Result.andThen]
  rw [Oper.upon_value]
  go_wp2
  rw [run_callFunc_extern Tryz.func186 (by kernel_rfl) (by kernel_rfl) (by kernel_rfl) (e := Extern.AbiNoEscape.same) (by kernel_rfl)]
  rw [Lib.run_noEscape]
  simp only [Result.andThen]
  rw [Oper.upon_value]
  go_wp2
  rw [Lib.run_from_unsafe w ⟨b, 0, none⟩ Tryz.underlying196 Tryz.underlying80 hj hsh hT.lies]
  simp only [Result.andThen]
  rw [Oper.upon_value]
  go_wp2
  go_end0
  exact ⟨rfl, rfl⟩
/-- Behind copyCheck the builder knows its own address. -/
def Used (T : TypeId) (B b : Nat) (r : Option Nat) (l : List UInt8) (w : World) : Prop :=
  ∃ v, B ≤ b ∧ w.heap[b]? = some (.cells #[.pointer (some ⟨b, 0, none⟩), v] T (0, 0)) ∧ w.ownsRow B 5 1 v l.length (Lib.byteCells l) ∧ v.ownBlock = r ∧ r ≠ some b ∧ (l = [] → v = .slice none 0 0)
theorem copyCheck_any {T : TypeId} (hT : BldT T) (B b : Nat) (r : Option Nat) (l : List UInt8) (w : World) (h : Bld T B b r l w) :
    Calls Tryz.prog 162 #[.pointer (some ⟨b, 0, none⟩)] w fun e w' => e = .returned (.tuple #[]) ∧ Used T B b r l w' ∧ BS b r w r w' := by
  obtain ⟨p, v, hp, hB, hb, ho, hr, hne, hn⟩ := h
  have hlt := (Array.getElem?_eq_some_iff.1 hb).1
  rcases hp with rfl | rfl
  · refine (copyCheck_fresh hT b w (by rw [Lib.cell_of_heap hb]; rfl) (by simp [World.shape?, hb]) (Lib.frozen_of_heap hb 0)).mono ?_
    rintro e w' ⟨rfl, rfl⟩
    refine ⟨rfl, ⟨v, hB, ?_, ?_, hr, hne, hn⟩, ⟨rfl, rfl, rfl, by simp [World.setCell], fun k _ hk _ => Below.heap_setCell _ _ _ _ hk, .inl rfl⟩⟩
    · simp [World.setCell, Array.getElem?_modify, hb]
    · exact ownsRow_keep ho (fun g hg => Below.heap_setCell _ _ _ _ (fun e => by rw [hr] at hg; exact hne (by rw [hg]; simpa using e)))
  · refine (copyCheck_used b w (by rw [Lib.cell_of_heap hb]; rfl)).mono ?_
    rintro e w' ⟨rfl, rfl⟩
    exact ⟨rfl, ⟨v, hB, hb, ho, hr, hne, hn⟩, BS.refl _ _ _⟩
/-- The row is put back into the builder. -/
theorem used_put {T : TypeId} (hT : BldT T) {B b : Nat} {r : Option Nat} {w1 w2 : World} {v v' : Value} {l' : List UInt8} (hB : B ≤ b) (hb2 : w2.heap[b]? = some (.cells #[.pointer (some ⟨b, 0, none⟩), v] T (0, 0)))
    (ho : w2.ownsRow B 5 1 v' l'.length (Lib.byteCells l')) (hsz : w1.heap.size ≤ w2.heap.size) (hkeep : ∀ k, k < w1.heap.size → k ≠ b → r ≠ some k → w2.heap[k]? = w1.heap[k]?) (hos : w2.os = w1.os ∧ w2.tape = w1.tape ∧ w2.output = w1.output)
    (hat : v'.ownBlock = r ∨ ∃ k, w1.heap.size ≤ k ∧ v'.ownBlock = some k) (hn : l' = [] → v' = .slice none 0 0) :
    Bld T B b v'.ownBlock l' (w2.setCell ⟨b, 1, none⟩ v') ∧ BS b r w1 v'.ownBlock (w2.setCell ⟨b, 1, none⟩ v') := by
  have hne := ownBlock_not ho hb2 hT.ne
  refine ⟨⟨_, v', .inr rfl, hB, ?_, ?_, rfl, hne, hn⟩, ⟨hos.1, hos.2.1, hos.2.2, by simpa [World.setCell] using hsz, fun k hk h1 h2 => (Below.heap_setCell _ _ _ _ h1).trans (hkeep k hk h1 h2), hat⟩⟩
  · simp [World.setCell, Array.getElem?_modify, hb2]
  · exact ownsRow_keep ho (fun g hg => Below.heap_setCell _ _ _ _ (fun e => hne (by rw [hg]; simpa using e)))
def GivesBld (T : TypeId) (B b : Nat) (r : Option Nat) (l : List UInt8) (v : Value) (w : World) (e : Ending) (w' : World) : Prop := e = .returned v ∧ ∃ r', Bld T B b r' l w' ∧ BS b r w r' w'
set_option maxRecDepth 100000 in
set_option maxHeartbeats 2000000 in
theorem writeByte_any {T : TypeId} (hT : BldT T) (B b : Nat) (r : Option Nat) (l : List UInt8) (c : UInt8) (w : World) (h : Bld T B b r l w) (hl : l.length ≤ 100000000) (hBw : B ≤ w.heap.size) :
    Calls Tryz.prog 124 #[.pointer (some ⟨b, 0, none⟩), .int .u8 c.toNat] w (GivesBld T B b r (l ++ [c]) .nilIface w) := by
  obtain ⟨i0, hi, hz0, hz1, hz2⟩ := info_parts Tryz.infoByte
  have H := Lib.hid h
  clear h
  go_enter Tryz.func124, Tryz.ntmps124
  go_wp2_with fail
  refine (copyCheck_any hT B b r l _ H.out).mono ?_
  rintro e w1 ⟨rfl, ⟨v, hB, hbk, hown, hr, hne, _⟩, hs1⟩
  have c1 : w1.cell? ⟨b, 1, none⟩ = some v := by rw [Lib.cell_of_heap hbk]; rfl
  have hlt : b < w1.heap.size := (Array.getElem?_eq_some_iff.1 hbk).1
  have HO := Lib.hid hown
  have HBK := Lib.hid hbk
  have HR := Lib.hid hr
  have HS1 := Lib.hid hs1
  have hsz1 := hs1.size
  clear hown hbk hr hs1
  go_wp2_with (at_builtin; refine wpList_append_own_at _ rfl _ _ 81 rfl B 5 i0 (.int .u8 0) 1 1 Tryz.underlying81 hi hz0 hz1 hz2 rfl (by decide) _ _ _ rfl (HO.out.alloc _) ⟨w1.heap.size, 0, none⟩ 1 1 [.int .u8 c.toNat] rfl rfl (cell_one_new _ _ _) (by simp [Value.oneCell']) (by unfold maxLen; omega) (by omega) (by simp; omega) ?_; intro v' w2 hown' hgrow hnil hat; have H2 := Lib.hid (And.intro hown' (And.intro hgrow hat)); clear hown' hgrow hat hnil; have hb2 : w2.heap[b]? = some (.cells #[.pointer (some ⟨b, 0, none⟩), v] T (0, 0)) := (by rw [H2.out.2.1.block b (by simp; omega) (fun e => hne (HR.out.symm.trans e.symm)), Lib.alloc_old w1 _ b hlt]; exact HBK.out); have d1 : w2.cell? ⟨b, 1, none⟩ = some v := (by rw [Lib.cell_of_heap hb2]; rfl); have f1 : w2.frozen? ⟨b, 1, none⟩ = false := Lib.frozen_of_heap hb2 1; have HB2 := Lib.hid hb2; clear hb2; obtain ⟨ao, cap, rfl⟩ := ownsRow_form H2.out.1)
  go_ret
  obtain ⟨o2, g2, a2⟩ := H2.out
  have hfin := used_put hT (r := r) (w1 := w1) (l' := l ++ [c]) hB HB2.out (by simpa [Lib.byteCells] using o2) (by have := g2.size; simp at this; omega) (fun k hk h1 h2 => by rw [g2.block k (by simp; omega) (fun e => h2 (HR.out.symm.trans e.symm)), Lib.alloc_old w1 _ k hk]) ⟨g2.os, g2.tape, g2.output⟩ (by
    rcases a2 with a2 | a2
    · exact .inl (a2.trans HR.out)
    · exact .inr ⟨_, by simp, a2⟩) (by simp)
  exact ⟨rfl, _, hfin.1, HS1.out.trans hfin.2⟩
set_option maxRecDepth 100000 in
set_option maxHeartbeats 2000000 in
theorem writeString_any {T : TypeId} (hT : BldT T) (B b : Nat) (r : Option Nat) (l : List UInt8) (s : ByteArray) (w : World) (h : Bld T B b r l w) (hl : l.length ≤ 100000000) (hs : s.size ≤ 100000000) (hBw : B ≤ w.heap.size) :
    Calls Tryz.prog 125 #[.pointer (some ⟨b, 0, none⟩), .string s] w (GivesBld T B b r (l ++ s.data.toList) (.tuple #[.int .i64 s.size, .nilIface]) w) := by
  obtain ⟨i0, hi, hz0, hz1, hz2⟩ := info_parts Tryz.infoByte
  have H := Lib.hid h
  clear h
  go_enter Tryz.func125, Tryz.ntmps125
  go_wp2_with fail
  refine (copyCheck_any hT B b r l _ H.out).mono ?_
  rintro e w1 ⟨rfl, ⟨v, hB, hbk, hown, hr, hne, hnil⟩, hs1⟩
  have c1 : w1.cell? ⟨b, 1, none⟩ = some v := by rw [Lib.cell_of_heap hbk]; rfl
  have hlt : b < w1.heap.size := (Array.getElem?_eq_some_iff.1 hbk).1
  have HO := Lib.hid hown
  have HBK := Lib.hid hbk
  have HR := Lib.hid hr
  have HS1 := Lib.hid hs1
  have HN := Lib.hid hnil
  have hsz1 := hs1.size
  clear hown hbk hr hs1 hnil
  go_wp2_with (at_builtin; refine wpList_append_string_at _ rfl _ _ 81 9 rfl B 5 i0 Tryz.underlying81 Tryz.underlying9 hi hz0 hz1 hz2 _ _ _ rfl HO.out s rfl (by unfold maxLen; omega) (by omega) (by omega) ?_; intro v' w2 hown' hgrow hat hnl; have H2 := Lib.hid (And.intro hown' (And.intro hgrow hat)); have HNL := Lib.hid hnl; clear hown' hgrow hat hnl; have hb2 : w2.heap[b]? = some (.cells #[.pointer (some ⟨b, 0, none⟩), v] T (0, 0)) := (by rw [H2.out.2.1.block b hlt (fun e => hne (HR.out.symm.trans e.symm))]; exact HBK.out); have d1 : w2.cell? ⟨b, 1, none⟩ = some v := (by rw [Lib.cell_of_heap hb2]; rfl); have f1 : w2.frozen? ⟨b, 1, none⟩ = false := Lib.frozen_of_heap hb2 1; have HB2 := Lib.hid hb2; clear hb2; obtain ⟨ao, cap, rfl⟩ := ownsRow_form H2.out.1)
  go_ret2
  obtain ⟨o2, g2, a2⟩ := H2.out
  have hfin := used_put hT (r := r) (w1 := w1) (l' := l ++ s.data.toList) hB HB2.out (by simpa [Lib.byteCells, Lib.strCells] using o2) g2.size (fun k hk h1 h2 => g2.block k hk (fun e => h2 (HR.out.symm.trans e.symm))) ⟨g2.os, g2.tape, g2.output⟩ (by
    rcases a2 with a2 | a2
    · exact .inl (a2.trans HR.out)
    · exact .inr ⟨_, Nat.le_refl _, a2⟩) (by
    intro h0
    have h1 := List.append_eq_nil_iff.1 h0
    exact HNL.out.2 ⟨HN.out h1.1, by rw [← size_list, h1.2]; rfl⟩)
  exact ⟨rfl, _, hfin.1, HS1.out.trans hfin.2⟩
theorem len_any {T : TypeId} (B b : Nat) (r : Option Nat) (l : List UInt8) (w : World) (h : Bld T B b r l w) :
    Calls Tryz.prog 39 #[.pointer (some ⟨b, 0, none⟩)] w fun e w' => e = .returned (.int .i64 l.length) ∧ w = w' := by
  obtain ⟨p, v, hp, hB, hb, ho, hr, hne, hn⟩ := h
  obtain ⟨ao, cap, rfl⟩ := ownsRow_form ho
  have c1 : w.cell? ⟨b, 1, none⟩ = some (.slice ao l.length cap) := by rw [Lib.cell_of_heap hb]; rfl
  clear hb ho hr hn
  go_enter Tryz.func39, Tryz.ntmps39
  go_wp2
  go_ret
  exact ⟨rfl, rfl⟩
end Go.Proofs.YtnbolgdccdnjeaaGreatDoor
