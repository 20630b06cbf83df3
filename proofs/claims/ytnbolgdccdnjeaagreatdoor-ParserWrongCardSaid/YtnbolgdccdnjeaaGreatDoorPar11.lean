/- The parser's entry: contract. -/
import Derived.Test.YtnbolgdccdnjeaaGreatDoorPar8
import Derived.Test.YtnbolgdccdnjeaaGreatDoorQB
import Derived.Test.YtnbolgdccdnjeaaGreatDoorQC
import Derived.Test.YtnbolgdccdnjeaaGreatDoorQA
import Derived.Deep.DeepCutAuto
namespace Go.Proofs.YtnbolgdccdnjeaaGreatDoor
open Go.RowKit
/-- The block of a set that is read: its cells. -/
structure SetB (w : World) (b : Nat) (nm : List UInt8) (t life : Int) (v : Value) : Prop where
  c0 : w.cell? ⟨b, 0, none⟩ = some (.string (bytesOf nm))
  c1 : w.cell? ⟨b, 1, none⟩ = some (.int .i64 t)
  c2 : w.cell? ⟨b, 2, none⟩ = some (.int .i64 life)
  c3 : w.cell? ⟨b, 3, none⟩ = some v
  fz : ∀ j, w.frozen? ⟨b, j, none⟩ = false
theorem SetB.lt {w : World} {b : Nat} {nm : List UInt8} {t life : Int} {v : Value} (h : SetB w b nm t life v) : b < w.heap.size := World.block_lt_of_cell? w ⟨b, 0, none⟩ h.c0
theorem SetB.keep {w w' : World} {b : Nat} {nm : List UInt8} {t life : Int} {v : Value} (h : SetB w b nm t life v) (hb : w'.heap[b]? = w.heap[b]?) : SetB w' b nm t life v :=
  ⟨(World.cell?_of_block (w := w) (a := ⟨b, 0, none⟩) hb).trans h.c0, (World.cell?_of_block (w := w) (a := ⟨b, 1, none⟩) hb).trans h.c1, (World.cell?_of_block (w := w) (a := ⟨b, 2, none⟩) hb).trans h.c2, (World.cell?_of_block (w := w) (a := ⟨b, 3, none⟩) hb).trans h.c3, fun j => (World.frozen?_of_block (w := w) (a := ⟨b, j, none⟩) hb).trans (h.fz j)⟩
theorem SetB.below {w w' : World} {b : Nat} {nm : List UInt8} {t life : Int} {v : Value} (h : SetB w b nm t life v) (hb : Below w.heap.size w w') : SetB w' b nm t life v := h.keep (hb.block b h.lt)
theorem SetB.far {w : World} {b : Nat} {nm : List UInt8} {t life : Int} {v : Value} (h : SetB w b nm t life v) {p : Addr} (hp : b ≠ p.block) (u : Value) : SetB (w.setCell p u) b nm t life v := h.keep (Below.heap_setCell _ _ _ _ hp)
theorem cs_same {w : World} {p : Addr} {u v : Value} (h : w.cell? p = some u) : (w.setCell p v).cell? p = some v := World.cell?_setCell_same (w := w) (a := p) (v := v) h
theorem cs_other {w : World} {b i j : Nat} {v : Value} (h : i ≠ j) : (w.setCell ⟨b, i, none⟩ v).cell? ⟨b, j, none⟩ = w.cell? ⟨b, j, none⟩ := World.cell?_setCell_other (w := w) (a := ⟨b, i, none⟩) (b := ⟨b, j, none⟩) (v := v) (fun e => h (by cases e; rfl))
theorem SetB.set0 {w : World} {b : Nat} {nm : List UInt8} {t life : Int} {v : Value} (h : SetB w b nm t life v) (x : List UInt8) : SetB (w.setCell ⟨b, 0, none⟩ (.string (bytesOf x))) b x t life v :=
  ⟨cs_same h.c0, (cs_other (by omega)).trans h.c1, (cs_other (by omega)).trans h.c2, (cs_other (by omega)).trans h.c3, fun j => (World.frozen?_setCell _ _ _ _).trans (h.fz j)⟩
theorem SetB.set1 {w : World} {b : Nat} {nm : List UInt8} {t life : Int} {v : Value} (h : SetB w b nm t life v) (x : Int) : SetB (w.setCell ⟨b, 1, none⟩ (.int .i64 x)) b nm x life v :=
  ⟨(cs_other (by omega)).trans h.c0, cs_same h.c1, (cs_other (by omega)).trans h.c2, (cs_other (by omega)).trans h.c3, fun j => (World.frozen?_setCell _ _ _ _).trans (h.fz j)⟩
theorem SetB.set2 {w : World} {b : Nat} {nm : List UInt8} {t life : Int} {v : Value} (h : SetB w b nm t life v) (x : Int) : SetB (w.setCell ⟨b, 2, none⟩ (.int .i64 x)) b nm t x v :=
  ⟨(cs_other (by omega)).trans h.c0, (cs_other (by omega)).trans h.c1, cs_same h.c2, (cs_other (by omega)).trans h.c3, fun j => (World.frozen?_setCell _ _ _ _).trans (h.fz j)⟩
theorem SetB.set3 {w : World} {b : Nat} {nm : List UInt8} {t life : Int} {v : Value} (h : SetB w b nm t life v) (x : Value) : SetB (w.setCell ⟨b, 3, none⟩ x) b nm t life x :=
  ⟨(cs_other (by omega)).trans h.c0, (cs_other (by omega)).trans h.c1, (cs_other (by omega)).trans h.c2, cs_same h.c3, fun j => (World.frozen?_setCell _ _ _ _).trans (h.fz j)⟩
def EntryOut (pb sb : Nat) (toks : List Np.Tok) (size : Int) (sets : List (List UInt8 × Int)) (w : World) (x : Np.Res Np.DSet) (e : Ending) (w' : World) : Prop :=
  match x with
    | .ok s r' => MapQ sb ((s.name, s.type) :: sets) w' ∧ (∃ v, e = .returned (.agg #[.string (bytesOf s.name), .int .i64 s.type, .int .i64 s.life, v]) ∧ SlR RDatum 3 (sansP w' (fun k => k < w.heap.size)) w'.heap.size v s.data) ∧ MovedTo (fun k => k = sb) pb toks w r' w'
    | .err er r' => MapQ sb sets w' ∧ e = .panicked (failV er (Np.posT size r')) ∧ MovedTo (fun k => k = sb) pb toks w r' w'
theorem entry_err {pb sb : Nat} {toks : List Np.Tok} {size : Int} {sets : List (List UInt8 × Int)} {w w' : World} {x : Np.Res Np.DSet} {er : Int} {i : Nat} (h : x = .err er (toks.drop i)) (hQ : MapQ sb sets w') (hi : i ≤ toks.length) (hM : Mv (fun k => k = sb) pb i w w') : EntryOut pb sb toks size sets w x (.panicked (failV er (Np.posT size (toks.drop i)))) w' := by
  subst h; exact ⟨hQ, rfl, i, hi, rfl, hM⟩
theorem under_is (x z : List UInt8) (hx : Np.validName x = true) (hz : Np.validName z = true) (hx6 : x.length ≤ 60) (hz6 : z.length ≤ 60) (b : Bool) (hb : Np.underL x z = b) (w : World) :
    Calls Tryz.prog 26 #[.string (bytesOf x), .string (bytesOf z)] w fun e w' => e = .returned (.tuple #[.bool b, .int .i64 0]) ∧ Below w.heap.size w w' := by
  have e1 : (bytesOf x).data.toList = x := by simp [bytesOf]
  have e2 : (bytesOf z).data.toList = z := by simp [bytesOf]
  have := under_yes (bytesOf x) (bytesOf z) (by rw [← size_list, e1]; omega) (by rw [← size_list, e2]; omega) w (by rw [e1]; exact hx) (by rw [e2]; exact hz)
  rw [e1, e2, hb] at this
  exact this
/-- Behind the owner of an entry. -/
def OwnerRel (w : World) (apex : List UInt8) (toks : List Np.Tok) (i : Nat) (wx : World) : Prop :=
  ∃ nm : List UInt8, Np.validName nm = true ∧ nm.length ≤ 60 ∧ Np.ownerR apex (toks.drop i) = .ok nm (toks.drop (i + 1)) ∧ i + 1 ≤ toks.length ∧ Below w.heap.size w wx ∧ SetB wx w.heap.size [] 0 0 (.slice none 0 0) ∧ SetB wx (w.heap.size + 1) nm 0 300 (.slice none 0 0)
/-- What stands while an entry is read. -/
def Stt (w : World) (pb j : Nat) (nm : List UInt8) (t life : Int) (v : Value) (wx : World) : Prop :=
  Mv noX pb j w wx ∧ SetB wx w.heap.size [] 0 0 (.slice none 0 0) ∧ SetB wx (w.heap.size + 1) nm t life v
section
variable {w wx wy : World} {pb j : Nat} {nm : List UInt8} {t life : Int} {v : Value}
theorem Stt.grow (h : Stt w pb j nm t life v wx) (hb : Below wx.heap.size wx wy) : Stt w pb j nm t life v wy := ⟨h.1.then hb, h.2.1.below hb, h.2.2.below hb⟩
theorem Stt.mv (h : Stt w pb j nm t life v wx) (hpb : pb < w.heap.size) {j' : Nat} (hm : Mv noX pb j' wx wy) : Stt w pb j' nm t life v wy :=
  ⟨h.1.trans hm, h.2.1.keep (hm.block h.2.1.lt (noX_not _) (by omega)), h.2.2.keep (hm.block h.2.2.lt (noX_not _) (by omega))⟩
theorem Stt.next (h : Stt w pb j nm t life v wx) (hpb : pb < w.heap.size) (j' : Nat) (n : Int) (hn : n = j') : Stt w pb j' nm t life v (wx.setCell ⟨pb, 1, none⟩ (.int .i64 n)) := by
  subst hn; exact h.mv hpb (Mv.set (Below.refl _ _))
theorem Stt.type (h : Stt w pb j nm t life v wx) (x : Int) : Stt w pb j nm x life v (wx.setCell ⟨w.heap.size + 1, 1, none⟩ (.int .i64 x)) :=
  ⟨h.1.setNew (by dsimp only; omega) _, h.2.1.far (by dsimp only; omega) _, h.2.2.set1 x⟩
theorem Stt.lif (h : Stt w pb j nm t life v wx) (x : Int) : Stt w pb j nm t x v (wx.setCell ⟨w.heap.size + 1, 2, none⟩ (.int .i64 x)) :=
  ⟨h.1.setNew (by dsimp only; omega) _, h.2.1.far (by dsimp only; omega) _, h.2.2.set2 x⟩
theorem Stt.data (h : Stt w pb j nm t life v wx) (x : Value) : Stt w pb j nm t life x (wx.setCell ⟨w.heap.size + 1, 3, none⟩ x) :=
  ⟨h.1.setNew (by dsimp only; omega) _, h.2.1.far (by dsimp only; omega) _, h.2.2.set3 x⟩
theorem Stt.pin (h : Stt w pb j nm t life v wx) {tv : Value} {toks : List Np.Tok} {size : Int} {i : Nat} (hP : PIn w pb tv toks size i) (hj : j ≤ toks.length) : PIn wx pb tv toks size j := h.1.pin hP (noX_lt pb) hj
theorem Stt.c3 (h : Stt w pb j nm t life v wx) (hpb : pb < w.heap.size) {u : Value} (hc : w.cell? ⟨pb, 3, none⟩ = some u) : wx.cell? ⟨pb, 3, none⟩ = some u := (h.1.mine hpb (noX_not _) (by omega)).trans hc
theorem Stt.dat (h : Stt w pb j nm t life v wx) {dm bx b4 b6 b7 : Nat} (hD : DataAt pb dm bx b4 b6 b7 w) : DataAt pb dm bx b4 b6 b7 wx := hD.mv h.1 (fun k _ => noX_not k)
theorem Stt.mapq (h : Stt w pb j nm t life v wx) {sb : Nat} {sets : List (List UInt8 × Int)} (hQ : MapQ sb sets w) (hsb : pb < sb) : MapQ sb sets wx := hQ.keep (h.1.block hQ.lt (noX_not _) (by omega))
theorem Stt.err (h : Stt w pb j nm t life v wx) {sb : Nat} {toks : List Np.Tok} {size : Int} {sets : List (List UInt8 × Int)} (hQ : MapQ sb sets w) (hsb : pb < sb) (hj : j ≤ toks.length) {x : Np.Res Np.DSet} {er : Int} (hx : x = .err er (toks.drop j)) :
    EntryOut pb sb toks size sets w x (.panicked (failV er (Np.posT size (toks.drop j)))) wx := entry_err hx (h.mapq hQ hsb) hj (h.1.wider (fun _ hk => hk.elim))
end
/-- .. and the question that the entry answers. -/
def Stq (w : World) (pb j : Nat) (nm : List UInt8) (t life : Int) (v : Value) (qb : Nat) (wx : World) : Prop :=
  Stt w pb j nm t life v wx ∧ wx.heap[qb]? = some (.cells #[.string (bytesOf nm), .int .i64 t] 180 (0, 0)) ∧ w.heap.size + 2 ≤ qb
section
variable {w wx wy : World} {pb j qb : Nat} {nm : List UInt8} {t life : Int} {v : Value}
theorem Stq.lt (h : Stq w pb j nm t life v qb wx) : qb < wx.heap.size := (Array.getElem?_eq_some_iff.1 h.2.1).1
theorem Stq.q0 (h : Stq w pb j nm t life v qb wx) : wx.cell? ⟨qb, 0, none⟩ = some (.string (bytesOf nm)) := by simp [World.cell?, h.2.1]
theorem Stq.q1 (h : Stq w pb j nm t life v qb wx) : wx.cell? ⟨qb, 1, none⟩ = some (.int .i64 t) := by simp [World.cell?, h.2.1]
theorem Stq.grow (h : Stq w pb j nm t life v qb wx) (hb : Below wx.heap.size wx wy) : Stq w pb j nm t life v qb wy := ⟨h.1.grow hb, (hb.block qb h.lt).trans h.2.1, h.2.2⟩
theorem Stq.mv (h : Stq w pb j nm t life v qb wx) (hpb : pb < w.heap.size) {j' : Nat} (hm : Mv noX pb j' wx wy) : Stq w pb j' nm t life v qb wy :=
  ⟨h.1.mv hpb hm, (hm.block h.lt (noX_not _) (by have := h.2.2; omega)).trans h.2.1, h.2.2⟩
theorem Stq.far (h : Stq w pb j nm t life v qb wx) {p : Addr} (hp : p.block ≠ qb) (u : Value) : (wx.setCell p u).heap[qb]? = some (.cells #[.string (bytesOf nm), .int .i64 t] 180 (0, 0)) := (Below.heap_setCell _ _ _ _ (fun e => hp e.symm)).trans h.2.1
theorem Stq.next (h : Stq w pb j nm t life v qb wx) (hpb : pb < w.heap.size) (j' : Nat) (n : Int) (hn : n = j') : Stq w pb j' nm t life v qb (wx.setCell ⟨pb, 1, none⟩ (.int .i64 n)) :=
  ⟨h.1.next hpb j' n hn, h.far (by have := h.2.2; dsimp only; omega) _, h.2.2⟩
theorem Stq.lif (h : Stq w pb j nm t life v qb wx) (x : Int) : Stq w pb j nm t x v qb (wx.setCell ⟨w.heap.size + 1, 2, none⟩ (.int .i64 x)) :=
  ⟨h.1.lif x, h.far (by have := h.2.2; dsimp only; omega) _, h.2.2⟩
theorem Stq.data (h : Stq w pb j nm t life v qb wx) (x : Value) : Stq w pb j nm t life x qb (wx.setCell ⟨w.heap.size + 1, 3, none⟩ x) :=
  ⟨h.1.data x, h.far (by have := h.2.2; dsimp only; omega) _, h.2.2⟩
/-- A growth that may write one more block, behind the question's. -/
theorem Stq.grown (h : Stq w pb j nm t life v qb wx) {row : Option Nat} (hr : ∀ g, row = some g → qb < g) (hg : wx.grownBy wy row) : Stq w pb j nm t life v qb wy := by
  have hb : ∀ k, k < wx.heap.size → k ≤ qb → wy.heap[k]? = wx.heap[k]? := fun k hk hq => hg.block k hk (fun e => by have := hr k e.symm; omega)
  have h2 := h.2.2
  refine ⟨⟨⟨hg.os.trans h.1.1.1, hg.tape.trans h.1.1.2.1, hg.output.trans h.1.1.2.2.1, Nat.le_trans h.1.1.os hg.size, fun k hk hx => ?_⟩, h.1.2.1.keep (hb _ h.1.2.1.lt (by omega)), h.1.2.2.keep (hb _ h.1.2.2.lt (by omega))⟩, (hb _ h.lt (Nat.le_refl _)).trans h.2.1, h.2.2⟩
  rw [hb k (Nat.lt_of_lt_of_le hk h.1.1.os) (by omega)]
  exact h.1.1.2.2.2.2 k hk hx
end
section
variable {apex s : List UInt8} {sets : List (List UInt8 × Int)} {r r1 : List Np.Tok} {t : Int}
theorem entryR_e1 (h : Np.ownerR apex r = .ok s r1) (ha : Np.isAny r1 = false) : Np.entryR apex sets r = .err 10 r1 := by
  unfold Np.entryR; rw [h]; simp [ha]
theorem entryR_e2 (h : Np.ownerR apex r = .ok s r1) (ha : Np.isAny r1 = true) (ht : Np.typeR (Np.peekT r1).text = t) (h0 : t = 0) : Np.entryR apex sets r = .err 10 r1 := by
  unfold Np.entryR; rw [h]; simp [ha, ht, h0]
theorem entryR_e3 (h : Np.ownerR apex r = .ok s r1) (ha : Np.isAny r1 = true) (ht : Np.typeR (Np.peekT r1).text = t) (h0 : t ≠ 0) (hw : (Np.isWild s && (decide (t ≠ 1) && decide (t ≠ 5))) = true) : Np.entryR apex sets r = .err 12 r1 := by
  unfold Np.entryR; rw [h]; simp only [ha, ht, h0, hw, if_true, if_false, Bool.true_eq_false]
theorem entryR_e4 (h : Np.ownerR apex r = .ok s r1) (ha : Np.isAny r1 = true) (ht : Np.typeR (Np.peekT r1).text = t) (h0 : t ≠ 0) (hw : (Np.isWild s && (decide (t ≠ 1) && decide (t ≠ 5))) = false) (hm : (s, t) ∈ sets) : Np.entryR apex sets r = .err 5 r1 := by
  unfold Np.entryR; rw [h]; simp only [ha, ht, h0, hw, hm, if_true, if_false, Bool.true_eq_false, Bool.false_eq_true]
theorem entryR_e5 (h : Np.ownerR apex r = .ok s r1) (ha : Np.isAny r1 = true) (ht : Np.typeR (Np.peekT r1).text = t) (h0 : t ≠ 0) (hw : (Np.isWild s && (decide (t ≠ 1) && decide (t ≠ 5))) = false) (hm : (s, t) ∉ sets) {er : Int} {r' : List Np.Tok} (hl : Np.lifeR t r1.tail = .err er r') :
    Np.entryR apex sets r = .err er r' := by
  unfold Np.entryR; rw [h]; simp only [ha, ht, h0, hw, hm, hl, if_false, Bool.true_eq_false, Bool.false_eq_true]
theorem entryR_e6 (h : Np.ownerR apex r = .ok s r1) (ha : Np.isAny r1 = true) (ht : Np.typeR (Np.peekT r1).text = t) (h0 : t ≠ 0) (hw : (Np.isWild s && (decide (t ≠ 1) && decide (t ≠ 5))) = false) (hm : (s, t) ∉ sets) {life : Int} {r2 : List Np.Tok} (hl : Np.lifeR t r1.tail = .ok life r2) {er : Int} {r' : List Np.Tok} (hd : Np.dataR t 9 [] r2 = .err er r') :
    Np.entryR apex sets r = .err er r' := by
  unfold Np.entryR; rw [h]; simp only [ha, ht, h0, hw, hm, hl, hd, if_false, Bool.true_eq_false, Bool.false_eq_true]
theorem entryR_e7 (h : Np.ownerR apex r = .ok s r1) (ha : Np.isAny r1 = true) (ht : Np.typeR (Np.peekT r1).text = t) (h0 : t ≠ 0) (hw : (Np.isWild s && (decide (t ≠ 1) && decide (t ≠ 5))) = false) (hm : (s, t) ∉ sets) {life : Int} {r2 : List Np.Tok} (hl : Np.lifeR t r1.tail = .ok life r2) {l : List Np.Datum} {r3 : List Np.Tok} (hd : Np.dataR t 9 [] r2 = .ok l r3) :
    Np.entryR apex sets r = .ok ⟨s, t, life, Np.sortD l⟩ r3 := by
  unfold Np.entryR; rw [h]; simp only [ha, ht, h0, hw, hm, hl, hd, if_false, Bool.true_eq_false, Bool.false_eq_true]
theorem lifeR_no (h : lifeB t r = false) : Np.lifeR t r = .ok 300 r := by
  unfold Np.lifeR; unfold lifeB at h; rw [if_pos h]
theorem lifeR_e1 (h : lifeB t r = true) (hn : Np.isNum r.tail = false) : Np.lifeR t r = .err 10 r.tail := by
  unfold Np.lifeR; unfold lifeB at h; rw [if_neg (by rw [h]; simp), if_pos hn]
theorem lifeR_e2 (h : lifeB t r = true) (hn : Np.isNum r.tail = true) (h3 : 100000 < (Np.peekT r.tail).n) : Np.lifeR t r = .err 3 r.tail := by
  unfold Np.lifeR; unfold lifeB at h; rw [if_neg (by rw [h]; simp), if_neg (by rw [hn]; simp), if_pos h3]
theorem lifeR_ok (h : lifeB t r = true) (hn : Np.isNum r.tail = true) (h3 : ¬ 100000 < (Np.peekT r.tail).n) : Np.lifeR t r = .ok (Np.peekT r.tail).n r.tail.tail := by
  unfold Np.lifeR; unfold lifeB at h; rw [if_neg (by rw [h]; simp), if_neg (by rw [hn]; simp), if_neg h3]
theorem isLife_is (pb : Nat) (tv : Value) (toks : List Np.Tok) (size : Int) (i : Nat) (t : Int) (w : World) (b : Bool) (hP : PIn w pb tv toks size i) (hb : lifeB t (toks.drop i) = b) :
    Calls Tryz.prog 167 #[.pointer (some ⟨pb, 0, none⟩), .int .i64 t] w fun e w' => e = .returned (.bool b) ∧ Below w.heap.size w w' := by
  have := isLife_any pb tv toks size i t w hP
  rw [hb] at this
  exact this
theorem datumR_lt {n : Nat} {d : Np.Datum} {r' : List Np.Tok} (h : Np.datumR t n r = .ok d r') : n < 8 := by
  unfold Np.datumR at h
  split at h
  · cases h
  · split at h
    · cases h
    · rename_i h2
      have : Np.mostR t ≤ 8 := by unfold Np.mostR; split <;> omega
      omega
theorem inner_len (x : List UInt8) : (Np.innerT x).length ≤ x.length := by unfold Np.innerT; simp; omega
theorem datumR_text {n : Nat} {d : Np.Datum} {r' : List Np.Tok} (h : Np.datumR t n r = .ok d r') (hb : (Np.peekT r).text.length ≤ 60) : d.text.length ≤ 60 := by
  unfold Np.datumR at h
  split at h
  · cases h
  · split at h
    · cases h
    · unfold Np.readR at h
      split at h
      · unfold Np.addrR at h
        split at h
        · cases h
        · cases h; simp
      · split at h
        · unfold Np.hostR at h
          split at h
          · cases h
          · split at h
            · cases h
            · cases h; exact hb
        · split at h
          · unfold Np.textR at h
            split at h
            · cases h
            · cases h; exact Nat.le_trans (inner_len _) hb
          · split at h
            all_goals
              unfold Np.pairR at h
              split at h
              · cases h
              · split at h
                · cases h
                · cases h; simp
theorem dataR_err {n : Nat} {acc : List Np.Datum} {er : Int} {r' : List Np.Tok} (h : Np.datumR t acc.length r = .err er r') : Np.dataR t (n + 1) acc r = .err er r' := by
  unfold Np.dataR; rw [h]
theorem dataR_e2 {n : Nat} {acc : List Np.Datum} {d : Np.Datum} {r' : List Np.Tok} (h : Np.datumR t acc.length r = .ok d r') (hs : (Np.isS [44] r' || Np.isS [59] r') = false) : Np.dataR t (n + 1) acc r = .err 10 r' := by
  unfold Np.dataR; rw [h]; simp only [hs, if_true]
theorem dataR_e3 {n : Nat} {acc : List Np.Datum} {d : Np.Datum} {r' : List Np.Tok} (h : Np.datumR t acc.length r = .ok d r') (hs : (Np.isS [44] r' || Np.isS [59] r') = true) (hm : d ∈ acc) : Np.dataR t (n + 1) acc r = .err 5 r' := by
  unfold Np.dataR; rw [h]; simp only [hs, hm, if_true, if_false, Bool.true_eq_false]
theorem dataR_more {n : Nat} {acc : List Np.Datum} {d : Np.Datum} {r' : List Np.Tok} (h : Np.datumR t acc.length r = .ok d r') (hs : Np.isS [44] r' = true) (hm : d ∉ acc) : Np.dataR t (n + 1) acc r = Np.dataR t n (acc ++ [d]) r'.tail := by
  conv => lhs; unfold Np.dataR
  rw [h]; simp only [hs, hm, Bool.true_or, if_true, if_false, Bool.true_eq_false]
theorem dataR_end {n : Nat} {acc : List Np.Datum} {d : Np.Datum} {r' : List Np.Tok} (h : Np.datumR t acc.length r = .ok d r') (hs : (Np.isS [44] r' || Np.isS [59] r') = true) (h4 : Np.isS [44] r' = false) (hm : d ∉ acc) : Np.dataR t (n + 1) acc r = .ok (acc ++ [d]) r'.tail := by
  rw [h4, Bool.false_or] at hs
  unfold Np.dataR; rw [h]; simp only [hs, h4, hm, Bool.false_or, if_false, Bool.true_eq_false, Bool.false_eq_true]
theorem datum_is (t : Int) (h1 : 1 ≤ t) (h7 : t ≤ 7) (pb dm bx b4 b6 b7 : Nat) (tv : Value) (toks : List Np.Tok) (size : Int) (i : Nat) (nm : ByteArray) (life : Int) (A : Option Addr) (n c : Nat) (hn : n ≤ 8) (w : World) (hP : PIn w pb tv toks size i) (c3 : w.cell? ⟨pb, 3, none⟩ = some (.map (some dm))) (hD : DataAt pb dm bx b4 b6 b7 w) (x : Np.Res Np.Datum) (hx : Np.datumR t n (toks.drop i) = x) :
    Calls Tryz.prog 168 #[.pointer (some ⟨pb, 0, none⟩), .agg #[.string nm, .int .i64 t, .int .i64 life, .slice A n c]] w (ReadOut datV pb toks size w x) := by
  rw [← hx]
  exact datum_any t h1 h7 pb dm bx b4 b6 b7 tv toks size i nm life A n c hn w hP c3 hD
theorem Tryz.infoDatP : (Tryz.prog.info? 43).map (fun i => (i.zero, i.size, i.bytes)) = some (some (.agg #[.string ⟨#[]⟩, .int .i64 0, .int .i64 0]), 3, 32) := by kernel_rfl
/-- The data read so far: a row of the call's own, behind the question. -/
def Acc (qb : Nat) (acc : List Np.Datum) (A : Option Addr) (c : Nat) (wx : World) : Prop := wx.ownsRow (qb + 1) 43 3 (.slice A acc.length c) acc.length ((acc.map encD).flatten) ∧ ∀ x ∈ acc, x.text.length ≤ 60
theorem Acc.read {qb : Nat} {acc : List Np.Datum} {A : Option Addr} {c : Nat} {wx : World} (h : Acc qb acc A c wx) (h8 : acc.length ≤ 8) : SlR RDatum 3 wx wx.heap.size (.slice A acc.length c) acc :=
  slr_of_own encD (fun _ _ => rfl) (by rw [List.flatMap_def]; exact h.1) (by omega) (fun x hx => ⟨bytesOf x.text, by simp [bytesOf], by rw [← size_list]; have := h.2 x hx; simp [bytesOf]; omega, rfl⟩)
theorem Acc.below {qb : Nat} {acc : List Np.Datum} {A : Option Addr} {c : Nat} {wx wy : World} (h : Acc qb acc A c wx) (hb : Below wx.heap.size wx wy) : Acc qb acc A c wy := ⟨ownsRow_keep h.1 (fun g hg => hb.block g (ownsRow_base h.1 g hg).2), h.2⟩
theorem Acc.mv {qb pb j : Nat} {acc : List Np.Datum} {A : Option Addr} {c : Nat} {wx wy : World} (h : Acc qb acc A c wx) (hpq : pb ≤ qb) (hm : Mv noX pb j wx wy) : Acc qb acc A c wy := ⟨ownsRow_keep h.1 (fun g hg => hm.block (ownsRow_base h.1 g hg).2 (noX_not _) (by have := (ownsRow_base h.1 g hg).1; omega)), h.2⟩
theorem Acc.set {qb : Nat} {acc : List Np.Datum} {A : Option Addr} {c : Nat} {wx : World} (h : Acc qb acc A c wx) {p : Addr} (hp : p.block ≤ qb) (u : Value) : Acc qb acc A c (wx.setCell p u) := ⟨ownsRow_keep h.1 (fun g hg => Below.heap_setCell _ _ _ _ (by have := (ownsRow_base h.1 g hg).1; omega)), h.2⟩
theorem typeOf_is (x : List UInt8) (t : Int) (ht : Np.typeR x = t) (w : World) :
    Calls Tryz.prog 166 #[.string (bytesOf x)] w fun e w' => e = .returned (.int .i64 t) ∧ Below w.heap.size w w' := by
  have := typeOf_any x w
  rw [ht] at this
  exact this
end
set_option maxRecDepth 100000 in
set_option maxHeartbeats 8000000 in
theorem pentry_any (pb sb dm bx b4 b6 b7 : Nat) (tv : Value) (toks : List Np.Tok) (size : Int) (i : Nat) (apex : List UInt8) (hav : Np.validName apex = true) (ha6 : apex.length ≤ 60) (sets : List (List UInt8 × Int)) (w : World) (hP : PIn w pb tv toks size i)
    (c3 : w.cell? ⟨pb, 3, none⟩ = some (.map (some dm))) (hD : DataAt pb dm bx b4 b6 b7 w) (hQ : MapQ sb sets w) (hsb : pb < sb) (hsd : sb ≠ dm ∧ sb ≠ bx ∧ sb ≠ b4 ∧ sb ≠ b4 + 1 ∧ sb ≠ b6 ∧ sb ≠ b6 + 1 ∧ sb ≠ b7 ∧ sb ≠ b7 + 1) :
    Calls Tryz.prog 140 #[.pointer (some ⟨pb, 0, none⟩), .string (bytesOf apex), .map (some sb)] w (EntryOut pb sb toks size sets w (Np.entryR apex sets (toks.drop i))) := by
  have hpb := hP.lt
  have HP := Lib.hid hP
  have HD := Lib.hid hD
  have HQ := Lib.hid hQ
  have HAV := Lib.hid hav
  have HSD := Lib.hid hsd
  clear hP hD hQ hav hsd
  go_enter Tryz.func140, Tryz.ntmps140
  have hal : Below w.heap.size w ((w.alloc (.cells #[.string ⟨#[]⟩, .int .i64 0, .int .i64 0, .slice none 0 0] 39)).alloc (.cells #[.string (bytesOf apex), .int .i64 0, .int .i64 300, .slice none 0 0] 39)) := ((Below.refl _ _).alloc (Nat.le_refl _) _).alloc (by simp) _
  have hr1 : SetB ((w.alloc (.cells #[.string ⟨#[]⟩, .int .i64 0, .int .i64 0, .slice none 0 0] 39)).alloc (.cells #[.string (bytesOf apex), .int .i64 0, .int .i64 300, .slice none 0 0] 39)) w.heap.size [] 0 0 (.slice none 0 0) :=
    ⟨cell1_new _ _ _ _ 0, cell1_new _ _ _ _ 1, cell1_new _ _ _ _ 2, cell1_new _ _ _ _ 3, fun j => by simp [go_sem]⟩
  have hr2 : SetB ((w.alloc (.cells #[.string ⟨#[]⟩, .int .i64 0, .int .i64 0, .slice none 0 0] 39)).alloc (.cells #[.string (bytesOf apex), .int .i64 0, .int .i64 300, .slice none 0 0] 39)) (w.heap.size + 1) apex 0 300 (.slice none 0 0) :=
    ⟨cell2_new _ _ _ _ 0, cell2_new _ _ _ _ 1, cell2_new _ _ _ _ 2, cell2_new _ _ _ _ 3, fun j => by simp [go_sem]⟩
  have HAL := Lib.hid hal
  have HR1 := Lib.hid hr1
  have HR2 := Lib.hid hr2
  have HP0 := Lib.hid (HP.out.keep hal hpb)
  clear hal hr1 hr2
  obtain ⟨b64, h64⟩ : ∃ b, Np.isS [64] (toks.drop i) = b := ⟨_, rfl⟩
  have H64 := Lib.hid h64
  clear h64
  go_upto_if 17 with (go_at_call 138; refine (isSign_is pb tv toks size i ⟨#[64]⟩ _ b64 HP0.out H64.out).mono ?_; rintro e w1 ⟨rfl, hb1⟩; have HB1 := Lib.hid (HAL.out.trans (hb1.mono HAL.out.size)); have HS1 := Lib.hid (HR1.out.below hb1); have HS2 := Lib.hid (HR2.out.below hb1); clear hb1)
  go_cut [] (fun wx => OwnerRel w apex toks i wx)
  case first =>
    cases b64 with
    | true =>
      have hlt : i + 1 ≤ toks.length := by have := Np.isS_ne H64.out; simp at this; omega
      go_wp2_with fail
      go_meet
      case rel =>
        exact ⟨apex, HAV.out, ha6, by unfold Np.ownerR; rw [H64.out, if_pos rfl, List.tail_drop], hlt, HB1.out, HS1.out, HS2.out⟩
    | false =>
      have HP1 := Lib.hid (HP.out.keep HB1.out hpb)
      have hpb1 := HP1.out.lt
      go_wp2_with fail
      by_cases ha : Np.isAny (toks.drop i) = true
      case neg =>
        have ha : Np.isAny (toks.drop i) = false := by simpa using ha
        have HA := Lib.hid ha
        clear ha
        refine (anyWord_no pb tv toks size i _ HP1.out HA.out).mono ?_
        rintro e w3 ⟨rfl, hb3⟩
        have HB3 := Lib.hid (HB1.out.trans (hb3.mono HB1.out.size))
        clear hb3
        go_wp2_with fail
        exact ⟨rfl, entry_err (i := i) (by unfold Np.entryR Np.ownerR; rw [H64.out, HA.out]; rfl) (HQ.out.keep (HB3.out.block sb HQ.out.lt)) HP.out.le (Mv.of_below HB3.out HP.out.c1)⟩
      case pos =>
        have hlt : i + 1 ≤ toks.length := by have := Np.isAny_ne ha; simp at this; omega
        have HA := Lib.hid ha
        clear ha
        refine (anyWord_yes pb tv toks size i _ HP1.out HA.out).mono ?_
        rintro e w3 ⟨rfl, hb3⟩
        have HB3 := Lib.hid (HB1.out.trans (hb3.mono HB1.out.size))
        have HT1 := Lib.hid (HS1.out.below hb3)
        have ht2 := HS2.out.below hb3
        have HT2 := Lib.hid ht2
        have k0 := ht2.c0
        have kf := ht2.fz 0
        have hl3 := ht2.lt
        clear hb3 ht2
        have hx6 := (HP.out.tok i).2.1
        obtain ⟨x, hx⟩ : ∃ x, x = (Np.peekT (toks.drop i)).text := ⟨_, rfl⟩
        rw [← hx] at hx6 ⊢
        have HXX := Lib.hid hx
        clear hx
        go_wp2_with fail
        have hb4 : Below w.heap.size w (w3.setCell ⟨w.heap.size + 1, 0, none⟩ (.string (bytesOf x))) := HB3.out.setCell (by simp) _
        have h41 := HT1.out.far (p := ⟨w.heap.size + 1, 0, none⟩) (by simp) (.string (bytesOf x))
        have h42 := HT2.out.set0 x
        generalize w3.setCell ⟨w.heap.size + 1, 0, none⟩ (.string (bytesOf x)) = w4 at hb4 h41 h42 ⊢
        have HB4 := Lib.hid hb4
        have H41 := Lib.hid h41
        have H42 := Lib.hid h42
        clear hb4 h41 h42 k0 kf hl3
        by_cases hv : Np.validName x = true
        case neg =>
          have hv : Np.validName x = false := by simpa using hv
          have HV := Lib.hid hv
          clear hv
          refine (nameValid_is x hx6 false HV.out _).mono ?_
          rintro e w5 ⟨rfl, hb5⟩
          have HB5 := Lib.hid (HB4.out.trans (hb5.mono HB4.out.size))
          clear hb5
          go_wp2_with fail
          refine (check_yes pb tv toks size i 11 _ (HP.out.keep HB5.out hpb)).mono ?_
          rintro e w6 ⟨rfl, hb6⟩
          have HB6 := Lib.hid (HB5.out.trans (hb6.mono HB5.out.size))
          clear hb6
          go_wp2_with fail
          exact ⟨rfl, entry_err (i := i) (by unfold Np.entryR Np.ownerR; rw [H64.out, HA.out, ← HXX.out, HV.out]; rfl) (HQ.out.keep (HB6.out.block sb HQ.out.lt)) HP.out.le (Mv.of_below HB6.out HP.out.c1)⟩
        case pos =>
          have HV := Lib.hid hv
          clear hv
          refine (nameValid_is x hx6 true HV.out _).mono ?_
          rintro e w5 ⟨rfl, hb5⟩
          have HB5 := Lib.hid (HB4.out.trans (hb5.mono HB4.out.size))
          have H51 := Lib.hid (H41.out.below hb5)
          have h52 := H42.out.below hb5
          have H52 := Lib.hid h52
          have k0 := h52.c0
          have hl5 := h52.lt
          clear hb5 h52
          go_wp2_with fail
          refine (check_no _ _ _).mono ?_
          rintro e w6 ⟨rfl, rfl⟩
          go_wp2_with fail
          obtain ⟨bu, hbu⟩ : ∃ b, Np.underL x apex = b := ⟨_, rfl⟩
          have HBU := Lib.hid hbu
          clear hbu
          refine (under_is x apex HV.out HAV.out hx6 ha6 bu HBU.out _).mono ?_
          rintro e w6 ⟨rfl, hb6⟩
          have HB6 := Lib.hid (HB5.out.trans (hb6.mono HB5.out.size))
          have H61 := Lib.hid (H51.out.below hb6)
          have H62 := Lib.hid (H52.out.below hb6)
          clear hb6 k0 hl5
          cases bu with
          | false =>
            go_wp2_with fail
            refine (check_yes pb tv toks size i 20 _ (HP.out.keep HB6.out hpb)).mono ?_
            rintro e w7 ⟨rfl, hb7⟩
            have HB7 := Lib.hid (HB6.out.trans (hb7.mono HB6.out.size))
            clear hb7
            go_wp2_with fail
            exact ⟨rfl, entry_err (i := i) (by unfold Np.entryR Np.ownerR; rw [H64.out, HA.out, ← HXX.out, HV.out, HBU.out]; rfl) (HQ.out.keep (HB7.out.block sb HQ.out.lt)) HP.out.le (Mv.of_below HB7.out HP.out.c1)⟩
          | true =>
            go_wp2_with fail
            refine (check_no _ _ _).mono ?_
            rintro e w7 ⟨rfl, rfl⟩
            go_wp2_with fail
            go_meet
            case rel =>
              exact ⟨x, HV.out, hx6, by unfold Np.ownerR; rw [H64.out, HA.out, ← HXX.out, HV.out, HBU.out, if_neg (by simp), if_neg (by simp), if_neg (by simp), if_neg (by simp), List.tail_drop], hlt, HB6.out, H61.out, H62.out⟩
  case rest =>
    obtain ⟨nm, hnv, hn6, hown, hlt, hbx, hx1, hx2⟩ := hcut
    have HNV := Lib.hid hnv
    have HOW := Lib.hid hown
    have hp1 := HP.out.keep hbx hpb
    have c1 := hp1.c1
    have fz := hp1.fz
    have hpbc := hp1.lt
    have hfew := HP.out.few
    have hst : Stt w pb (i + 1) nm 0 300 (.slice none 0 0) (wc.setCell ⟨pb, 1, none⟩ (.int .i64 ((i : Int) + 1))) := Stt.next ⟨Mv.of_below hbx HP.out.c1, hx1, hx2⟩ hpb (i + 1) _ (by push_cast; rfl)
    clear hnv hown hbx hx1 hx2 hp1
    go_wp2_with fail
    generalize wc.setCell ⟨pb, 1, none⟩ (.int .i64 ((i : Int) + 1)) = w1 at hst ⊢
    clear c1 fz hpbc
    have HST := Lib.hid hst
    clear hst
    by_cases ha : Np.isAny (toks.drop (i + 1)) = true
    case neg =>
      have ha : Np.isAny (toks.drop (i + 1)) = false := by simpa using ha
      have HA := Lib.hid ha
      clear ha
      refine (anyWord_no pb tv toks size (i + 1) _ (HST.out.pin HP.out hlt) HA.out).mono ?_
      rintro e w3 ⟨rfl, hb3⟩
      have HST3 := Lib.hid (HST.out.grow hb3)
      clear hb3
      go_wp2_with fail
      exact ⟨rfl, HST3.out.err HQ.out hsb hlt (entryR_e1 HOW.out HA.out)⟩
    case pos =>
      have hlt2 : i + 2 ≤ toks.length := by have := Np.isAny_ne ha; simp at this; omega
      have HA := Lib.hid ha
      clear ha
      obtain ⟨t, ht⟩ : ∃ t, Np.typeR (Np.peekT (toks.drop (i + 1))).text = t := ⟨_, rfl⟩
      have hbd := Np.typeR_bd (Np.peekT (toks.drop (i + 1))).text
      rw [ht] at hbd
      obtain ⟨ht0, ht7⟩ := hbd
      have HT := Lib.hid ht
      clear ht
      refine (anyWord_yes pb tv toks size (i + 1) _ (HST.out.pin HP.out hlt) HA.out).mono ?_
      rintro e w3 ⟨rfl, hb3⟩
      have HST3 := Lib.hid (HST.out.grow hb3)
      clear hb3
      go_wp2_with fail
      refine (typeOf_is _ t HT.out _).mono ?_
      rintro e w4 ⟨rfl, hb4⟩
      have hst4 := HST3.out.grow hb4
      have hst5 := hst4.type t
      have k1 := hst4.2.2.c1
      have kf := hst4.2.2.fz 1
      clear hb4 hst4 HST3 HST
      by_cases h0 : t = 0
      · have h0b : (t == 0) = true := by simpa using h0
        have H0 := Lib.hid h0
        clear h0
        go_wp2_with fail
        generalize w4.setCell ⟨w.heap.size + 1, 1, none⟩ (.int .i64 t) = w5 at hst5 ⊢
        refine (check_yes pb tv toks size (i + 1) 10 _ (hst5.pin HP.out hlt)).mono ?_
        rintro e w6 ⟨rfl, hb6⟩
        have HST6 := Lib.hid (hst5.grow hb6)
        clear hb6 hst5
        go_wp2_with fail
        exact ⟨rfl, HST6.out.err HQ.out hsb hlt (entryR_e2 HOW.out HA.out HT.out H0.out)⟩
      · have h0b : (t == 0) = false := by simpa using h0
        have H0 := Lib.hid h0
        clear h0
        go_wp2_with fail
        generalize w4.setCell ⟨w.heap.size + 1, 1, none⟩ (.int .i64 t) = w5 at hst5 ⊢
        refine (check_no _ _ _).mono ?_
        rintro e w6 ⟨rfl, rfl⟩
        have HST5 := Lib.hid hst5
        clear hst5 k1 kf h0b
        go_upto_region 10 with fail
        go_cut [] (fun wx => (Np.isWild nm && (decide (t ≠ 1) && decide (t ≠ 5))) = false ∧ wx = w5)
        case first =>
          have k0 := HST5.out.2.2.c0
          have k1 := HST5.out.2.2.c1
          obtain ⟨bv, hbv⟩ : ∃ b, Np.isWild nm = b := ⟨_, rfl⟩
          have HBV := Lib.hid hbv
          clear hbv
          cases bv with
          | false =>
            go_wp2_with (go_at_call 89; refine (isWildcardP_is nm hn6 false HBV.out _).mono ?_; rintro e w6 ⟨rfl, rfl⟩)
            refine (check_no _ _ _).mono ?_
            rintro e w6 ⟨rfl, rfl⟩
            go_wp2_with fail
            go_meet
            case rel => exact ⟨by rw [HBV.out]; rfl, rfl⟩
          | true =>
            by_cases h1 : t = 1
            · have h1b : (t != 1) = false := by simpa using h1
              have H1 := Lib.hid h1
              clear h1
              go_wp2_with (go_at_call 89; refine (isWildcardP_is nm hn6 true HBV.out _).mono ?_; rintro e w6 ⟨rfl, rfl⟩)
              refine (check_no _ _ _).mono ?_
              rintro e w6 ⟨rfl, rfl⟩
              go_wp2_with fail
              go_meet
              case rel => exact ⟨by rw [HBV.out, H1.out]; rfl, rfl⟩
            · have h1b : (t != 1) = true := by simpa using h1
              have H1 := Lib.hid h1
              clear h1
              by_cases h5 : t = 5
              · have h5b : (t != 5) = false := by simpa using h5
                have H5 := Lib.hid h5
                clear h5
                go_wp2_with (go_at_call 89; refine (isWildcardP_is nm hn6 true HBV.out _).mono ?_; rintro e w6 ⟨rfl, rfl⟩)
                refine (check_no _ _ _).mono ?_
                rintro e w6 ⟨rfl, rfl⟩
                go_wp2_with fail
                go_meet
                case rel => exact ⟨by rw [HBV.out, H5.out]; rfl, rfl⟩
              · have h5b : (t != 5) = true := by simpa using h5
                have H5 := Lib.hid h5
                clear h5
                go_wp2_with (go_at_call 89; refine (isWildcardP_is nm hn6 true HBV.out _).mono ?_; rintro e w6 ⟨rfl, rfl⟩)
                refine (check_yes pb tv toks size (i + 1) 12 _ (HST5.out.pin HP.out hlt)).mono ?_
                rintro e w6 ⟨rfl, hb6⟩
                have HST6 := Lib.hid (HST5.out.grow hb6)
                clear hb6
                go_wp2_with fail
                exact ⟨rfl, HST6.out.err HQ.out hsb hlt (entryR_e3 HOW.out HA.out HT.out H0.out (by rw [HBV.out, decide_eq_true H1.out, decide_eq_true H5.out]; rfl))⟩
        case rest =>
          obtain ⟨hbw, rfl⟩ := hcut
          have HBW := Lib.hid hbw
          clear hbw
          have k0 := HST5.out.2.2.c0
          have k1 := HST5.out.2.2.c1
          have hal6 : Below wc.heap.size wc (wc.alloc (.cells #[.string (bytesOf nm), .int .i64 t] 180)) := (Below.refl _ _).alloc (Nat.le_refl _) _
          have hq6 := (HST5.out.mapq HQ.out hsb).keep (hal6.block sb (HST5.out.mapq HQ.out hsb).lt)
          have hst6 : Stq w pb (i + 1) nm t 300 (.slice none 0 0) wc.heap.size (wc.alloc (.cells #[.string (bytesOf nm), .int .i64 t] 180)) := ⟨HST5.out.grow hal6, heap_alloc_new _ _, HST5.out.2.2.lt⟩
          have HQ6 := Lib.hid hq6
          have HST6 := Lib.hid hst6
          have r0 := hst6.q0
          have r1 := hst6.q1
          clear hq6 hst6 hal6
          obtain ⟨bq, hbq⟩ : ∃ b, decide ((nm, t) ∈ sets) = b := ⟨_, rfl⟩
          have HBQ := Lib.hid hbq
          clear hbq
          go_wp2_with (with_reducible refine wpList_lookup_q (o := ⟨some 77, .lookup 157 (.tmp 75) (.tmp 76) false, _, _, _, _⟩) _ rfl (.tmp 75) (.tmp 76) rfl sb sets rfl HQ6.out (nm, t) rfl bq HBQ.out ?_)
          generalize wc.alloc (.cells #[.string (bytesOf nm), .int .i64 t] 180) = w6 at HQ6 HST6 r0 r1 ⊢
          clear r0 r1 k0 k1
          have hqb := HST6.out.2.2
          generalize wc.heap.size = qb at hqb HST6 ⊢
          clear HST5
          cases bq with
          | true =>
            refine (check_yes pb tv toks size (i + 1) 5 _ (HST6.out.1.pin HP.out hlt)).mono ?_
            rintro e w7 ⟨rfl, hb7⟩
            have HST7 := Lib.hid (HST6.out.grow hb7)
            clear hb7
            go_wp2_with fail
            exact ⟨rfl, HST7.out.1.err HQ.out hsb hlt (entryR_e4 HOW.out HA.out HT.out H0.out HBW.out (of_decide_eq_true HBQ.out))⟩
          | false =>
            have HNQ := Lib.hid (of_decide_eq_false HBQ.out)
            clear HBQ
            refine (check_no _ _ _).mono ?_
            rintro e w7 ⟨rfl, rfl⟩
            have hp6 := HST6.out.1.pin HP.out hlt
            have c1 : w6.cell? ⟨pb, 1, none⟩ = some (.int .i64 ((i : Int) + 1)) := by have := hp6.c1; simpa using this
            have fz := hp6.fz
            have hpbc := hp6.lt
            clear hp6
            have hst7 := HST6.out.next hpb (i + 2) ((i : Int) + 1 + 1) (by push_cast; omega)
            have k1 := HST6.out.1.2.2.c1
            have hp7 := hst7.1.pin HP.out hlt2
            have HP7 := Lib.hid hp7
            have HST7 := Lib.hid hst7
            obtain ⟨bl, hbl⟩ : ∃ b, lifeB t (toks.drop (i + 2)) = b := ⟨_, rfl⟩
            have HBL := Lib.hid hbl
            clear hst7 hp7 hbl
            go_upto_if 89 with (go_at_call 167; refine (isLife_is pb tv toks size (i + 2) t _ bl HP7.out HBL.out).mono ?_; rintro e w8 ⟨rfl, hb8⟩; have HST8 := Lib.hid (HST7.out.grow hb8); clear hb8)
            clear HP7 HST7 c1 fz hpbc k1 HST6 HQ6
            go_cut [] (fun wx => ∃ life j, Np.lifeR t (toks.drop (i + 2)) = .ok life (toks.drop j) ∧ j ≤ toks.length ∧ Stq w pb j nm t life (.slice none 0 0) qb wx)
            case first =>
              cases bl with
              | false =>
                go_wp2_with fail
                go_meet
                case rel => exact ⟨300, i + 2, lifeR_no HBL.out, hlt2, HST8.out⟩
              | true =>
                have hlt3 : i + 3 ≤ toks.length := by
                  have hb := HBL.out
                  unfold lifeB at hb
                  rw [Bool.and_eq_true] at hb
                  have := Np.isW_ne (s := Np.wLife) (r := toks.drop (i + 2)) hb.1
                  simp at this; omega
                have hp8 := HST8.out.1.pin HP.out hlt2
                have c1 : w8.cell? ⟨pb, 1, none⟩ = some (.int .i64 ((i : Int) + 2)) := by have := hp8.c1; simpa using this
                have fz := hp8.fz
                have hpbc := hp8.lt
                clear hp8
                have hst9 := HST8.out.next hpb (i + 3) ((i : Int) + 2 + 1) (by push_cast; omega)
                go_wp2_with fail
                generalize w8.setCell ⟨pb, 1, none⟩ (.int .i64 ((i : Int) + 2 + 1)) = w9 at hst9 ⊢
                have HST9 := Lib.hid hst9
                clear hst9 c1 fz hpbc
                have hd3 : (toks.drop (i + 2)).tail = toks.drop (i + 3) := by rw [List.tail_drop]
                have HD3 := Lib.hid hd3
                clear hd3
                obtain ⟨bn, hbn⟩ : ∃ b, Np.isNum (toks.drop (i + 3)) = b := ⟨_, rfl⟩
                have HBN := Lib.hid hbn
                clear hbn
                cases bn with
                | false =>
                  refine (number_no pb tv toks size (i + 3) _ (HST9.out.1.pin HP.out hlt3) HBN.out).mono ?_
                  rintro e w10 ⟨rfl, hb10⟩
                  have HST10 := Lib.hid (HST9.out.grow hb10)
                  clear hb10
                  go_wp2_with fail
                  exact ⟨rfl, HST10.out.1.err HQ.out hsb hlt3 (entryR_e5 HOW.out HA.out HT.out H0.out HBW.out HNQ.out (by rw [List.tail_drop, lifeR_e1 HBL.out (by rw [HD3.out]; exact HBN.out), HD3.out]))⟩
                | true =>
                  have hlt4 : i + 4 ≤ toks.length := by have := Np.isNum_ne HBN.out; simp at this; omega
                  refine (number_yes pb tv toks size (i + 3) _ (HST9.out.1.pin HP.out hlt3) HBN.out).mono ?_
                  rintro e w10 ⟨rfl, hb10⟩
                  have hst10 := HST9.out.grow hb10
                  obtain ⟨n, hn⟩ : ∃ n, n = (Np.peekT (toks.drop (i + 3))).n := ⟨_, rfl⟩
                  rw [← hn]
                  have HN := Lib.hid hn
                  have hst11 := hst10.lif n
                  have k2 := hst10.1.2.2.c2
                  have kf := hst10.1.2.2.fz 2
                  have k0' := hst10.1.2.2.lt
                  have hp10 := hst10.1.pin HP.out hlt3
                  have c1 : w10.cell? ⟨pb, 1, none⟩ = some (.int .i64 ((i : Int) + 3)) := by have := hp10.c1; simpa using this
                  have fz := hp10.fz
                  have hpbc := hp10.lt
                  clear hb10 hst10 hn hp10
                  by_cases h3 : 100000 < n
                  · go_wp2_with fail
                    generalize w10.setCell ⟨w.heap.size + 1, 2, none⟩ (.int .i64 n) = w11 at hst11 ⊢
                    refine (check_yes pb tv toks size (i + 3) 3 _ (hst11.1.pin HP.out hlt3)).mono ?_
                    rintro e w12 ⟨rfl, hb12⟩
                    have HST12 := Lib.hid (hst11.grow hb12)
                    have H3 := Lib.hid h3
                    clear hb12 hst11 h3
                    go_wp2_with fail
                    exact ⟨rfl, HST12.out.1.err HQ.out hsb hlt3 (entryR_e5 HOW.out HA.out HT.out H0.out HBW.out HNQ.out (by rw [List.tail_drop, lifeR_e2 HBL.out (by rw [HD3.out]; exact HBN.out) (by rw [HD3.out, ← HN.out]; exact H3.out), HD3.out]))⟩
                  · have hst12 := hst11.next hpb (i + 4) ((i : Int) + 3 + 1) (by push_cast; omega)
                    have HST12 := Lib.hid hst12
                    clear hst12 hst11
                    go_wp2_with fail
                    rw [show decide (100000 < n) = false by simp; omega]
                    refine (check_no _ _ _).mono ?_
                    rintro e w12 ⟨rfl, rfl⟩
                    go_wp2_with fail
                    go_meet
                    case rel => exact ⟨n, i + 4, by rw [lifeR_ok HBL.out (by rw [HD3.out]; exact HBN.out) (by rw [HD3.out, ← HN.out]; omega), HD3.out, ← HN.out, List.tail_drop], hlt4, HST12.out⟩
            case rest =>
              obtain ⟨life, j, hlife, hj, hst⟩ := hcut
              have HLI := Lib.hid hlife
              have HST := Lib.hid hst
              clear hlife hst
              have HDA : Hid (∀ {er : Int} {r' : List Np.Tok}, Np.dataR t 9 [] (toks.drop j) = .err er r' → Np.entryR apex sets (toks.drop i) = .err er r') := Lib.hid (fun hd => entryR_e6 HOW.out HA.out HT.out H0.out HBW.out HNQ.out (by rw [List.tail_drop]; exact HLI.out) hd)
              have HDB : Hid (∀ {l : List Np.Datum} {r3 : List Np.Tok}, Np.dataR t 9 [] (toks.drop j) = .ok l r3 → Np.entryR apex sets (toks.drop i) = .ok ⟨nm, t, life, Np.sortD l⟩ r3) := Lib.hid (fun hd => entryR_e7 HOW.out HA.out HT.out H0.out HBW.out HNQ.out (by rw [List.tail_drop]; exact HLI.out) hd)
              have ht1 : 1 ≤ t := by have := H0.out; omega
              obtain ⟨i0, hi0, hz0, hz1, hz2⟩ := info_parts Tryz.infoDatP
              clear HOW HA HT H0 HBW HLI hlt hlt2 ht0
              go_wp2_with fail
              go_loopg [11, 12] 9 (fun g _ _ wx => ∃ (acc : List Np.Datum) (k : Nat) (A : Option Addr) (c g' : Nat), g = g' + 1 ∧ g' + acc.length = 8 ∧ acc.length ≤ 8 ∧ k ≤ toks.length ∧ Hid (Np.dataR t 9 [] (toks.drop j) = Np.dataR t (g' + 1) acc (toks.drop k)) ∧ Hid (Stq w pb k nm t life (.slice A acc.length c) qb wx) ∧ Hid (Acc qb acc A c wx))
              case atStart => exact ⟨[], j, none, 0, 8, rfl, rfl, by simp, hj, Lib.hid rfl, HST, Lib.hid ⟨⟨by simp, .inl ⟨rfl, rfl⟩⟩, fun x hx => by simp at hx⟩⟩
              case round =>
                obtain ⟨acc, k, A, c, g', rfl, hg, h8, hk, HX, HS, HO⟩ := hrel
                clear HST
                have k0 := HS.out.1.2.2.c0
                have k1 := HS.out.1.2.2.c1
                have k2 := HS.out.1.2.2.c2
                have k3 := HS.out.1.2.2.c3
                obtain ⟨x, hx⟩ : ∃ x, Np.datumR t acc.length (toks.drop k) = x := ⟨_, rfl⟩
                have hro := datum_is t ht1 ht7 pb dm bx b4 b6 b7 tv toks size k (bytesOf nm) life A acc.length c h8 wr (HS.out.1.pin HP.out hk) (HS.out.1.c3 hpb c3) (HS.out.1.dat HD.out) x hx
                have HRO := Lib.hid hro
                have HXX := Lib.hid hx
                clear hro hx
                go_wp2_with fail
                clear k0 k1 k2 k3
                cases x with
                | err er r' =>
                  refine HRO.out.mono ?_
                  rintro e w3 ⟨rfl, k', hk', hr, hm⟩
                  have HS3 := Lib.hid (HS.out.mv hpb hm)
                  have HR := Lib.hid hr
                  clear hm hr
                  go_wp2_with fail
                  refine ⟨rfl, ?_⟩
                  rw [← HR.out]
                  exact HS3.out.1.err HQ.out hsb hk' (HDA.out (by rw [HX.out]; exact dataR_err (by rw [HR.out]; exact HXX.out)))
                | ok d r' =>
                  refine HRO.out.mono ?_
                  rintro e w3 ⟨rfl, k', hk', hr, hm⟩
                  have HS3 := Lib.hid (HS.out.mv hpb hm)
                  have hpq : pb ≤ qb := by omega
                  have HO3 := Lib.hid (HO.out.mv hpq hm)
                  subst hr
                  have HDL := Lib.hid (datumR_text HXX.out ((HP.out.tok k).2.1))
                  have HD8 := Lib.hid (datumR_lt HXX.out)
                  have hsz3 : qb < w3.heap.size := HS3.out.lt
                  clear hm HRO HS HO
                  simp only [datV]
                  have hal4 : Below w3.heap.size w3 (w3.alloc (.cells #[.string (bytesOf d.text), .int .i64 d.n, .int .i64 d.m] 43)) := (Below.refl _ _).alloc (Nat.le_refl _) _
                  have hs4 := HS3.out.grow hal4
                  have ho4 := HO3.out.below hal4
                  have q0 : (w3.alloc (.cells #[.string (bytesOf d.text), .int .i64 d.n, .int .i64 d.m] 43)).heap[w3.heap.size]? = some (.cells #[.string (bytesOf d.text), .int .i64 d.n, .int .i64 d.m] 43 (0, 0)) := heap_alloc_new _ _
                  have HS4 := Lib.hid hs4
                  have HO4 := Lib.hid ho4
                  have HQ4 := Lib.hid q0
                  have hz4 : w3.heap.size < (w3.alloc (.cells #[.string (bytesOf d.text), .int .i64 d.n, .int .i64 d.m] 43)).heap.size := by simp
                  have HZ4 := Lib.hid hz4
                  clear hal4 hs4 ho4 q0 hz4 HS3 HO3
                  obtain ⟨b44, hb44⟩ : ∃ b, Np.isS [44] (toks.drop k') = b := ⟨_, rfl⟩
                  have H44 := Lib.hid hb44
                  clear hb44
                  go_wp2_with fail
                  generalize w3.alloc (.cells #[.string (bytesOf d.text), .int .i64 d.n, .int .i64 d.m] 43) = w4 at HS4 HO4 HQ4 HZ4 ⊢
                  generalize w3.heap.size = bd at hsz3 HQ4 HZ4 ⊢
                  refine (isSign_is pb tv toks size k' ⟨#[44]⟩ _ b44 (HS4.out.1.pin HP.out hk') H44.out).mono ?_
                  rintro e w5 ⟨rfl, hb5⟩
                  have HS5 := Lib.hid (HS4.out.grow hb5)
                  have HO5 := Lib.hid (HO4.out.below hb5)
                  have HQ5 := Lib.hid ((hb5.block bd HZ4.out).trans HQ4.out)
                  have HZ5 := Lib.hid (Nat.lt_of_lt_of_le HZ4.out hb5.size)
                  clear hb5 HS4 HO4 HQ4 HZ4
                  go_upto_region 21 with fail
                  go_cut [] (fun wx => (Np.isS [44] (toks.drop k') || Np.isS [59] (toks.drop k')) = true ∧ Below w5.heap.size w5 wx)
                  case first =>
                    cases b44 with
                    | true =>
                      go_wp2_with fail
                      refine (check_no _ _ _).mono ?_
                      rintro e w6 ⟨rfl, rfl⟩
                      go_wp2_with fail
                      go_meet
                      case rel => exact ⟨by rw [H44.out]; rfl, Below.refl _ _⟩
                    | false =>
                      obtain ⟨b59, hb59⟩ : ∃ b, Np.isS [59] (toks.drop k') = b := ⟨_, rfl⟩
                      have H59 := Lib.hid hb59
                      clear hb59
                      go_wp2_with (go_at_call 138; refine (isSign_is pb tv toks size k' ⟨#[59]⟩ _ b59 (HS5.out.1.pin HP.out hk') H59.out).mono ?_; rintro e w6 ⟨rfl, hb6⟩; have HB6 := Lib.hid hb6; clear hb6)
                      cases b59 with
                      | true =>
                        refine (check_no _ _ _).mono ?_
                        rintro e w7 ⟨rfl, rfl⟩
                        go_wp2_with fail
                        go_meet
                        case rel => exact ⟨by rw [H44.out, H59.out]; rfl, HB6.out⟩
                      | false =>
                        have HS6 := Lib.hid (HS5.out.grow HB6.out)
                        refine (check_yes pb tv toks size k' 10 _ (HS6.out.1.pin HP.out hk')).mono ?_
                        rintro e w7 ⟨rfl, hb7⟩
                        have HS7 := Lib.hid (HS6.out.grow hb7)
                        clear hb7
                        go_wp2_with fail
                        exact ⟨rfl, HS7.out.1.err HQ.out hsb hk' (HDA.out (by rw [HX.out]; exact dataR_e2 HXX.out (by rw [H44.out, H59.out]; rfl)))⟩
                  case rest =>
                    obtain ⟨hs, hb6⟩ := hcut
                    have HSS := Lib.hid hs
                    have HS6 := Lib.hid (HS5.out.grow hb6)
                    have HO6 := Lib.hid (HO5.out.below hb6)
                    have HQ6 := Lib.hid ((hb6.block bd HZ5.out).trans HQ5.out)
                    have HZ6 := Lib.hid (Nat.lt_of_lt_of_le HZ5.out hb6.size)
                    clear hs hb6 HS5 HO5 HQ5 HZ5
                    have k3 := HS6.out.1.2.2.c3
                    have q0 : wc.cell? ⟨bd, 0, none⟩ = some (.string (bytesOf d.text)) := by simp [World.cell?, HQ6.out]
                    have q1 : wc.cell? ⟨bd, 1, none⟩ = some (.int .i64 d.n) := by simp [World.cell?, HQ6.out]
                    have q2 : wc.cell? ⟨bd, 2, none⟩ = some (.int .i64 d.m) := by simp [World.cell?, HQ6.out]
                    obtain ⟨bm, hbm⟩ : ∃ b, decide (d ∈ acc) = b := ⟨_, rfl⟩
                    have HBM := Lib.hid hbm
                    clear hbm
                    go_wp2_with (go_at_call 169; refine (contains_any (bytesOf d.text) d (by simp [bytesOf]) _ acc wc (HO6.out.read h8) bm HBM.out).mono ?_; rintro e w7 ⟨rfl, hb7⟩; have HS7 := Lib.hid (HS6.out.grow hb7); have HO7 := Lib.hid (HO6.out.below hb7); have HQ7 := Lib.hid ((hb7.block bd HZ6.out).trans HQ6.out); have HZ7 := Lib.hid (Nat.lt_of_lt_of_le HZ6.out hb7.size); clear hb7)
                    clear k3 q0 q1 q2 HS6 HO6 HQ6 HZ6
                    cases bm with
                    | true =>
                      refine (check_yes pb tv toks size k' 5 _ (HS7.out.1.pin HP.out hk')).mono ?_
                      rintro e w8 ⟨rfl, hb8⟩
                      have HS8 := Lib.hid (HS7.out.grow hb8)
                      clear hb8
                      go_wp2_with fail
                      exact ⟨rfl, HS8.out.1.err HQ.out hsb hk' (HDA.out (by rw [HX.out]; exact dataR_e3 HXX.out HSS.out (of_decide_eq_true HBM.out)))⟩
                    | false =>
                      have HNM := Lib.hid (of_decide_eq_false HBM.out)
                      clear HBM
                      refine (check_no _ _ _).mono ?_
                      rintro e w8 ⟨rfl, rfl⟩
                      have hlt' : k' + 1 ≤ toks.length := by
                        have hss := HSS.out
                        rw [Bool.or_eq_true] at hss
                        have : (toks.drop k').tail.length + 1 = (toks.drop k').length := by rcases hss with h | h <;> exact Np.isS_ne h
                        simp at this; omega
                      go_upto_region 23 with fail
                      go_cut [] (fun wx => ∃ A8 c8, Hid (Acc qb (acc ++ [d]) A8 c8 wx) ∧ Hid (Stq w pb k' nm t life (.slice A8 (acc ++ [d]).length c8) qb wx))
                      case first =>
                        have k3 := HS7.out.1.2.2.c3
                        have q0 : w7.cell? ⟨bd, 0, none⟩ = some (.string (bytesOf d.text)) := by simp [World.cell?, HQ7.out]
                        have q1 : w7.cell? ⟨bd, 1, none⟩ = some (.int .i64 d.n) := by simp [World.cell?, HQ7.out]
                        have q2 : w7.cell? ⟨bd, 2, none⟩ = some (.int .i64 d.m) := by simp [World.cell?, HQ7.out]
                        have hal7 : Below w7.heap.size w7 (w7.alloc (.cells #[.string (bytesOf d.text), .int .i64 d.n, .int .i64 d.m] 43)) := (Below.refl _ _).alloc (Nat.le_refl _) _
                        have HS7a := Lib.hid (HS7.out.grow hal7)
                        have HO7a := Lib.hid (HO7.out.below hal7)
                        have HBA := Lib.hid (show qb + 1 ≤ (w7.alloc (.cells #[.string (bytesOf d.text), .int .i64 d.n, .int .i64 d.m] 43)).heap.size from HS7a.out.lt)
                        clear hal7
                        go_wp2_with (at_builtin; go_must (refine wpList_append_own_at _ rfl _ _ 37 rfl (qb + 1) 43 i0 (.agg #[.string ⟨#[]⟩, .int .i64 0, .int .i64 0]) 3 32 Tryz.underlying37 hi0 hz0 hz1 hz2 rfl (by decide) _ _ _ rfl HO7a.out.1 ⟨w7.heap.size, 0, none⟩ 1 1 [.string (bytesOf d.text), .int .i64 d.n, .int .i64 d.m] rfl rfl (World.news_of_block (cs := #[.string (bytesOf d.text), .int .i64 d.n, .int .i64 d.m]) (t := 43) (fr := (0, 0)) (heap_alloc_new w7 _)) (by simp [Value.oneCell']) (by unfold maxLen; omega) (by omega) HBA.out ?_); intro v8 w8 hown8 hg8 hiff8 hat8; clear hiff8 hat8; obtain ⟨A8, c8, rfl⟩ := ownsRow_form hown8; have HOW8 := Lib.hid hown8; have HS8 := Lib.hid (HS7a.out.grown (fun g hg => (ownsRow_base HO7a.out.1 g hg).1) hg8); have k3' := HS8.out.1.2.2.c3; have kf3 := HS8.out.1.2.2.fz 3; have hl8 := HS8.out.1.2.2.lt; clear hown8 hg8)
                        all_goals (go_wp2_with fail)
                        all_goals go_meet
                        case rel =>
                          have hacc : Acc qb (acc ++ [d]) A8 c8 w8 := ⟨by have := HOW8.out; simpa [List.map_append, encD] using this, fun x hx => by
                            rw [List.mem_append] at hx
                            rcases hx with hx | hx
                            · exact HO7.out.2 x hx
                            · simp at hx; subst hx; exact HDL.out⟩
                          refine ⟨A8, c8, Lib.hid (hacc.set (by dsimp only; omega) _), Lib.hid ?_⟩
                          rw [List.length_append, List.length_singleton]
                          exact HS8.out.data _
                      case rest =>
                        obtain ⟨A8, c8, HO8, HS8⟩ := hcut
                        have HT60 := Lib.hid HO7.out.2
                        clear HS7 HO7 HQ7 HZ7
                        obtain ⟨l, hl⟩ : ∃ l, l = acc ++ [d] := ⟨_, rfl⟩
                        have hll : l.length = acc.length + 1 := by rw [hl]; simp
                        have HLL := Lib.hid hll
                        have HLE := Lib.hid hl
                        rw [← hl] at HO8 HS8
                        have hp8 := HS8.out.1.pin HP.out hk'
                        have c1 := hp8.c1
                        have fz := hp8.fz
                        have hpbc := hp8.lt
                        have hfew := HP.out.few
                        have hs9 := HS8.out.next hpb (k' + 1) ((k' : Int) + 1) (by push_cast; rfl)
                        have ho9 := HO8.out.set (p := ⟨pb, 1, none⟩) hpq (.int .i64 ((k' : Int) + 1))
                        have HS9 := Lib.hid hs9
                        have HO9 := Lib.hid ho9
                        clear hs9 ho9 hp8 hl hll HO8
                        cases b44 with
                        | true =>
                          go_wp2_with fail
                          obtain ⟨g'', rfl⟩ : ∃ g'', g' = g'' + 1 := ⟨g' - 1, by have := HD8.out; omega⟩
                          go_roundg (g'' + 1)
                          case rel =>
                            refine ⟨l, k' + 1, A8, c8, g'', rfl, by rw [HLL.out]; omega, by rw [HLL.out]; have := HD8.out; omega, hlt', Lib.hid ?_, HS9, HO9⟩
                            rw [HX.out, dataR_more HXX.out H44.out HNM.out, List.tail_drop, HLE.out]
                          case measure => omega
                        | false =>
                          have HDD := Lib.hid (HDB.out (by rw [HX.out]; exact dataR_end HXX.out HSS.out H44.out HNM.out))
                          rw [List.tail_drop, ← HLE.out] at HDD
                          have HL9 := Lib.hid (show l.length ≤ 9 by rw [HLL.out]; omega)
                          have HLN := Lib.hid (show l ≠ [] by rw [HLE.out]; simp)
                          have k3 := HS8.out.1.2.2.c3
                          go_wp2_with fail
                          refine (sortDat_any (qb + 1) _ l _ HO9.out.1 HLN.out (by have := HL9.out; omega)).mono ?_
                          rintro e w10 ⟨rfl, hown10, hg10⟩
                          have hs10 := HS9.out.grown (fun g hg => (ownsRow_base HO9.out.1 g hg).1) hg10
                          have HOW := Lib.hid hown10
                          have HS10 := Lib.hid hs10
                          have q0 := hs10.q0
                          have q1 := hs10.q1
                          have hl10 := hs10.1.2.2.lt
                          have hk10 : ∀ o, w10.cell? ⟨w.heap.size + 1, o, none⟩ = w10.cell? ⟨w.heap.size + 1, o, none⟩ := fun _ => rfl
                          have HMQ := Lib.hid (hs10.1.mapq HQ.out hsb)
                          clear hown10 hg10 hs10 hk10 HS9 HO9 HS8 k3
                          have hsbw : sb < w.heap.size := HQ.out.lt
                          go_upto_region 27 with fail
                          go_cut [] (fun wx => MapQ sb ((nm, t) :: sets) wx ∧ Turned sb w10 wx)
                          case first =>
                            go_wp2_with (with_reducible refine wpList_update_q (o := ⟨none, .mapUpdate 157 (.tmp 150) (.tmp 151) (.const (.bool true)), _, _, _, _⟩) _ rfl (.tmp 150) (.tmp 151) (.const (.bool true)) rfl sb sets rfl HMQ.out (nm, t) rfl rfl HNQ.out ?_; intro w11 hq11 hT11)
                            all_goals go_meet
                            case rel => exact ⟨hq11, hT11⟩
                          case rest =>
                            obtain ⟨hq11, hT11⟩ := hcut
                            have HQ11 := Lib.hid hq11
                            have HT11 := Lib.hid hT11
                            clear q0 q1
                            have hb1 : SetB wc (w.heap.size + 1) nm t life (.slice A8 l.length c8) := HS10.out.1.2.2.keep (hT11.block _ (by omega))
                            have hb0 : SetB wc w.heap.size [] 0 0 (.slice none 0 0) := HS10.out.1.2.1.keep (hT11.block _ (by omega))
                            have hmv : Mv (fun k => k = sb) pb (k' + 1) w wc := HS10.out.1.1.wider (fun _ h => h.elim) |>.turned hT11 rfl
                            have hown : wc.ownsRow (qb + 1) 43 3 (.slice A8 l.length c8) l.length (((Np.sortD l).map encD).flatten) := ownsRow_keep HOW.out (fun g hg => hT11.block g (by have := (ownsRow_base HOW.out g hg).1; omega))
                            have HMV := Lib.hid hmv
                            have HOWN := Lib.hid hown
                            have e0 := hb1.c0
                            have e1 := hb1.c1
                            have e2 := hb1.c2
                            have e3 := hb1.c3
                            have f0 := hb0.c0
                            have f1 := hb0.c1
                            have f2 := hb0.c2
                            have f3 := hb0.c3
                            have g0 := hb0.fz 0
                            have g1 := hb0.fz 1
                            have g2 := hb0.fz 2
                            have g3 := hb0.fz 3
                            have hl0 := hb0.lt
                            have hl1 := hb1.lt
                            clear hq11 hT11 hb1 hb0 hmv hown hl10 HMQ HOW
                            go_wp2_with fail
                            refine bodyPost_ret (v := .agg #[.string (bytesOf nm), .int .i64 t, .int .i64 life, .slice A8 l.length c8]) ?_ rfl ?_
                            · simp [results, Tryz.results140, go_sem, f0, f1, f2, f3]
                            · rw [HDD.out]
                              have hfar : ∀ k, k ≠ w.heap.size → ((((wc.setCell ⟨w.heap.size, 0, none⟩ (.string (bytesOf nm))).setCell ⟨w.heap.size, 1, none⟩ (.int .i64 t)).setCell ⟨w.heap.size, 2, none⟩ (.int .i64 life)).setCell ⟨w.heap.size, 3, none⟩ (.slice A8 l.length c8)).heap[k]? = wc.heap[k]? := fun k hk => by
                                rw [Below.heap_setCell _ _ _ _ hk, Below.heap_setCell _ _ _ _ hk, Below.heap_setCell _ _ _ _ hk, Below.heap_setCell _ _ _ _ hk]
                              have hmv4 := (((HMV.out.setNew (p := ⟨w.heap.size, 0, none⟩) (Nat.le_refl _) (.string (bytesOf nm))).setNew (p := ⟨w.heap.size, 1, none⟩) (Nat.le_refl _) (.int .i64 t)).setNew (p := ⟨w.heap.size, 2, none⟩) (Nat.le_refl _) (.int .i64 life)).setNew (p := ⟨w.heap.size, 3, none⟩) (Nat.le_refl _) (.slice A8 l.length c8)
                              generalize (((wc.setCell ⟨w.heap.size, 0, none⟩ (.string (bytesOf nm))).setCell ⟨w.heap.size, 1, none⟩ (.int .i64 t)).setCell ⟨w.heap.size, 2, none⟩ (.int .i64 life)).setCell ⟨w.heap.size, 3, none⟩ (.slice A8 l.length c8) = wF at hfar hmv4 ⊢
                              refine ⟨HQ11.out.keep (hfar sb (by omega)), ⟨_, rfl, ?_⟩, k' + 1, hlt', rfl, hmv4⟩
                              have hln : (Np.sortD l).length = l.length := (Np.sortD_perm l).length_eq
                              have hF : (sansP wF (fun k => k < w.heap.size)).ownsRow (qb + 1) 43 3 (.slice A8 l.length c8) (Np.sortD l).length ((Np.sortD l).flatMap encD) := by
                                rw [hln, List.flatMap_def]
                                refine ownsRow_keep HOWN.out (fun g hg => ?_)
                                have := (ownsRow_base HOWN.out g hg).1
                                rw [sansP_out (by omega)]
                                exact hfar g (by omega)
                              have := slr_of_own (R := RDatum) encD (fun _ _ => rfl) hF (by rw [hln]; have := HL9.out; omega) (fun x hx => ⟨bytesOf x.text, by simp [bytesOf], by
                                rw [← size_list]
                                have hx' := (Np.sortD_perm l).mem_iff.1 hx
                                have : x.text.length ≤ 60 := by
                                  rw [HLE.out, List.mem_append] at hx'
                                  rcases hx' with hx' | hx'
                                  · exact HT60.out x hx'
                                  · simp at hx'; subst hx'; exact HDL.out
                                simp [bytesOf]; omega, rfl⟩)
                              rw [sansP_size] at this
                              exact this
end Go.Proofs.YtnbolgdccdnjeaaGreatDoor
