/- The text of a strings.Builder; a line of words. -/
import Derived.Test.YtnbolgdccdnjeaaGreatDoorBld
import Derived.Test.YtnbolgdccdnjeaaGreatDoorPrintSpec
namespace Go.Proofs.YtnbolgdccdnjeaaGreatDoor
open Go.RowKit
/-- A builder whose bytes can be read, written or not since they were read. -/
def BldR (T : TypeId) (B b : Nat) (l : List UInt8) (w : World) : Prop :=
  ∃ p v, B ≤ b ∧ w.heap[b]? = some (.cells #[p, v] T (0, 0)) ∧ ((v = .slice none 0 0 ∧ l = []) ∨ ∃ g cap cur fr, v = .slice (some ⟨g, 0, none⟩) l.length cap ∧ l ≠ [] ∧ B ≤ g ∧ g ≠ b ∧ w.heap[g]? = some (.cells cur 5 fr) ∧ l.length ≤ cur.size ∧ l.length ≤ cap ∧ l.length ≤ 9223372036854775807 ∧ cur.toList.take l.length = Lib.byteCells l)
theorem Bld.read {T : TypeId} {B b : Nat} {r : Option Nat} {l : List UInt8} {w : World} (h : Bld T B b r l w) : BldR T B b l w := by
  obtain ⟨p, v, _, hB, hb, ho, hr, hne, hn⟩ := h
  refine ⟨p, v, hB, hb, ?_⟩
  by_cases h0 : l = []
  · exact .inl ⟨hn h0, h0⟩
  · right
    rcases ho.2 with ⟨_, h1⟩ | ⟨g, cap, cur, rfl, hbg, hg, hnc, hcm, hcs, ht⟩
    · exact absurd (List.eq_nil_of_length_eq_zero h1) h0
    · refine ⟨g, cap, cur, _, rfl, h0, hbg, fun e => hne ?_, hg, by omega, hnc, by unfold maxLen at hcm; omega, by simpa using ht⟩
      rw [← hr, e]; rfl
theorem BldR.keep {T : TypeId} {B b : Nat} {l : List UInt8} {w w' : World} (h : BldR T B b l w) (hb : Below w.heap.size w w') : BldR T B b l w' := by
  obtain ⟨p, v, hB, hh, hv⟩ := h
  refine ⟨p, v, hB, (hb.block b (Array.getElem?_eq_some_iff.1 hh).1).trans hh, ?_⟩
  rcases hv with hv | ⟨g, cap, cur, fr, h1, h2, h3, h4, h5, h6⟩
  · exact .inl hv
  · exact .inr ⟨g, cap, cur, fr, h1, h2, h3, h4, (hb.block g (Array.getElem?_eq_some_iff.1 h5).1).trans h5, h6⟩
theorem freeze_heap_ne {w : World} {g n k : Nat} (h : k ≠ g) : (w.freeze ⟨g, 0, none⟩ n).heap[k]? = w.heap[k]? := by
  unfold World.freeze
  split
  · rfl
  · simp only [Array.getElem?_modify]
    rw [if_neg (Ne.symm h)]
theorem freeze_heap_eq {w : World} {g n : Nat} {cur : Array Value} {t : TypeId} {fr : Nat × Nat} (h : w.heap[g]? = some (.cells cur t fr)) : ∃ fr', (w.freeze ⟨g, 0, none⟩ n).heap[g]? = some (.cells cur t fr') := by
  unfold World.freeze
  split
  · exact ⟨fr, h⟩
  · simp only [Array.getElem?_modify, if_true, h]
    obtain ⟨lo, hi⟩ := fr
    exact ⟨_, rfl⟩
set_option maxRecDepth 100000 in
set_option maxHeartbeats 2000000 in
theorem string_any {T : TypeId} (B b : Nat) (l : List UInt8) (w : World) (h : BldR T B b l w) :
    Calls Tryz.prog 40 #[.pointer (some ⟨b, 0, none⟩)] w fun e w' => e = .returned (strs l) ∧ BldR T B b l w' ∧ Below B w w' := by
  obtain ⟨p, v, hB, hb, hv⟩ := h
  rcases hv with ⟨rfl, rfl⟩ | ⟨g, cap, cur, fr, rfl, h0, hBg, hgb, hg, hlc, hcap, h63, ht⟩
  · have c1 : w.drew.cell? ⟨b, 1, none⟩ = some (.slice none 0 0) := by
      have : w.drew.heap[b]? = some (.cells #[p, .slice none 0 0] T (0, 0)) := hb
      rw [Lib.cell_of_heap this]; rfl
    have hUS : ∀ W q, (Builtin.unsafeString_ #[123, 3] 9 #[.pointer q, .int .i64 0]).run Tryz.prog W = .ok (.string .empty) W := fun W q => Lib.run_unsafeString_none W _ _ _ q
    have hSD : (Builtin.unsafeSliceData_ #[81] 123 #[.slice none 0 0]).run Tryz.prog w.drew = .ok (.pointer none) w.drew := rfl
    have HB := Lib.hid hb
    clear hb
    go_enter Tryz.func40, Tryz.ntmps40
    go_wp2
    go_region
    all_goals (go_wp2; go_ret; exact ⟨rfl, ⟨p, _, hB, HB.out, .inl ⟨rfl, rfl⟩⟩, (Below.refl _ _).drew⟩)
  · have c1 : w.drew.cell? ⟨b, 1, none⟩ = some (.slice (some ⟨g, 0, none⟩) l.length cap) := by
      have : w.drew.heap[b]? = some (.cells #[p, .slice (some ⟨g, 0, none⟩) l.length cap] T (0, 0)) := hb
      rw [Lib.cell_of_heap this]; rfl
    have hl0 : l.length ≠ 0 := by simpa using h0
    have hSD : (Builtin.unsafeSliceData_ #[81] 123 #[.slice (some ⟨g, 0, none⟩) l.length cap]).run Tryz.prog w.drew = .ok (.pointer (some ⟨g, 0, none⟩)) w.drew :=
      Lib.run_unsafeSliceData_row _ _ _ _ _ _ (by omega)
    have hg' : w.drew.heap[g]? = some (.cells cur 5 fr) := hg
    have hUS : (Builtin.unsafeString_ #[123, 3] 9 #[.pointer (some ⟨g, 0, none⟩), .int .i64 l.length]).run Tryz.prog w.drew = .ok (.string ⟨l.toArray⟩) (w.drew.freeze ⟨g, 0, none⟩ l.length) := by
      refine Lib.run_unsafeString_row w.drew 123 3 9 5 Tryz.underlying123 cellsByteB g cur.size (by simp [World.shape?, hg']) l h0 hlc h63 ?_
      intro j x hx
      have hadd : (⟨g, 0, none⟩ : Addr).add j = ⟨g, j, none⟩ := by unfold Addr.add; split <;> simp_all
      rw [hadd, Lib.cell_of_heap hg']
      have h1 : (Lib.byteCells l)[j]? = some (.int .u8 x.toNat) := by simp [Lib.byteCells, hx]
      rw [← ht, List.getElem?_take] at h1
      split at h1
      · simpa using h1
      · cases h1
    have HF : Hid (BldR T B b l (w.drew.freeze ⟨g, 0, none⟩ l.length) ∧ Below B w (w.drew.freeze ⟨g, 0, none⟩ l.length)) := by
      obtain ⟨fr', hfr⟩ := freeze_heap_eq (n := l.length) hg'
      exact Lib.hid ⟨⟨p, _, hB, (freeze_heap_ne (Ne.symm hgb)).trans hb, .inr ⟨g, cap, cur, fr', rfl, h0, hBg, hgb, hfr, hlc, hcap, h63, ht⟩⟩, Lib.below_freeze (Below.drew (Below.refl B w)) (p := ⟨g, 0, none⟩) hBg _⟩
    clear hb hg hg' ht
    go_enter Tryz.func40, Tryz.ntmps40
    go_wp2
    go_region
    all_goals (go_wp2; go_ret; exact ⟨rfl, HF.out⟩)
/-- A slice of texts that lies apart from a builder. -/
def StrsX (b : Nat) (r : Option Nat) (w : World) (v : Value) (ws : List (List UInt8)) : Prop :=
  ∃ A c, v = .slice A ws.length c ∧ ws.length ≤ c ∧ ws.length ≤ 1000000 ∧ ∀ i x, ws[i]? = some x → ∃ g o, A = some ⟨g, o, none⟩ ∧ g < w.heap.size ∧ g ≠ b ∧ r ≠ some g ∧ w.cell? ⟨g, o + i, none⟩ = some (strs x)
theorem StrsX.step {b : Nat} {r r' : Option Nat} {w w' : World} {v : Value} {ws : List (List UInt8)} (h : StrsX b r w v ws) (hs : BS b r w r' w') : StrsX b r' w' v ws := by
  obtain ⟨A, c, h1, h2, h3, h4⟩ := h
  refine ⟨A, c, h1, h2, h3, fun i x hx => ?_⟩
  obtain ⟨g, o, h5, h6, h7, h8, h9⟩ := h4 i x hx
  exact ⟨g, o, h5, Nat.lt_of_lt_of_le h6 hs.size, h7, hs.free h6 h8, (hs.cell h6 h7 h8 _).trans h9⟩
theorem joinB_take : ∀ (ws : List (List UInt8)) (k : Nat) (x : List UInt8), ws[k]? = some x → Np.joinB (ws.take (k + 1)) = if k = 0 then x else Np.joinB (ws.take k) ++ 32 :: x := by
  intro ws
  induction ws with
  | nil => intro k x h; simp at h
  | cons a ws ih =>
    intro k x h
    cases k with
    | zero => simp at h; subst h; simp [Np.joinB]
    | succ k =>
      simp only [List.getElem?_cons_succ] at h
      have hk := ih k x h
      cases ws with
      | nil => simp at h
      | cons c ws =>
        rw [if_neg (by omega)]
        have e1 : (a :: c :: ws).take (k + 1 + 1) = a :: (c :: ws).take (k + 1) := rfl
        have e2 : Np.joinB (a :: (c :: ws).take (k + 1)) = a ++ 32 :: Np.joinB ((c :: ws).take (k + 1)) := by rw [List.take_succ_cons]; rfl
        rw [e1, e2, hk]
        cases k with
        | zero => rw [if_pos rfl]; rfl
        | succ k =>
          rw [if_neg (by omega)]
          have e3 : (a :: c :: ws).take (k + 1 + 1) = a :: (c :: ws).take (k + 1) := rfl
          have e4 : Np.joinB (a :: (c :: ws).take (k + 1)) = a ++ 32 :: Np.joinB ((c :: ws).take (k + 1)) := by rw [List.take_succ_cons]; rfl
          rw [e3, e4]; simp
theorem joinB_le : ∀ (ws : List (List UInt8)) (k : Nat), (Np.joinB (ws.take k)).length ≤ (Np.joinB ws).length := by
  intro ws
  induction ws with
  | nil => intro k; simp
  | cons a ws ih =>
    intro k
    cases k with
    | zero => simp [Np.joinB]
    | succ k =>
      cases ws with
      | nil => simp [Np.joinB]
      | cons c ws =>
        cases k with
        | zero => simp [Np.joinB]
        | succ k =>
          have := ih (k + 1)
          simp only [List.take_succ_cons, Np.joinB, List.length_append, List.length_cons] at this ⊢
          omega
theorem writeByte_lit {T : TypeId} (hT : BldT T) (B b : Nat) (r : Option Nat) (l : List UInt8) (c : UInt8) (k : Int) (hk : (c.toNat : Int) = k) (w : World) (h : Bld T B b r l w) (hl : l.length ≤ 100000000) (hBw : B ≤ w.heap.size) :
    Calls Tryz.prog 124 #[.pointer (some ⟨b, 0, none⟩), .int .u8 k] w (GivesBld T B b r (l ++ [c]) .nilIface w) := by
  subst hk
  exact writeByte_any hT B b r l c w h hl hBw
theorem bldW : BldT 85 := ⟨by kernel_rfl, by decide⟩
def LineRel (B b : Nat) (r : Option Nat) (l : List UInt8) (v : Value) (ws : List (List UInt8)) (w : World) (i : Value) (wr : World) : Prop :=
  ∃ k : Nat, k ≤ ws.length ∧ i = .int .i64 k ∧ ∃ r', Hid (Bld 85 B b r' (l ++ Np.joinB (ws.take k)) wr) ∧ Hid (BS b r w r' wr) ∧ Hid (StrsX b r' wr v ws)
set_option maxRecDepth 100000 in
set_option maxHeartbeats 2000000 in
theorem line_any (B b : Nat) (r : Option Nat) (l : List UInt8) (v : Value) (ws : List (List UInt8)) (w : World) (h : Bld 85 B b r l w) (hv : StrsX b r w v ws) (hl : l.length ≤ 10000000) (hw : (Np.joinB ws).length ≤ 1000000) (hBw : B ≤ w.heap.size) :
    Calls Tryz.prog 73 #[.pointer (some ⟨b, 0, none⟩), v] w (GivesBld 85 B b r (l ++ Np.lineText ws) (.tuple #[]) w) := by
  have H := Lib.hid h
  have HV := Lib.hid hv
  obtain ⟨A, c, rfl, hc, h6, -⟩ := hv
  clear h
  go_enter Tryz.func73, Tryz.ntmps73
  go_wp2_with fail
  go_loopw [8] (fun i wr => LineRel B b r l (.slice A ws.length c) ws w i wr) (fun i _ => ws.length - (intOf i).toNat)
  case atStart => exact ⟨0, Nat.zero_le _, rfl, r, Lib.hid (by simpa [Np.joinB] using H.out), Lib.hid (BS.refl _ _ _), HV⟩
  case round =>
    obtain ⟨k, hk, rfl, r', HB, HS, HX⟩ := hrel
    have hjl := joinB_le ws k
    have hjl2 := joinB_le ws (k + 1)
    have hsz := HS.out.size
    by_cases hlt : k < ws.length
    · have hget := List.getElem?_eq_getElem hlt
      obtain ⟨A', c', hA, _, _, hel⟩ := HX.out
      cases hA
      obtain ⟨g, o, rfl, hg, hgb, hgr, hcell⟩ := hel k _ hget
      have hjt := joinB_take ws k _ hget
      generalize ws[k] = x at *
      have HJ := Lib.hid hjt
      have hxl : x.length ≤ 1000000 := by
        rw [hjt] at hjl2
        split at hjl2
        · omega
        · simp at hjl2; omega
      clear hjt hel hget
      by_cases hk0 : k = 0
      · subst hk0
        simp only [Nat.add_zero] at hcell
        go_wp2_with fail
        refine (writeString_any bldW B b r' _ ⟨x.toArray⟩ _ HB.out (by simp [Np.joinB]; omega) (by rw [← size_list]; simp; omega) (by omega)).mono ?_
        rintro e w2 ⟨rfl, r2, hb2, hs2⟩
        have HB2 := Lib.hid hb2
        have HS2 := Lib.hid hs2
        clear hb2 hs2
        go_wp2_with fail
        go_roundw
        case rel => exact ⟨1, by omega, by go_num, r2, Lib.hid (by have := HB2.out; rw [HJ.out]; simpa [Np.joinB] using this), Lib.hid (HS.out.trans HS2.out), Lib.hid (HX.out.step HS2.out)⟩
        case measure => simp [intOf] <;> omega
      · have hkp : (0 : Int) < (k : Int) := by omega
        go_wp2_with fail
        refine (writeByte_lit bldW B b r' _ 32 32 rfl _ HB.out (by simp; omega) (by omega)).mono ?_
        rintro e w1 ⟨rfl, r1, hb1, hs1⟩
        have HB1 := Lib.hid hb1
        have HS1 := Lib.hid hs1
        have hsz1 := hs1.size
        clear hb1 hs1
        go_wp2_with fail
        refine (writeString_any bldW B b r1 _ ⟨x.toArray⟩ _ HB1.out (by simp; omega) (by rw [← size_list]; simp; omega) (by omega)).mono ?_
        rintro e w2 ⟨rfl, r2, hb2, hs2⟩
        have HB2 := Lib.hid hb2
        have HS2 := Lib.hid hs2
        clear hb2 hs2
        go_wp2_with fail
        go_roundw
        case rel => exact ⟨k + 1, by omega, by go_num, r2, Lib.hid (by have := HB2.out; rw [HJ.out, if_neg hk0]; simpa using this), Lib.hid (HS.out.trans (HS1.out.trans HS2.out)), Lib.hid ((HX.out.step HS1.out).step HS2.out)⟩
        case measure => simp [intOf] <;> omega
    · go_wp2_with fail
      refine (writeByte_lit bldW B b r' _ 10 10 rfl _ HB.out (by simp; omega) (by omega)).mono ?_
      rintro e w1 ⟨rfl, r1, hb1, hs1⟩
      have HB1 := Lib.hid hb1
      have HS1 := Lib.hid hs1
      clear hb1 hs1
      go_wp2_with fail
      go_end0
      refine ⟨rfl, r1, ?_, HS.out.trans HS1.out⟩
      have := HB1.out
      rw [List.take_of_length_le (by omega)] at this
      simpa [Np.lineText] using this
end Go.Proofs.YtnbolgdccdnjeaaGreatDoor
