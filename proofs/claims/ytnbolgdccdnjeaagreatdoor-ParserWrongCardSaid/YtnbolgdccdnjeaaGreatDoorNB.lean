/- Joined by program from: Rec, Rec2, Rec3, Shape. No condition. -/
import Derived.Test.YtnbolgdccdnjeaaGreatDoorNA
import Derived.StillTailTactics
import Derived.Test.YtnbolgdccdnjeaaGreatDoorPA
/- Contracts of package record: comparisons, free texts, data. -/
namespace Go.Proofs.YtnbolgdccdnjeaaGreatDoor
open Go.RowKit

theorem within_int (x lo hi : Int) (w : World) :
    Calls Tryz.prog 61 #[.int .i64 x, .int .i64 lo, .int .i64 hi] w fun e w' => e = .returned (.bool (decide (lo ≤ x) && decide (x ≤ hi))) ∧ w = w' := by
  by_cases h1 : lo ≤ x
  all_goals
    go_enter Tryz.func61, Tryz.ntmps61
    go_wp2
    go_ret
    exact ⟨ret_bool (by simp; omega), rfl⟩
theorem isWild_eq (s : ByteArray) (h : 1 ≤ s.size) : ((s.extract 0 1).toList == [42]) = Np.isWild s.data.toList := by
  rw [ByteArray.toList_eq, ext_to]
  unfold Np.isWild
  have hl : 1 ≤ s.data.toList.length := by rw [size_list]; exact h
  cases hd : s.data.toList with
  | nil => rw [hd] at hl; simp at hl
  | cons a r => rw [Bool.eq_iff_iff]; simp
theorem isWildcard_any (s : ByteArray) (hs : s.size ≤ 140737488355328) (w : World) :
    Calls Tryz.prog 62 #[.string s] w fun e w' => e = .returned (.bool (Np.isWild s.data.toList)) ∧ w = w' := by
  have h1 : 1 ≤ s.size → ((s.extract 0 1).toList == [42]) = Np.isWild s.data.toList := isWild_eq s
  have h2 : s.size < 1 → Np.isWild s.data.toList = false := fun h => by
    have : s.data.toList = [] := List.eq_nil_of_length_eq_zero (by rw [size_list]; omega)
    rw [this]; rfl
  have H1 := Lib.hid h1
  have H2 := Lib.hid h2
  clear h1 h2
  go_enter Tryz.func62, Tryz.ntmps62
  go_wp2
  · go_ret
    exact ⟨ret_bool (H1.out (by omega)), rfl⟩
  · go_ret
    exact ⟨ret_bool (H2.out (by omega)).symm, rfl⟩

set_option maxHeartbeats 1000000 in
theorem cmpS_any (s t : ByteArray) (w : World) :
    Calls Tryz.prog 107 #[.string s, .string t] w fun e w' => e = .returned (.int .i64 (Np.cmpS s.data.toList t.data.toList)) ∧ w = w' := by
  go_enter Tryz.func107, Tryz.ntmps107
  go_wp2
  · have h : Op.bytesLess s.toList t.toList = true := by assumption
    simp only [ByteArray.toList_eq] at h
    go_ret
    exact ⟨ret_int (by simp [Np.cmpS, h]), rfl⟩
  · have h : Op.bytesLess s.toList t.toList = false := by assumption
    have h2 : (!s.toList == t.toList) = true := by assumption
    simp only [ByteArray.toList_eq] at h h2
    have h3 : ¬ s.data.toList = t.data.toList := by simpa using h2
    go_ret
    exact ⟨ret_int (by rw [Np.cmpS, if_neg (by simp [h]), if_neg h3]), rfl⟩
  · have h : Op.bytesLess s.toList t.toList = false := by assumption
    have h2 : (!s.toList == t.toList) = false := by assumption
    simp only [ByteArray.toList_eq] at h h2
    have h3 : s.data.toList = t.data.toList := by simpa using h2
    go_ret
    exact ⟨ret_int (by rw [Np.cmpS, if_neg (by simp [h]), if_pos h3]), rfl⟩
theorem cmpI_any (s t : Int) (w : World) :
    Calls Tryz.prog 108 #[.int .i64 s, .int .i64 t] w fun e w' => e = .returned (.int .i64 (Np.cmpI s t)) ∧ w = w' := by
  go_enter Tryz.func108, Tryz.ntmps108
  go_wp2
  · go_ret
    exact ⟨ret_int (by rw [Np.cmpI, if_pos ‹_›]), rfl⟩
  · go_ret
    exact ⟨ret_int (by rw [Np.cmpI, if_neg (by omega), if_pos ‹_›]), rfl⟩
  · go_ret
    exact ⟨ret_int (by rw [Np.cmpI, if_neg (by omega), if_neg (by omega)]), rfl⟩

theorem freeByte_eq (c : UInt8) : Np.freeByte c = decide ((97 ≤ (c.toNat : Int) ∧ (c.toNat : Int) ≤ 122) ∨ (48 ≤ (c.toNat : Int) ∧ (c.toNat : Int) ≤ 57) ∨ (c.toNat : Int) = 32) := by
  have h := u8_eq c 32 (by decide)
  unfold Np.freeByte Np.isLow Np.isDig
  rw [show (32 : UInt8) = UInt8.ofNat 32 from rfl, h, Bool.eq_iff_iff]
  simp [UInt8.le_iff_toNat_le]
  omega
theorem isFree_1 (s : ByteArray) (h : (s.size : Int) < 1) : Np.isFree s.data.toList = false := by
  have : ¬ 1 ≤ s.size := by omega
  simp [Np.isFree, this]
theorem isFree_2 (s : ByteArray) (h : 40 < (s.size : Int)) : Np.isFree s.data.toList = false := by
  have : ¬ s.size ≤ 40 := by omega
  simp [Np.isFree, this]
theorem isFree_3 (s : ByteArray) (h0 : 0 < s.size) (h : (s[0].toNat : Int) = 32) : Np.isFree s.data.toList = false := by
  have e := u8_eq s[0] 32 (by decide)
  rw [decide_eq_true (by simpa using h)] at e
  have e2 : s[0] = (32 : UInt8) := by simpa using e
  simp [Np.isFree, head_list s h0, e2]
theorem isFree_4 (s : ByteArray) (h0 : s.size - 1 < s.size) (h : (s[s.size - 1].toNat : Int) = 32) : Np.isFree s.data.toList = false := by
  have e := u8_eq s[s.size - 1] 32 (by decide)
  rw [decide_eq_true (by simpa using h)] at e
  have e2 : s[s.size - 1] = (32 : UInt8) := by simpa using e
  simp [Np.isFree, last_list s h0, e2]
theorem isFree_5 (s : ByteArray) (k : Nat) (hk : k < s.size) (h : Np.freeByte s[k] = false) : Np.isFree s.data.toList = false := by
  have : s.data.toList.all Np.freeByte = false := by
    rw [List.all_eq_false]
    exact ⟨s[k], by rw [← List.getElem?_eq_some_iff.1 (get_list s k hk) |>.2]; exact List.getElem_mem _, by simp [h]⟩
  simp [Np.isFree, this]
theorem isFree_6 (s : ByteArray) (h1 : 1 ≤ s.size) (h2 : s.size ≤ 40) (h3 : ¬ (s[0].toNat : Int) = 32) (h4 : ¬ (s[s.size - 1].toNat : Int) = 32) (h5 : s.data.toList.all Np.freeByte = true) : Np.isFree s.data.toList = true := by
  have e := u8_eq s[0] 32 (by decide)
  have e' := u8_eq s[s.size - 1] 32 (by decide)
  rw [decide_eq_false (by simpa using h3)] at e
  rw [decide_eq_false (by simpa using h4)] at e'
  have e2 : ¬ s[0] = (32 : UInt8) := by simpa using e
  have e3 : ¬ s[s.size - 1] = (32 : UInt8) := by simpa using e'
  simp [Np.isFree, last_list s (by omega), head_list s (by omega), e2, e3, h5, h1, h2]

set_option maxHeartbeats 1000000 in
theorem isFree_any (s : ByteArray) (hs : s.size ≤ 140737488355328) (w : World) :
    Calls Tryz.prog 105 #[.string s] w fun e w' => e = .returned (.bool (Np.isFree s.data.toList)) ∧ w = w' := by
  · go_enter Tryz.func105, Tryz.ntmps105
    go_wp2
    rotate_right
    · go_ret
      exact ⟨ret_bool (isFree_1 s ‹_›).symm, rfl⟩
    · go_ret
      exact ⟨ret_bool (isFree_2 s ‹_›).symm, rfl⟩
    · go_ret
      exact ⟨ret_bool (isFree_3 s ‹_› ‹_›).symm, rfl⟩
    · have h : ((s[s.size - 1].toNat : Int) == 32) = true := by assumption
      go_ret
      exact ⟨ret_bool (isFree_4 s (by omega) (by simpa using h)).symm, rfl⟩
    · have h2 : (s.size : Int) ≤ 40 := by assumption
      have h3 : ¬ (s[0].toNat : Int) = 32 := by assumption
      have h4 : ((s[s.size - 1].toNat : Int) == 32) = false := by assumption
      have H4 := Lib.hid h4
      clear h4
      have H3 := Lib.hid h3
      go_loop [24] (fun i => ∃ k : Nat, k ≤ s.size ∧ i = .int .i64 k ∧ (s.data.toList.take k).all Np.freeByte = true) (fun i => s.size - (intOf i).toNat)
      case atStart => exact ⟨0, Nat.zero_le _, rfl, rfl⟩
      case round =>
        obtain ⟨k, hk, rfl, ha⟩ := hrel
        have HA := Lib.hid ha
        clear ha
        by_cases hlt : k < s.size
        · have hb := u8_bd s[k]
          by_cases hf : (97 ≤ (s[k].toNat : Int) ∧ (s[k].toNat : Int) ≤ 122) ∨ (48 ≤ (s[k].toNat : Int) ∧ (s[k].toNat : Int) ≤ 57) ∨ (s[k].toNat : Int) = 32
          · have hl : Np.freeByte s[k] = true := by rw [freeByte_eq]; exact decide_eq_true hf
            have HL := Lib.hid hl
            clear hl
            go_wp2
            all_goals first
              | (go_round
                 case rel => exact ⟨k + 1, by omega, by go_num, all_snoc s k hlt _ HA.out HL.out⟩
                 case measure => simp [intOf] <;> omega)
              | (exfalso
                 have hne : ((s[k].toNat : Int) != 32) = true := by assumption
                 have hne' := bne_iff_ne.1 hne
                 omega)
          · have hl : Np.freeByte s[k] = false := by rw [freeByte_eq]; exact decide_eq_false hf
            have HL := Lib.hid hl
            clear hl
            go_wp2
            all_goals first
              | (go_ret; exact ⟨ret_bool (isFree_5 s k hlt HL.out).symm, rfl⟩)
              | (exfalso; omega)
              | (exfalso
                 have hne : ((s[k].toNat : Int) != 32) = false := by assumption
                 have hne' : (s[k].toNat : Int) = 32 := by simpa using hne
                 omega)
        · go_wp2
          go_ret
          exact ⟨ret_bool (isFree_6 s (by omega) (by omega) H3.out (by simpa using H4.out) (by have := HA.out; rwa [take_all s k (by omega)] at this)).symm, rfl⟩
end Go.Proofs.YtnbolgdccdnjeaaGreatDoor
/- Contracts of package record: comparing data; which data are valid. -/
namespace Go.Proofs.YtnbolgdccdnjeaaGreatDoor
open Go.RowKit

def orI : List Int → Int
  | [] => 0
  | x :: xs => if x ≠ 0 then x else orI xs
theorem orI_zero (xs : List Int) (h : ∀ x ∈ xs, x = 0) : orI xs = 0 := by
  induction xs with
  | nil => rfl
  | cons x r ih => rw [orI, if_neg (by simp [h x (by simp)])]; exact ih (fun y hy => h y (by simp [hy]))
theorem orI_hit (xs : List Int) (k : Nat) (hk : k < xs.length) (h : ∀ x ∈ xs.take k, x = 0) (hx : xs[k] ≠ 0) : orI xs = xs[k] := by
  induction xs generalizing k with
  | nil => simp at hk
  | cons x r ih =>
    cases k with
    | zero => simp at hx; simp [orI, hx]
    | succ k =>
      have h0 : x = 0 := h x (by simp)
      rw [orI, if_neg (by simp [h0])]
      simpa using ih k (by simpa using hk) (fun y hy => h y (by simp [hy])) (by simpa using hx)

set_option maxHeartbeats 1000000 in
theorem cmpOr_any (b c : Nat) (xs : List Int) (hl : xs.length ≤ 1000) (w : World) (hc : ∀ i x, xs[i]? = some x → w.cell? ⟨b, i, none⟩ = some (.int .i64 x)) :
    Calls Tryz.prog 106 #[.slice (some ⟨b, 0, none⟩) xs.length c] w fun e w' => e = .returned (.int .i64 (orI xs)) ∧ w = w' := by
  have HC := Lib.hid hc
  clear hc
  go_enter Tryz.func106, Tryz.ntmps106
  go_wp2
  go_loop [8] (fun i => ∃ k : Nat, k ≤ xs.length ∧ i = .int .i64 k ∧ Hid (∀ x ∈ xs.take k, x = 0)) (fun i => xs.length - (intOf i).toNat)
  case atStart => exact ⟨0, Nat.zero_le _, rfl, Lib.hid (by simp)⟩
  case round =>
    obtain ⟨k, hk, rfl, HA⟩ := hrel
    by_cases hlt : k < xs.length
    · have hcell : w.cell? ⟨b, k, none⟩ = some (.int .i64 xs[k]) := HC.out k _ (List.getElem?_eq_getElem hlt)
      go_wp2
      · have hne : (xs[k] != 0) = true := by assumption
        go_ret
        exact ⟨ret_int (orI_hit xs k hlt HA.out (by simpa using hne)).symm, rfl⟩
      · have hne : (xs[k] != 0) = false := by assumption
        go_round
        case rel =>
          refine ⟨k + 1, by omega, by go_num, Lib.hid ?_⟩
          rw [List.take_succ_eq_append_getElem hlt]
          intro x hx
          rcases List.mem_append.1 hx with h | h
          · exact HA.out x h
          · simp at h; subst h; simpa using hne
        case measure => simp [intOf] <;> omega
    · go_wp2
      go_ret
      exact ⟨ret_int (orI_zero xs (by have := HA.out; rwa [List.take_of_length_le (by omega)] at this)).symm, rfl⟩

theorem cmpD_eq (a b : Np.Datum) : Np.cmpD a b = orI [Np.cmpS a.text b.text, Np.cmpI a.n b.n, Np.cmpI a.m b.m] := by
  simp only [Np.cmpD, orI]
  split
  · rfl
  · split
    · rfl
    · split
      · rfl
      · rename_i h; simpa using h

set_option maxRecDepth 100000 in
set_option maxHeartbeats 1000000 in
theorem compareData_any (s t : ByteArray) (n1 m1 n2 m2 : Int) (w : World) :
    Calls Tryz.prog 64 #[.agg #[.string s, .int .i64 n1, .int .i64 m1], .agg #[.string t, .int .i64 n2, .int .i64 m2]] w
      fun e w' => e = .returned (.int .i64 (Np.cmpD ⟨s.data.toList, n1, m1⟩ ⟨t.data.toList, n2, m2⟩)) ∧ Below w.heap.size w w' := by
  rw [cmpD_eq]
  go_enter Tryz.func64, Tryz.ntmps64
  go_wp2
  refine wp_region_tail 15 (by kernel_rfl) (by kernel_rfl) ?_
  simp only [List.take_succ_cons, List.take_zero, List.drop_succ_cons, List.drop_zero]
  iterate 4 still_step
  still_call (Calls.still_same (cmpS_any _ _ _))
  iterate 4 still_step
  still_call (Calls.still_same (cmpI_any _ _ _))
  iterate 4 still_step
  still_call (Calls.still_same (cmpI_any _ _ _))
  refine wpStill_nil ?_
  go_wp2_with fail
  refine (cmpOr_any (w.heap.size + 1 + 1) 3 [Np.cmpS s.data.toList t.data.toList, Np.cmpI n1 n2, Np.cmpI m1 m2] (by simp) _ ?_).mono ?_
  · intro i x hx
    match i, hx with
    | 0, hx => simp at hx; subst hx; go_simp
    | 1, hx => simp at hx; subst hx; go_simp
    | 2, hx => simp at hx; subst hx; go_simp
    | i + 3, hx => simp at hx
  · rintro e w' ⟨rfl, rfl⟩
    go_wp2_with fail
    go_ret
    exact ⟨rfl, ((((Below.refl _ w).alloc (Nat.le_refl _) _).alloc (by simp) _).alloc (by simp; omega) _).drew⟩

def ruleVal (r : Np.Rule) : Array Value := #[.int .i64 r.text, .int .i64 r.leastN, .int .i64 r.mostN, .int .i64 r.leastM, .int .i64 r.mostM, .bool r.even, .bool r.single, .bool r.wild]

set_option maxRecDepth 100000 in
set_option maxHeartbeats 1000000 in
theorem validDatum_any (k ln mn lm mm : Int) (ev si wi : Bool) (s : ByteArray) (hs : s.size ≤ 140737488355328) (n m : Int) (w : World) :
    Calls Tryz.prog 63 #[.agg #[.int .i64 k, .int .i64 ln, .int .i64 mn, .int .i64 lm, .int .i64 mm, .bool ev, .bool si, .bool wi], .agg #[.string s, .int .i64 n, .int .i64 m]] w
      fun e w' => e = .returned (.bool (Np.validDatum ⟨k, ln, mn, lm, mm, ev, si, wi⟩ ⟨s.data.toList, n, m⟩)) ∧ Below w.heap.size w w' := by
  go_enter Tryz.func63, Tryz.ntmps63
  go_wp2_with (first
    | (go_at_call 61; refine (within_int _ _ _ _).mono ?_; rintro e w' ⟨rfl, rfl⟩)
    | (go_at_call 24; refine (nameValid_any _ hs _).mono ?_; rintro e w' ⟨rfl, hb⟩; obtain ⟨hc, hf⟩ := bcell hb)
    | (go_at_call 62; refine (isWildcard_any _ hs _).mono ?_; rintro e w' ⟨rfl, rfl⟩)
    | (go_at_call 105; refine (isFree_any _ hs _).mono ?_; rintro e w' ⟨rfl, rfl⟩))
  all_goals
    go_ret
    go_light
    refine ⟨ret_bool ?_, ?_⟩
    · simp_all [Np.validDatum, Np.validText, ByteArray.toList_eq] <;> (intros; omega)
    · first
        | exact ((Below.refl _ w).alloc (Nat.le_refl _) _).alloc (by simp) _
        | exact (((Below.refl _ w).alloc (Nat.le_refl _) _).alloc (by simp) _).trans (hb.mono (by simp; omega))
end Go.Proofs.YtnbolgdccdnjeaaGreatDoor
/- Contract of record.Valid. -/
namespace Go.Proofs.YtnbolgdccdnjeaaGreatDoor
open Go.RowKit

/-- The package-level table of rules lies below B. -/
def RulesIn (w : World) (B : Nat) : Prop := 0 < B ∧ ∀ k : Nat, k < 9 → CellsAt w 0 (k * 8) (ruleVal (Np.ruleOf k)).toList
theorem RulesIn.keep {w w' : World} {B : Nat} (h : RulesIn w B) (hb : Below B w w') : RulesIn w' B := ⟨h.1, fun k hk => (h.2 k hk).keep hb h.1⟩
theorem RulesIn.more {w : World} {B B' : Nat} (h : RulesIn w B) (hB : B ≤ B') : RulesIn w B' := ⟨Nat.lt_of_lt_of_le h.1 hB, h.2⟩

/-- A datum in three cells. -/
def RDatum (_ : World) (_ : Nat) (e : List Value) (d : Np.Datum) : Prop := ∃ s : ByteArray, s.data.toList = d.text ∧ s.size ≤ 140737488355328 ∧ e = [.string s, .int .i64 d.n, .int .i64 d.m]
theorem rdatum_kept : KeptR RDatum := fun _ _ _ _ _ h _ => h
theorem rdatum_more : MoreR RDatum := fun _ _ _ _ _ h _ => h

theorem below_of_eq {w w' : World} (h : w' = w) : Below w.heap.size w w' := by rw [h]; exact Below.refl _ _
theorem validDatum_bool (k ln mn lm mm : Int) (ev si wi : Bool) (s : ByteArray) (hs : s.size ≤ 140737488355328) (n m : Int) (w : World) (t : Bool) (ht : Np.validDatum ⟨k, ln, mn, lm, mm, ev, si, wi⟩ ⟨s.data.toList, n, m⟩ = t) :
    Calls Tryz.prog 63 #[.agg #[.int .i64 k, .int .i64 ln, .int .i64 mn, .int .i64 lm, .int .i64 mm, .bool ev, .bool si, .bool wi], .agg #[.string s, .int .i64 n, .int .i64 m]] w
      fun e w' => e = .returned (.bool t) ∧ Below w.heap.size w w' := by
  subst ht
  exact validDatum_any k ln mn lm mm ev si wi s hs n m w
def ValidRel (w1 : World) (o : Obj) (r : Np.Rule) (ds : List Np.Datum) (i : Value) (wr : World) : Prop :=
  ∃ j : Nat, j ≤ ds.length ∧ i = .int .i64 j ∧ Below (w1.alloc o).heap.size (w1.alloc o) wr ∧ Np.goodData r none ds = Np.goodData r (ds.take j).getLast? (ds.drop j)

set_option maxRecDepth 100000 in
set_option maxHeartbeats 4000000 in
theorem recValid_any (s : ByteArray) (hs : s.size ≤ 140737488355328) (ty life : Int) (v : Value) (ds : List Np.Datum) (w : World) (hR : RulesIn w w.heap.size) (hd : SlR RDatum 3 w w.heap.size v ds) :
    Calls Tryz.prog 27 #[.agg #[.string s, .int .i64 ty, .int .i64 life, v]] w
      fun e w' => e = .returned (.bool (Np.validSet ⟨s.data.toList, ty, life, ds⟩)) ∧ Below w.heap.size w w' := by
  have HR := Lib.hid hR
  have HD := Lib.hid hd
  obtain ⟨A, c, rfl, hc1, hl1, he1⟩ := hd
  clear hR he1
  have HF : Hid (∀ t : Bool, t = Np.validSet ⟨s.data.toList, ty, life, ds⟩ → (.bool t : Value) = .bool (Np.validSet ⟨s.data.toList, ty, life, ds⟩)) := fun t ht => by rw [ht]
  go_enter Tryz.func27, Tryz.ntmps27
  go_wp2_with fail
  refine (nameValid_any _ hs _).mono ?_
  rintro e w1 ⟨rfl, hb⟩
  have hb0 : Below w.heap.size w w1 := ((Below.refl _ w).alloc (Nat.le_refl _) _).trans (hb.mono (by simp))
  have hsz : w.heap.size + 1 ≤ w1.heap.size := by have := hb.size; simpa using this
  have hlt1 : w.heap.size < w1.heap.size := by omega
  have c0 : w1.cell? ⟨w.heap.size, 0, none⟩ = some (.string s) := by rw [hb.cell (by simp)]; go_simp
  have c1 : w1.cell? ⟨w.heap.size, 1, none⟩ = some (.int .i64 ty) := by rw [hb.cell (by simp)]; go_simp
  have c2 : w1.cell? ⟨w.heap.size, 2, none⟩ = some (.int .i64 life) := by rw [hb.cell (by simp)]; go_simp
  have c3 : w1.cell? ⟨w.heap.size, 3, none⟩ = some (.slice A ds.length c) := by rw [hb.cell (by simp)]; go_simp
  have HB := Lib.hid hb
  clear hb
  by_cases hty : 1 ≤ ty ∧ ty ≤ 8
  · obtain ⟨k, rfl⟩ := Int.eq_ofNat_of_zero_le (by omega : 0 ≤ ty)
    have hk9 : k < 9 := by omega
    have hrr := (HR.out.keep hb0).2 k hk9
    have r0 : w1.cell? ⟨0, k * 8, none⟩ = some (.int .i64 (Np.ruleOf k).text) := hrr 0 _ rfl
    have r1 : w1.cell? ⟨0, k * 8 + 1, none⟩ = some (.int .i64 (Np.ruleOf k).leastN) := hrr 1 _ rfl
    have r2 : w1.cell? ⟨0, k * 8 + 2, none⟩ = some (.int .i64 (Np.ruleOf k).mostN) := hrr 2 _ rfl
    have r3 : w1.cell? ⟨0, k * 8 + 3, none⟩ = some (.int .i64 (Np.ruleOf k).leastM) := hrr 3 _ rfl
    have r4 : w1.cell? ⟨0, k * 8 + 4, none⟩ = some (.int .i64 (Np.ruleOf k).mostM) := hrr 4 _ rfl
    have r5 : w1.cell? ⟨0, k * 8 + 5, none⟩ = some (.bool (Np.ruleOf k).even) := hrr 5 _ rfl
    have r6 : w1.cell? ⟨0, k * 8 + 6, none⟩ = some (.bool (Np.ruleOf k).single) := hrr 6 _ rfl
    have r7 : w1.cell? ⟨0, k * 8 + 7, none⟩ = some (.bool (Np.ruleOf k).wild) := hrr 7 _ rfl
    clear hrr
    go_wp2_with (first
      | (go_at_call 61; refine (within_int _ _ _ _).mono ?_; rintro e w' ⟨rfl, rfl⟩)
      | (go_at_call 62; refine (isWildcard_any _ hs _).mono ?_; rintro e w' ⟨rfl, rfl⟩))
    all_goals first
      | (go_ret
         go_light
         refine ⟨ret_bool ?_, by first | exact hb0 | exact hb0.alloc (by omega) _⟩
         simp_all [Np.validSet] <;> (intros; omega))
      | skip
    all_goals
      have hv : Np.validSet ⟨s.data.toList, k, life, ds⟩ = Np.goodData (Np.ruleOf k) none ds := by
        go_light
        simp_all [Np.validSet] <;> (intros; omega)
    rotate_left 3
    all_goals
      have HV := Lib.hid hv
      clear hv HF
      go_loopw [52] (fun i wr => ValidRel w1 (Obj.cells (ruleVal (Np.ruleOf k)) 105) (Np.ruleOf k) ds i wr) (fun i _ => ds.length - (intOf i).toNat)
      case atStart =>
        refine ⟨0, Nat.zero_le _, rfl, below_of_eq ?_, rfl⟩
        go_light
        simp_all [ruleVal]
      case round =>
        obtain ⟨j, hj, rfl, hbw, hg⟩ := hrel
        have HG := Lib.hid hg
        clear hg
        by_cases hlt : j < ds.length
        · have hwz := hbw.size
          simp only [World.size_alloc] at hwz
          have hbw0 : Below w.heap.size w wr := (hb0.alloc (by omega) _).trans (hbw.mono (by simp; omega))
          have hw0 : w.heap.size < wr.heap.size := by omega
          have hw1 : w1.heap.size < wr.heap.size := by omega
          have d3 : wr.cell? ⟨w.heap.size, 3, none⟩ = some (.slice A ds.length c) := by rw [hbw.cell (by simp; omega)]; rw [World.cell?_alloc_lt _ _ _ (by simpa using hlt1)]; exact c3
          have q0 : wr.cell? ⟨w1.heap.size, 0, none⟩ = some (.int .i64 (Np.ruleOf k).text) := by rw [hbw.cell (by simp)]; exact World.cell?_alloc_new w1 _ _ _
          have q1 : wr.cell? ⟨w1.heap.size, 1, none⟩ = some (.int .i64 (Np.ruleOf k).leastN) := by rw [hbw.cell (by simp)]; exact World.cell?_alloc_new w1 _ _ _
          have q2 : wr.cell? ⟨w1.heap.size, 2, none⟩ = some (.int .i64 (Np.ruleOf k).mostN) := by rw [hbw.cell (by simp)]; exact World.cell?_alloc_new w1 _ _ _
          have q3 : wr.cell? ⟨w1.heap.size, 3, none⟩ = some (.int .i64 (Np.ruleOf k).leastM) := by rw [hbw.cell (by simp)]; exact World.cell?_alloc_new w1 _ _ _
          have q4 : wr.cell? ⟨w1.heap.size, 4, none⟩ = some (.int .i64 (Np.ruleOf k).mostM) := by rw [hbw.cell (by simp)]; exact World.cell?_alloc_new w1 _ _ _
          have q5 : wr.cell? ⟨w1.heap.size, 5, none⟩ = some (.bool (Np.ruleOf k).even) := by rw [hbw.cell (by simp)]; exact World.cell?_alloc_new w1 _ _ _
          have q6 : wr.cell? ⟨w1.heap.size, 6, none⟩ = some (.bool (Np.ruleOf k).single) := by rw [hbw.cell (by simp)]; exact World.cell?_alloc_new w1 _ _ _
          have q7 : wr.cell? ⟨w1.heap.size, 7, none⟩ = some (.bool (Np.ruleOf k).wild) := by rw [hbw.cell (by simp)]; exact World.cell?_alloc_new w1 _ _ _
          obtain ⟨A', c', hA', _, _, hel⟩ := HD.out.keep rdatum_kept hbw0
          cases hA'
          obtain ⟨b, o, e, rfl, hbB, _, hce, sd, hsd, hsds, rfl⟩ := hel j _ (List.getElem?_eq_getElem hlt)
          have e0 : wr.cell? ⟨b, o + j * 3, none⟩ = some (.string sd) := hce 0 _ rfl
          have e1 : wr.cell? ⟨b, o + j * 3 + 1, none⟩ = some (.int .i64 ds[j].n) := hce 1 _ rfl
          have e2 : wr.cell? ⟨b, o + j * 3 + 2, none⟩ = some (.int .i64 ds[j].m) := hce 2 _ rfl
          have hbr : b < wr.heap.size := by omega
          have HBW := Lib.hid hbw
          have HB0 := Lib.hid hbw0
          have HEL := Lib.hid hel
          have HSD := Lib.hid hsd
          clear hce hbw hbw0 hel hsd c0 c1 c2 c3 r0 r1 r2 r3 r4 r5 r6 r7
          go_wp2_with fail
          have p0 := World.cell?_alloc_new wr #[.string sd, .int .i64 ds[j].n, .int .i64 ds[j].m] 43 0
          have p1 := World.cell?_alloc_new wr #[.string sd, .int .i64 ds[j].n, .int .i64 ds[j].m] 43 1
          have p2 := World.cell?_alloc_new wr #[.string sd, .int .i64 ds[j].n, .int .i64 ds[j].m] 43 2
          have keep : ∀ b o, b < wr.heap.size → (wr.alloc (.cells #[.string sd, .int .i64 ds[j].n, .int .i64 ds[j].m] 43)).cell? ⟨b, o, none⟩ = wr.cell? ⟨b, o, none⟩ := fun b o h => World.cell?_alloc_lt _ _ _ h
          have hsx : (wr.alloc (.cells #[.string sd, .int .i64 ds[j].n, .int .i64 ds[j].m] 43)).heap.size = wr.heap.size + 1 := World.size_alloc _ _
          have hbx : Below wr.heap.size wr (wr.alloc (.cells #[.string sd, .int .i64 ds[j].n, .int .i64 ds[j].m] 43)) := (Below.refl _ _).alloc (Nat.le_refl _) _
          generalize wr.alloc (.cells #[.string sd, .int .i64 ds[j].n, .int .i64 ds[j].m] 43) = wx at p0 p1 p2 keep hsx hbx ⊢
          have hx0 : w.heap.size < wx.heap.size := by omega
          have hx1 : w1.heap.size < wx.heap.size := by omega
          have hx2 : wr.heap.size < wx.heap.size := by omega
          have hx3 : b < wx.heap.size := by omega
          have hgc : ∀ (g : Grow wx) (p : Addr), p.block < wx.heap.size → g.w.cell? p = wx.cell? p := fun g p h => g.cell p h
          have HBX := Lib.hid hbx
          clear hbx hsx
          have hdj : (⟨sd.data.toList, ds[j].n, ds[j].m⟩ : Np.Datum) = ds[j] := by rw [HSD.out]
          have HDJ := Lib.hid hdj
          clear hdj
          by_cases hvd : Np.validDatum (Np.ruleOf k) ⟨sd.data.toList, ds[j].n, ds[j].m⟩ = true
          · have HVD := Lib.hid hvd
            clear hvd
            by_cases hj0 : j = 0
            · subst hj0
              refine wp_region_grow (by kernel_rfl) (by kernel_rfl) ?_
              repeat (go_big_quiet_step ((go_at_call 63; exact Calls.grow_of (validDatum_bool _ _ _ _ _ _ _ _ _ hsds _ _ _ true HVD.out))))
              refine wpQuiet_nil ?_
              rintro _ ⟨g, rfl⟩
              go_wp2_with fail
              go_roundw
              case rel =>
                go_light
                have h1 := Np.goodData_first (r := Np.ruleOf k) (List.getElem?_eq_getElem hlt) (by rw [← HDJ.out]; exact HVD.out)
                exact ⟨1, hlt, by go_num, HBW.out.trans ((HBX.out.trans (g.below.mono (by omega))).mono (by simp; omega)), by rw [← h1]; exact HG.out⟩
              case measure => simp [intOf] <;> omega
            · obtain ⟨i, rfl⟩ : ∃ i, j = i + 1 := ⟨j - 1, by omega⟩
              try (exfalso; omega)
              all_goals
                obtain ⟨b', o', e', hA2, hbB', _, hce', sq, hsq, hsqs, rfl⟩ := HEL.out i _ (List.getElem?_eq_getElem (by omega))
                cases hA2
                have f0 : wr.cell? ⟨b, o + i * 3, none⟩ = some (.string sq) := hce' 0 _ rfl
                have f1 : wr.cell? ⟨b, o + i * 3 + 1, none⟩ = some (.int .i64 (ds[i]'(by omega)).n) := hce' 1 _ rfl
                have f2 : wr.cell? ⟨b, o + i * 3 + 2, none⟩ = some (.int .i64 (ds[i]'(by omega)).m) := hce' 2 _ rfl
                have hdi : (⟨sq.data.toList, (ds[i]'(by omega)).n, (ds[i]'(by omega)).m⟩ : Np.Datum) = ds[i]'(by omega) := by rw [hsq]
                have HDI := Lib.hid hdi
                clear hce' hsq hdi
                refine wp_region_grow (by kernel_rfl) (by kernel_rfl) ?_
                repeat (go_big_quiet_step (first
                  | (go_at_call 63; exact Calls.grow_of (validDatum_bool _ _ _ _ _ _ _ _ _ hsds _ _ _ true HVD.out))
                  | (go_at_call 64; exact Calls.grow_of (compareData_any _ _ _ _ _ _ _))))
                refine wpQuiet_nil ?_
                rintro _ ⟨g, rfl⟩
                have h1 := Np.goodData_next (r := Np.ruleOf k) (List.getElem?_eq_getElem (by omega : i < ds.length)) (List.getElem?_eq_getElem hlt) (by rw [← HDJ.out]; exact HVD.out)
                rw [← HDJ.out, ← HDI.out] at h1
                have H1 := Lib.hid h1
                clear h1
                go_wp2_with fail
                · go_ret
                  refine ⟨ret_bool ?_, HB0.out.trans ((HBX.out.trans (g.below.mono (by omega))).mono (by omega))⟩
                  rw [HV.out, HG.out, H1.out, if_neg (by omega)]
                · go_roundw
                  case rel =>
                    go_light
                    exact ⟨i + 1 + 1, hlt, by go_num, HBW.out.trans ((HBX.out.trans (g.below.mono (by omega))).mono (by simp; omega)), by rw [HG.out, H1.out, if_pos (by omega)]⟩
                  case measure => simp [intOf] <;> omega
          · have hvd' : Np.validDatum (Np.ruleOf k) ⟨sd.data.toList, ds[j].n, ds[j].m⟩ = false := by simpa using hvd
            have HVD := Lib.hid hvd'
            clear hvd hvd'
            refine wp_region_grow (by kernel_rfl) (by kernel_rfl) ?_
            repeat (go_big_quiet_step ((go_at_call 63; exact Calls.grow_of (validDatum_bool _ _ _ _ _ _ _ _ _ hsds _ _ _ false HVD.out))))
            refine wpQuiet_nil ?_
            rintro _ ⟨g, rfl⟩
            go_wp2_with fail
            go_ret
            refine ⟨ret_bool ?_, HB0.out.trans ((HBX.out.trans (g.below.mono (by omega))).mono (by omega))⟩
            rw [HV.out, HG.out, Np.goodData_bad (List.getElem?_eq_getElem hlt) (by rw [← HDJ.out]; exact HVD.out)]
        · go_wp2_with fail
          go_ret
          refine ⟨ret_bool ?_, (hb0.alloc (by omega) _).trans (hbw.mono (by simp; omega))⟩
          rw [HV.out, HG.out, List.drop_eq_nil_of_le (by omega)]
          rfl
  · have hv : Np.validSet ⟨s.data.toList, ty, life, ds⟩ = false := by
      simp only [Np.validSet]
      have : (decide (1 ≤ ty) && decide (ty ≤ 8)) = false := by simp; omega
      rw [this]; simp
    have HV := Lib.hid hv
    clear hv
    have hty' : (decide (1 ≤ ty) && decide (ty ≤ 8)) = false := by simp; omega
    go_wp2_with (first
      | (go_at_call 61; refine (within_int _ _ _ _).mono ?_; rintro e w' ⟨rfl, rfl⟩))
    all_goals
      go_ret
      exact ⟨ret_bool HV.out.symm, hb0⟩
end Go.Proofs.YtnbolgdccdnjeaaGreatDoor
/- How sets, signed sets and zones lie in memory. -/
namespace Go.Proofs.YtnbolgdccdnjeaaGreatDoor
open Go.RowKit
/-- A signature in six cells. -/
def RSig (_ : World) (_ : Nat) (e : List Value) (g : Np.Sig) : Prop := ∃ s : ByteArray, s.data.toList = g.zone ∧ s.size ≤ 140737488355328 ∧ e = [.string s, .int .i64 g.key, .int .i64 g.alg, .int .i64 g.frm, .int .i64 g.til, .int .u64 g.sum]
theorem rsig_kept : KeptR RSig := fun _ _ _ _ _ h _ => h
theorem rsig_more : MoreR RSig := fun _ _ _ _ _ h _ => h
/-- A signed set in five cells. -/
def RSigned (W : World) (B : Nat) (e : List Value) (x : Np.Signed) : Prop := ∃ (s : ByteArray) (v u : Value), s.data.toList = x.set.name ∧ s.size ≤ 140737488355328 ∧ SlR RDatum 3 W B v x.set.data ∧ SlR RSig 6 W B u x.sigs ∧ e = [.string s, .int .i64 x.set.type, .int .i64 x.set.life, v, u]
theorem rsigned_kept : KeptR RSigned := fun _ _ _ _ _ ⟨s, v, u, h1, h2, h3, h4, h5⟩ hb => ⟨s, v, u, h1, h2, h3.keep rdatum_kept hb, h4.keep rsig_kept hb, h5⟩
theorem rsigned_more : MoreR RSigned := fun _ _ _ _ _ ⟨s, v, u, h1, h2, h3, h4, h5⟩ hb => ⟨s, v, u, h1, h2, h3.more rdatum_more hb, h4.more rsig_more hb, h5⟩
/-- A zone in two cells. -/
def RZone (W : World) (B : Nat) (e : List Value) (z : Np.Zone) : Prop := ∃ (s : ByteArray) (v : Value), s.data.toList = z.apex ∧ s.size ≤ 140737488355328 ∧ SlR RSigned 5 W B v z.sets ∧ e = [.string s, v]
theorem rzone_kept : KeptR RZone := fun _ _ _ _ _ ⟨s, v, h1, h2, h3, h5⟩ hb => ⟨s, v, h1, h2, h3.keep rsigned_kept hb, h5⟩
theorem rzone_more : MoreR RZone := fun _ _ _ _ _ ⟨s, v, h1, h2, h3, h5⟩ hb => ⟨s, v, h1, h2, h3.more rsigned_more hb, h5⟩
theorem SlR.later {α : Type} {R : World → Nat → List Value → α → Prop} {sz : Nat} {w w' : World} {v : Value} {xs : List α} (hk : KeptR R) (hm : MoreR R) (h : SlR R sz w w.heap.size v xs) (hb : Below w.heap.size w w') : SlR R sz w' w'.heap.size v xs := (h.keep hk hb).more hm hb.size
/-- A datum at its place. -/
theorem datum_at {w : World} {B : Nat} {v : Value} {xs : List Np.Datum} (h : SlR RDatum 3 w B v xs) {k : Nat} {x : Np.Datum} (hx : xs[k]? = some x) : ∃ (b o c : Nat) (s : ByteArray), v = .slice (some ⟨b, o, none⟩) xs.length c ∧ b < B ∧ xs.length ≤ c ∧ s.data.toList = x.text ∧ s.size ≤ 140737488355328 ∧
    w.cell? ⟨b, o + k * 3, none⟩ = some (.string s) ∧ w.cell? ⟨b, o + k * 3 + 1, none⟩ = some (.int .i64 x.n) ∧ w.cell? ⟨b, o + k * 3 + 2, none⟩ = some (.int .i64 x.m) := by
  obtain ⟨A, c, rfl, hc, _, he⟩ := h
  obtain ⟨b, o, e, rfl, hb, _, hce, s, h1, h2, rfl⟩ := he k x hx
  exact ⟨b, o, c, s, rfl, hb, hc, h1, h2, by have := hce 0 _ rfl; simpa using this, hce 1 _ rfl, hce 2 _ rfl⟩
/-- A signed set at its place. -/
theorem signed_at {w : World} {B : Nat} {v : Value} {xs : List Np.Signed} (h : SlR RSigned 5 w B v xs) {k : Nat} {x : Np.Signed} (hx : xs[k]? = some x) : ∃ (b o c : Nat) (s : ByteArray) (dv sv : Value), v = .slice (some ⟨b, o, none⟩) xs.length c ∧ b < B ∧ xs.length ≤ c ∧ s.data.toList = x.set.name ∧ s.size ≤ 140737488355328 ∧ SlR RDatum 3 w B dv x.set.data ∧ SlR RSig 6 w B sv x.sigs ∧
    w.cell? ⟨b, o + k * 5, none⟩ = some (.string s) ∧ w.cell? ⟨b, o + k * 5 + 1, none⟩ = some (.int .i64 x.set.type) ∧ w.cell? ⟨b, o + k * 5 + 2, none⟩ = some (.int .i64 x.set.life) ∧ w.cell? ⟨b, o + k * 5 + 3, none⟩ = some dv ∧ w.cell? ⟨b, o + k * 5 + 4, none⟩ = some sv := by
  obtain ⟨A, c, rfl, hc, _, he⟩ := h
  obtain ⟨b, o, e, rfl, hb, _, hce, s, dv, sv, h1, h2, h3, h4, rfl⟩ := he k x hx
  exact ⟨b, o, c, s, dv, sv, rfl, hb, hc, h1, h2, h3, h4, by have := hce 0 _ rfl; simpa using this, hce 1 _ rfl, hce 2 _ rfl, hce 3 _ rfl, hce 4 _ rfl⟩
/-- A zone at its place. -/
theorem zone_at {w : World} {B : Nat} {v : Value} {xs : List Np.Zone} (h : SlR RZone 2 w B v xs) {k : Nat} {x : Np.Zone} (hx : xs[k]? = some x) : ∃ (b o c : Nat) (s : ByteArray) (sv : Value), v = .slice (some ⟨b, o, none⟩) xs.length c ∧ b < B ∧ xs.length ≤ c ∧ s.data.toList = x.apex ∧ s.size ≤ 140737488355328 ∧ SlR RSigned 5 w B sv x.sets ∧
    w.cell? ⟨b, o + k * 2, none⟩ = some (.string s) ∧ w.cell? ⟨b, o + k * 2 + 1, none⟩ = some sv := by
  obtain ⟨A, c, rfl, hc, _, he⟩ := h
  obtain ⟨b, o, e, rfl, hb, _, hce, s, sv, h1, h2, h3, rfl⟩ := he k x hx
  exact ⟨b, o, c, s, sv, rfl, hb, hc, h1, h2, h3, by have := hce 0 _ rfl; simpa using this, hce 1 _ rfl⟩
theorem slr_form {α : Type} {R : World → Nat → List Value → α → Prop} {sz : Nat} {w : World} {B : Nat} {v : Value} {xs : List α} (h : SlR R sz w B v xs) : ∃ A c, v = .slice A xs.length c ∧ xs.length ≤ c ∧ xs.length ≤ 140737488355328 := by
  obtain ⟨A, c, h1, h2, h3, _⟩ := h
  exact ⟨A, c, h1, h2, h3⟩
end Go.Proofs.YtnbolgdccdnjeaaGreatDoor
