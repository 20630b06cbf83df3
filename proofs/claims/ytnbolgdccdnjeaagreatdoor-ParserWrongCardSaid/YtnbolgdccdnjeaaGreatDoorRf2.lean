/- Contracts of the reference of layer 1: names in parts. -/
import Derived.Test.YtnbolgdccdnjeaaGreatDoorKA
import Derived.Test.YtnbolgdccdnjeaaGreatDoorNA
import Derived.Test.YtnbolgdccdnjeaaGreatDoorPA
import Derived.IntWalk
namespace Go.Proofs.YtnbolgdccdnjeaaGreatDoor
open Go.RowKit
theorem splitDots_dot (l : List UInt8) : Np.splitDots (l ++ [46]) = Np.splitDots l ++ [[]] := Np.splitDots_app l []
theorem splitDots_snoc : ∀ (l : List UInt8) (c : UInt8) (pre : List (List UInt8)) (x : List UInt8), c ≠ 46 → Np.splitDots l = pre ++ [x] → Np.splitDots (l ++ [c]) = pre ++ [x ++ [c]] := by
  intro l
  induction l with
  | nil =>
    intro c pre x hc h
    have h2 : ([[]] : List (List UInt8)) = pre ++ [x] := h
    cases pre with
    | nil => simp at h2; subst h2; simp [Np.splitDots, hc]
    | cons a pre => simp at h2
  | cons a r ih =>
    intro c pre x hc h
    rw [List.cons_append]
    rw [Np.splitDots] at h ⊢
    by_cases ha : a = 46
    · rw [if_pos ha] at h ⊢
      cases pre with
      | nil => simp at h; exact absurd h.2 (Np.splitDots_ne r)
      | cons b pre =>
        simp only [List.cons_append, List.cons.injEq] at h
        rw [ih c pre x hc h.2, ← h.1]; rfl
    · rw [if_neg ha] at h ⊢
      have hne := Np.splitDots_ne r
      cases hr : Np.splitDots r with
      | nil => exact absurd hr hne
      | cons y ys =>
        rw [hr] at h
        simp only at h
        cases pre with
        | nil =>
          simp only [List.nil_append, List.cons.injEq] at h
          obtain ⟨rfl, rfl⟩ := h
          rw [ih c [] y hc (by rw [hr]; rfl)]; rfl
        | cons b pre =>
          simp only [List.cons_append, List.cons.injEq] at h
          obtain ⟨rfl, rfl⟩ := h
          rw [ih c (y :: pre) x hc (by rw [hr]; rfl)]; rfl
/-- A text in one cell. -/
def RSt (_ : World) (_ : Nat) (e : List Value) (x : List UInt8) : Prop := e = [strs x]
/-- A slice comes back that reads as xs. -/
def GivesR {α : Type} (R : World → Nat → List Value → α → Prop) (sz : Nat) (w : World) (xs : List α) (e : Ending) (w' : World) : Prop := ∃ v, e = .returned v ∧ SlR R sz w' w'.heap.size v xs ∧ Below w.heap.size w w'
/-- One element of a row of the call's own is turned. -/
theorem ownsRow_set {W : World} {base : Nat} {e : TypeId} {g cap n : Nat} {xs : List Value} (h : W.ownsRow base e 1 (.slice (some ⟨g, 0, none⟩) n cap) n xs) (j : Nat) (hj : j < n) (u : Value) :
    W.cell? ⟨g, j, none⟩ = xs[j]? ∧ W.frozen? ⟨g, j, none⟩ = false ∧ g < W.heap.size ∧ base ≤ g ∧ (W.setCell ⟨g, j, none⟩ u).ownsRow base e 1 (.slice (some ⟨g, 0, none⟩) n cap) n (xs.set j u) := by
  obtain ⟨h1, h2⟩ := h
  rcases h2 with ⟨h2, _⟩ | ⟨g', cap', cur, h2, hb, hg, hn, hm, hs, ht⟩
  · cases h2
  · simp only [Value.slice.injEq, Option.some.injEq, Addr.mk.injEq, and_true, true_and] at h2
    obtain ⟨rfl, rfl⟩ := h2
    have hlt := (Array.getElem?_eq_some_iff.1 hg).1
    refine ⟨?_, ?_, hlt, hb, by simpa using h1, .inr ⟨g, cap, cur.setIfInBounds j u, rfl, hb, ?_, hn, hm, by simpa using hs, ?_⟩⟩
    · rw [← ht]
      simp only [World.cell?, hg, Option.isSome_none, Bool.false_eq_true, if_false, List.getElem?_take]
      rw [if_pos (by omega)]; simp
    · simp [World.frozen?, hg]
    · simp only [World.setCell, Array.getElem?_modify, if_true, hg]; simp
    · rw [← ht, Array.toList_setIfInBounds, List.take_set]
theorem Tryz.infoStr : (Tryz.prog.info? 9).map (fun i => (i.zero, i.size, i.bytes)) = some (some (.string ⟨#[]⟩), 1, 16) := by kernel_rfl
def SplitRel (s : ByteArray) (w : World) (v i : Value) (wr : World) : Prop :=
  ∃ (k : Nat) (pre : List (List UInt8)) (x : List UInt8), k ≤ s.size ∧ i = .int .i64 k ∧ Np.splitDots (s.data.toList.take k) = pre ++ [x] ∧ pre.length ≤ k ∧ wr.ownsRow w.heap.size 9 1 v (pre.length + 1) (pre.map strs ++ [strs x]) ∧ Below w.heap.size w wr
theorem strs_add (x : List UInt8) (s : ByteArray) (k : Nat) (hk : k < s.size) : Value.string ((⟨x.toArray⟩ : ByteArray) ++ s.extract k (k + 1)) = strs (x ++ [s[k]]) := by
  show Value.string _ = Value.string _
  congr 1
  apply str_ext
  have : (s.extract k (k + 1)).data.toList = [s[k]] := by
    rw [ext_list, take_snoc s k hk, List.drop_append_of_le_length (by rw [List.length_take, size_list]; omega), List.drop_of_length_le (by rw [List.length_take, size_list]; omega), List.nil_append]
  rw [ByteArray.data_append, Array.toList_append, this]
set_option maxRecDepth 100000 in
set_option maxHeartbeats 2000000 in
theorem refSplit_any (s : ByteArray) (hs : s.size ≤ 1000000) (w : World) : Calls Tryz.prog 77 #[.string s] w (GivesR RSt 1 w (Np.splitDots s.data.toList)) := by
  obtain ⟨i0, hi, hz0, hz1, hz2⟩ := info_parts Tryz.infoStr
  go_enter Tryz.func77, Tryz.ntmps77
  go_wp2
  go_loopw [3, 4] (fun v i wr => SplitRel s w v i wr) (fun _ i _ => s.size - (intOf i).toNat)
  case atStart =>
    refine ⟨0, [], [], Nat.zero_le _, rfl, rfl, Nat.le_refl _, ⟨rfl, .inr ⟨w.heap.size, 1, #[.string ⟨#[]⟩], rfl, Nat.le_refl _, heap_alloc_new _ _, by simp, by simp [maxLen], rfl, rfl⟩⟩, (Below.refl _ _).alloc (Nat.le_refl _) _⟩
  case round =>
    obtain ⟨k, pre, x, hk, rfl, hsp, hpl, hown, hB⟩ := hrel
    obtain ⟨g, cap, rfl⟩ := ownsRow_succ hown
    have hsz := hB.size
    have HB := Lib.hid hB
    have HO := Lib.hid hown
    have HS := Lib.hid hsp
    clear hB hown hsp
    by_cases hlt : k < s.size
    · have hb := u8_bd s[k]
      have hts := take_snoc s k hlt
      have HT := Lib.hid hts
      clear hts
      by_cases h46 : (s[k].toNat : Int) = 46
      · have he : ((s[k].toNat : Int) == 46) = true := by simp [h46]
        have hc : s[k] = 46 := by apply UInt8.toNat_inj.1; have : s[k].toNat = 46 := by omega
                                  rw [this]; rfl
        have HC := Lib.hid hc
        clear hc h46
        go_wp2_with (at_builtin; refine wpList_append_own_at _ rfl _ _ 64 rfl w.heap.size 9 i0 (.string ⟨#[]⟩) 1 16 Tryz.underlying64 hi hz0 hz1 hz2 rfl (by decide) _ _ _ rfl (HO.out.alloc _) ⟨wr.heap.size, 0, none⟩ 1 1 [.string ⟨#[]⟩] rfl rfl (cell_one_new _ _ _) (by simp [Value.oneCell']) (by unfold maxLen; omega) (by omega) (by simp; omega) ?_; intro v1 w1 hown1 hg1 _ hat1; have H1 := Lib.hid (And.intro hown1 hg1); clear hown1 hg1 hat1)
        go_roundw
        case rel =>
          obtain ⟨o1, g1⟩ := H1.out
          have hlo := (HO.out.lt g rfl).1
          refine ⟨k + 1, pre ++ [x], [], by omega, by go_num, ?_, by simp; omega, ?_, ?_⟩
          · rw [HT.out, HC.out, splitDots_dot, HS.out]
          · simpa using o1
          · exact (HB.out.alloc (by omega) _).grown g1 (by simp; omega) (fun j hj => by have e : g = j := Option.some.inj hj; omega)
        case measure => simp [intOf] <;> omega
      · have he : ((s[k].toNat : Int) == 46) = false := by simp [h46]
        have hc : s[k] ≠ 46 := fun e => h46 (by rw [e]; rfl)
        have HC := Lib.hid hc
        clear hc h46
        obtain ⟨q1, q2, q3, q4, q5⟩ := ownsRow_set HO.out pre.length (by omega) (strs (x ++ [s[k]]))
        have hcell : wr.cell? ⟨g, pre.length, none⟩ = some (strs x) := by rw [q1]; simp
        have HQ5 := Lib.hid q5
        have hadd := strs_add x s k hlt
        clear q1 q5
        have hxl : x.length ≤ k := by
          have h1 := Np.splitDots_len (l := s.data.toList.take k) (y := x) (by rw [HS.out]; simp)
          rw [List.length_take] at h1; omega
        have hno : ¬ 9223372036854775807 < x.length + (min (k + 1) s.size - k) := by omega
        have hw1 : IntKind.i64.wrap (pre.length : Int) = pre.length := IntWalk.i64_in _ (by omega)
        have hw2 : IntKind.i64.wrap ((k : Int) + 1) = k + 1 := IntWalk.i64_in _ (by omega)
        have hp0 : (0 : Int) ≤ (pre.length : Int) := by omega
        have hp1 : (pre.length : Int) < (pre.length : Int) + 1 := by omega
        have hk0 : (0 : Int) ≤ (k : Int) := by omega
        have hk1 : (k : Int) + 1 ≤ (s.size : Int) := by omega
        have hk2 : ((k : Int) + 1).toNat = k + 1 := by omega
        have hk3 : (0 : Int) ≤ (k : Int) + 1 := by omega
        have hk4 : (k : Int) ≤ (k : Int) + 1 := by omega
        go_wp2_with fail
        refine wp_region_tail 17 (by kernel_rfl) (by kernel_rfl) ?_
        simp only [List.take_succ_cons, List.take_zero, List.drop_succ_cons, List.drop_zero]
        iterate 17 still_step
        refine wpStill_nil ?_
        go_wp2_with fail
        go_roundw
        case rel =>
          refine ⟨k + 1, pre, x ++ [s[k]], by omega, by go_num, ?_, by omega, ?_, ?_⟩
          · rw [HT.out]; exact splitDots_snoc _ _ _ _ HC.out HS.out
          · have h5 : (wr.setCell ⟨g, pre.length, none⟩ (strs (x ++ [s[k]]))).ownsRow w.heap.size 9 1 (.slice (some ⟨g, 0, none⟩) (pre.length + 1) cap) (pre.length + 1) (pre.map strs ++ [strs (x ++ [s[k]])]) := by
              have := HQ5.out
              simpa using this
            exact h5
          · exact (HB.out.setCell (p := ⟨g, pre.length, none⟩) q4 _).drew
        case measure => simp [intOf] <;> omega
    · go_wp2_with fail
      go_ret
      refine ⟨_, rfl, ?_, HB.out⟩
      have hall : Np.splitDots s.data.toList = pre ++ [x] := by have := HS.out; rwa [take_all s k (by omega)] at this
      rw [hall]
      refine slr_of_own (sz := 1) (e := 9) (base := w.heap.size) (fun x => [strs x]) (fun _ _ => rfl) ?_ (by simp; omega) (fun _ _ => rfl)
      have := HO.out
      simpa [map_flat] using this
/-- A slice of texts, at one place. -/
theorem str_at {w : World} {B : Nat} {v : Value} {xs : List (List UInt8)} (h : SlR RSt 1 w B v xs) {k : Nat} {x : List UInt8} (hx : xs[k]? = some x) : ∃ b o c, v = .slice (some ⟨b, o, none⟩) xs.length c ∧ b < B ∧ xs.length ≤ c ∧ w.cell? ⟨b, o + k, none⟩ = some (strs x) := by
  obtain ⟨A, c, rfl, hc, _, he⟩ := h
  obtain ⟨b, o, e, rfl, hb, _, hce, rfl⟩ := he k x hx
  exact ⟨b, o, c, rfl, hb, hc, by have := hce 0 _ rfl; simpa using this⟩
end Go.Proofs.YtnbolgdccdnjeaaGreatDoor
