/- Contracts of package record: comparing data; which data are valid. -/
import Derived.Test.YtnbolgdccdnjeaaGreatDoorRec
namespace Go.Proofs.YtnbolgdccdnjeaaGreatDoor
open Go.RowKit

def orI : List Int → Int
  | [] => 0
  | x :: xs => if x ≠ 0 then x else orI xs
theorem orI_zero (xs : List Int) (h : ∀ x ∈ xs, x = 0) : orI xs = 0 := by
  induction xs with
  | nil => rfl
  | cons x r ih => rw [orI, if_neg (by simp [h x (by simp)])]; exact ih (fun y hy => h y (by simp [hy]))
theorem orI_hit (xs : List Int) (k : Nat) (hk : k < xs.length) (h : ∀ x ∈ xs.take k, x = 0) (hx : xs[k] ≠ 0) : orI xs = xs[k] := by
  induction xs generalizing k with
  | nil => simp at hk
  | cons x r ih =>
    cases k with
    | zero => simp at hx; simp [orI, hx]
    | succ k =>
      have h0 : x = 0 := h x (by simp)
      rw [orI, if_neg (by simp [h0])]
      simpa using ih k (by simpa using hk) (fun y hy => h y (by simp [hy])) (by simpa using hx)

set_option maxHeartbeats 1000000 in
theorem cmpOr_any (b c : Nat) (xs : List Int) (hl : xs.length ≤ 1000) (w : World) (hc : ∀ i x, xs[i]? = some x → w.cell? ⟨b, i, none⟩ = some (.int .i64 x)) :
    Calls Tryz.prog 106 #[.slice (some ⟨b, 0, none⟩) xs.length c] w fun e w' => e = .returned (.int .i64 (orI xs)) ∧ w = w' := by
  have HC := Lib.hid hc
  clear hc
  go_enter Tryz.func106, Tryz.ntmps106
  go_wp2
  go_loop [8] (fun i => ∃ k : Nat, k ≤ xs.length ∧ i = .int .i64 k ∧ Hid (∀ x ∈ xs.take k, x = 0)) (fun i => xs.length - (intOf i).toNat)
  case atStart => exact ⟨0, Nat.zero_le _, rfl, Lib.hid (by simp)⟩
  case round =>
    obtain ⟨k, hk, rfl, HA⟩ := hrel
    by_cases hlt : k < xs.length
    · have hcell : w.cell? ⟨b, k, none⟩ = some (.int .i64 xs[k]) := HC.out k _ (List.getElem?_eq_getElem hlt)
      go_wp2
      · have hne : (xs[k] != 0) = true := by assumption
        go_ret
        exact ⟨ret_int (orI_hit xs k hlt HA.out (by simpa using hne)).symm, rfl⟩
      · have hne : (xs[k] != 0) = false := by assumption
        go_round
        case rel =>
          refine ⟨k + 1, by omega, by go_num, Lib.hid ?_⟩
          rw [List.take_succ_eq_append_getElem hlt]
          intro x hx
          rcases List.mem_append.1 hx with h | h
          · exact HA.out x h
          · simp at h; subst h; simpa using hne
        case measure => simp [intOf] <;> omega
    · go_wp2
      go_ret
      exact ⟨ret_int (orI_zero xs (by have := HA.out; rwa [List.take_of_length_le (by omega)] at this)).symm, rfl⟩

theorem cmpD_eq (a b : Np.Datum) : Np.cmpD a b = orI [Np.cmpS a.text b.text, Np.cmpI a.n b.n, Np.cmpI a.m b.m] := by
  simp only [Np.cmpD, orI]
  split
  · rfl
  · split
    · rfl
    · split
      · rfl
      · rename_i h; simpa using h

set_option maxRecDepth 100000 in
set_option maxHeartbeats 1000000 in
theorem compareData_any (s t : ByteArray) (n1 m1 n2 m2 : Int) (w : World) :
    Calls Tryz.prog 64 #[.agg #[.string s, .int .i64 n1, .int .i64 m1], .agg #[.string t, .int .i64 n2, .int .i64 m2]] w
      fun e w' => e = .returned (.int .i64 (Np.cmpD ⟨s.data.toList, n1, m1⟩ ⟨t.data.toList, n2, m2⟩)) ∧ Below w.heap.size w w' := by
  rw [cmpD_eq]
  go_enter Tryz.func64, Tryz.ntmps64
  go_wp2
  refine wp_region_tail 15 (by kernel_rfl) (by kernel_rfl) ?_
  simp only [List.take_succ_cons, List.take_zero, List.drop_succ_cons, List.drop_zero]
  iterate 4 still_step
  still_call (Calls.still_same (cmpS_any _ _ _))
  iterate 4 still_step
  still_call (Calls.still_same (cmpI_any _ _ _))
  iterate 4 still_step
  still_call (Calls.still_same (cmpI_any _ _ _))
  refine wpStill_nil ?_
  go_wp2_with fail
  refine (cmpOr_any (w.heap.size + 1 + 1) 3 [Np.cmpS s.data.toList t.data.toList, Np.cmpI n1 n2, Np.cmpI m1 m2] (by simp) _ ?_).mono ?_
  · intro i x hx
    match i, hx with
    | 0, hx => simp at hx; subst hx; go_simp
    | 1, hx => simp at hx; subst hx; go_simp
    | 2, hx => simp at hx; subst hx; go_simp
    | i + 3, hx => simp at hx
  · rintro e w' ⟨rfl, rfl⟩
    go_wp2_with fail
    go_ret
    exact ⟨rfl, ((((Below.refl _ w).alloc (Nat.le_refl _) _).alloc (by simp) _).alloc (by simp; omega) _).drew⟩

def ruleVal (r : Np.Rule) : Array Value := #[.int .i64 r.text, .int .i64 r.leastN, .int .i64 r.mostN, .int .i64 r.leastM, .int .i64 r.mostM, .bool r.even, .bool r.single, .bool r.wild]

set_option maxRecDepth 100000 in
set_option maxHeartbeats 1000000 in
theorem validDatum_any (k ln mn lm mm : Int) (ev si wi : Bool) (s : ByteArray) (hs : s.size ≤ 140737488355328) (n m : Int) (w : World) :
    Calls Tryz.prog 63 #[.agg #[.int .i64 k, .int .i64 ln, .int .i64 mn, .int .i64 lm, .int .i64 mm, .bool ev, .bool si, .bool wi], .agg #[.string s, .int .i64 n, .int .i64 m]] w
      fun e w' => e = .returned (.bool (Np.validDatum ⟨k, ln, mn, lm, mm, ev, si, wi⟩ ⟨s.data.toList, n, m⟩)) ∧ Below w.heap.size w w' := by
  go_enter Tryz.func63, Tryz.ntmps63
  go_wp2_with (first
    | (go_at_call 61; refine (within_int _ _ _ _).mono ?_; rintro e w' ⟨rfl, rfl⟩)
    | (go_at_call 24; refine (nameValid_any _ hs _).mono ?_; rintro e w' ⟨rfl, hb⟩; obtain ⟨hc, hf⟩ := bcell hb)
    | (go_at_call 62; refine (isWildcard_any _ hs _).mono ?_; rintro e w' ⟨rfl, rfl⟩)
    | (go_at_call 105; refine (isFree_any _ hs _).mono ?_; rintro e w' ⟨rfl, rfl⟩))
  all_goals
    go_ret
    go_light
    refine ⟨ret_bool ?_, ?_⟩
    · simp_all [Np.validDatum, Np.validText, ByteArray.toList_eq] <;> (intros; omega)
    · first
        | exact ((Below.refl _ w).alloc (Nat.le_refl _) _).alloc (by simp) _
        | exact (((Below.refl _ w).alloc (Nat.le_refl _) _).alloc (by simp) _).trans (hb.mono (by simp; omega))
end Go.Proofs.YtnbolgdccdnjeaaGreatDoor
