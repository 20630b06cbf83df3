/- Contract of resign.Times: the iterator. -/
import Derived.Test.YtafpbfmhhpcalaaDoorResign2
namespace Go.Proofs.YtafpbfmhhpcalaaDoor
open Go.RowKit Go.Shelf
attribute [local go_sem] Oper.semAt_some

def upTo (b k : Int) (j : Nat) : List Int := (List.range j).map fun (i : Nat) => b + i * k
theorem upTo_succ (b k : Int) (j : Nat) : upTo b k (j + 1) = upTo b k j ++ [b + j * k] := by simp [upTo, List.range_succ]
theorem upTo_len (b k : Int) (j : Nat) : (upTo b k j).length = j := by simp [upTo]
theorem times_lt (b s k : Int) (hk : 1 ≤ k) (j : Nat) : j < (Np.timesFrom b s k).length ↔ b + j * k < s := by
  have hk0 : 0 < k := by omega
  simp only [Np.timesFrom, List.length_map, List.length_range]
  rw [Int.lt_toNat]
  have h := Int.le_ediv_iff_mul_le (a := (j : Int) + 1) (b := s - b + k - 1) hk0
  rw [Int.add_mul] at h
  constructor
  · intro hlt; have := h.1 (by omega); omega
  · intro hlt; have := h.2 (by omega); omega
theorem times_pre (b s k : Int) (j : Nat) (hj : j ≤ (Np.timesFrom b s k).length) : upTo b k j <+: Np.timesFrom b s k := by
  unfold Np.timesFrom upTo at *
  simp only [List.length_map, List.length_range] at hj
  obtain ⟨d, hd⟩ : ∃ d, ((s - b + k - 1) / k).toNat = j + d := ⟨((s - b + k - 1) / k).toNat - j, by omega⟩
  rw [hd, List.range_add, List.map_append]
  exact List.prefix_append _ _
theorem times_all (b s k : Int) (j : Nat) (hj : j = (Np.timesFrom b s k).length) : upTo b k j = Np.timesFrom b s k := by
  unfold Np.timesFrom upTo at *
  simp only [List.length_map, List.length_range] at hj
  rw [hj]
theorem times_j (b s k : Int) (hk : 1 ≤ k) (hb : 0 ≤ b) (hs : s ≤ 10000000) (j : Nat) (h : b + j * k < s) : (j : Int) < 10000000 := by
  have : (j : Int) * 1 ≤ j * k := Int.mul_le_mul_of_nonneg_left hk (by omega)
  omega

def TimesRel (b s k : Int) (bx : Nat) (J : List Int → (Nat → Prop) → World → Prop) (S : Nat → Prop) (W : World) (v : Value) (wr : World) : Prop :=
  ∃ (j : Nat) (S1 : Nat → Prop), v = .int .i64 (b + j * k) ∧ j ≤ (Np.timesFrom b s k).length ∧ J (upTo b k j) S1 wr ∧ (∀ i, S1 i → i < wr.heap.size) ∧ ¬ S1 bx ∧ (∀ i, S1 i → S i ∨ W.heap.size ≤ i) ∧
    wr.heap[bx]? = some (.cells #[.int .i64 b, .int .i64 s, .int .i64 k] 77 (0, 0))

set_option maxHeartbeats 1000000 in
theorem times_iter (b s k : Int) (hk : 1 ≤ k) (hk2 : k ≤ 20000000) (hb : 0 ≤ b) (hs : s ≤ 10000000) (hb2 : b ≤ 10000000) (n₀ : Nat) (w : World) :
    Iter Tryd.prog 34 (fun y => #[.agg #[.int .i64 b, .int .i64 s, .int .i64 k], y]) (fun x : Int => #[.int .i64 x]) (Np.timesFrom b s k) n₀ w := by
  intro l J Jx S W hW hJ hJx hY hS hS' h0
  refine callsIn_of_wp Tryd.func34 rfl trivial ?_ rfl
  simp only [Tryd.ntmps34, List.size_toArray, List.length_cons, List.length_nil, Nat.reduceAdd, Nat.reduceSub, Array.replicate_succ, Array.replicate_zero, List.push_toArray, List.append_toArray, List.nil_append, List.cons_append]
  gi_wp2_with fail
  gi_loopw [4] (fun v wr => TimesRel b s k W.heap.size J S W v wr) (fun v _ => (s - intOf v).toNat)
  case atStart =>
    refine ⟨0, S, by simp, Nat.zero_le _, hJ _ _ _ _ h0 (it_alloc _), fun i e => by have := hS' i e; simp; omega, fun e => by have := hS' _ e; omega, fun _ e => .inl e, World.alloc_heap_new W _⟩
  case round =>
    obtain ⟨j, S1, rfl, hj, hJ1, hlt1, hnb, hsub, hbx⟩ := hrel
    have hszr : W.heap.size < wr.heap.size := (Array.getElem?_eq_some_iff.1 hbx).1
    have b0 : wr.cell? ⟨W.heap.size, 0, none⟩ = some (.int .i64 b) := by simp [World.cell?, hbx]
    have b1 : wr.cell? ⟨W.heap.size, 1, none⟩ = some (.int .i64 s) := by simp [World.cell?, hbx]
    have b2 : wr.cell? ⟨W.heap.size, 2, none⟩ = some (.int .i64 k) := by simp [World.cell?, hbx]
    have HBX := Lib.hid hbx
    clear hbx
    by_cases hlt : b + j * k < s
    · have hjl := (times_lt b s k hk j).2 hlt
      have hpx : upTo b k j ++ [b + j * k] <+: Np.timesFrom b s k := by rw [← upTo_succ]; exact times_pre b s k (j + 1) hjl
      obtain ⟨fn, tmps, assign, body, hy, hR⟩ := hY (upTo b k j) (b + j * k) S1 wr hpx hJ1 hlt1 (by omega)
      have HP := Lib.hid hpx
      clear hpx hjl
      have hmul : 0 ≤ (j : Int) * k := Int.mul_nonneg (by omega) (by omega)
      generalize hq : (j : Int) * k = q at *
      have HQ := Lib.hid hq
      clear hq
      gi_wp2_with fail
      refine ⟨rfl, hR.mono ?_⟩
      rintro e W3 ⟨S3, hrd, hsub3, hlt3, (⟨rfl, hJ3⟩ | ⟨rfl, hJx3⟩)⟩
      · have hbx3 := (hrd.keep _ hszr hnb).trans HBX.out
        have d0 : W3.cell? ⟨W.heap.size, 0, none⟩ = some (.int .i64 b) := by simp [World.cell?, hbx3]
        have d1 : W3.cell? ⟨W.heap.size, 1, none⟩ = some (.int .i64 s) := by simp [World.cell?, hbx3]
        have d2 : W3.cell? ⟨W.heap.size, 2, none⟩ = some (.int .i64 k) := by simp [World.cell?, hbx3]
        have HB3 := Lib.hid hbx3
        clear hbx3
        gi_wp2_with fail
        go_roundw
        case rel =>
          refine ⟨j + 1, S3, ?_, ?_, ?_, hlt3, fun e => ?_, fun i e => ?_, HB3.out⟩
          · have : ((j + 1 : Nat) : Int) * k = q + k := by rw [← HQ.out]; push_cast; rw [Int.add_mul]; omega
            rw [this]; congr 1; omega
          · exact (times_lt b s k hk j).2 (by rw [HQ.out]; exact hlt)
          · rw [upTo_succ, HQ.out]; exact hJ3
          · rcases hsub3 _ e with e | e
            · exact hnb e
            · omega
          · rcases hsub3 _ e with e | e
            · exact hsub _ e
            · right; omega
        case measure => simp [intOf] <;> omega
      · gi_wp2_with fail
        refine bodyPost_ret (results_none rfl _ _ _) rfl ?_
        refine ⟨⟨_, rfl⟩, .inr ⟨_, S3, HP.out, hJx3, fun i e => ?_⟩⟩
        rcases hsub3 _ e with e | e
        · exact hsub _ e
        · right; omega
    · have hjn : j = (Np.timesFrom b s k).length := by
        have := mt (times_lt b s k hk j).1 hlt
        omega
      have HE := Lib.hid (times_all b s k j hjn)
      clear hjn hj
      have hmul : 0 ≤ (j : Int) * k := Int.mul_nonneg (by omega) (by omega)
      generalize hq : (j : Int) * k = q at *
      gi_wp2_with fail
      go_end0
      exact ⟨⟨_, rfl⟩, .inl ⟨S1, by rw [← HE.out]; exact hJ1, hsub⟩⟩
end Go.Proofs.YtafpbfmhhpcalaaDoor
