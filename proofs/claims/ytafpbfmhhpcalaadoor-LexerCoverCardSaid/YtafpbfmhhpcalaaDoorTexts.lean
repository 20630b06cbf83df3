/- The texts of tokens: the reference's Decimal, Text and Alike. -/
import Derived.Test.YtafpbfmhhpcalaaDoorHead03
import Derived.Test.YtafpbfmhhpcalaaDoorLexPlain4
namespace Go.Proofs.YtafpbfmhhpcalaaDoor
open Go.RowKit
theorem bytesOf_app (a b : List UInt8) : bytesOf a ++ bytesOf b = bytesOf (a ++ b) := by
  apply str_ext; simp [bytesOf]
theorem decimal_len : ∀ n : Nat, (Np.decimal n).length ≤ n + 1 := by
  intro n
  induction n using Nat.strongRecOn with
  | ind n ih =>
    rw [Np.decimal]
    split
    · simp
    · have := ih (n / 10) (by omega)
      simp only [List.length_append, List.length_singleton]; omega
set_option maxRecDepth 100000 in
set_option maxHeartbeats 2000000 in
theorem decimal_any (n : Nat) (hn : n ≤ 1000000000) (w : World) :
    Calls Tryd.prog 58 #[.int .i64 n] w fun e w' => e = .returned (.string (bytesOf (Np.decimal n))) ∧ w = w' := by
  induction n using Nat.strongRecOn with
  | ind n ih =>
    have HI := Lib.hid ih
    clear ih
    by_cases h : n < 10
    · have hI : (n : Int) < 10 := by omega
      have hcs : n = 0 ∨ n = 1 ∨ n = 2 ∨ n = 3 ∨ n = 4 ∨ n = 5 ∨ n = 6 ∨ n = 7 ∨ n = 8 ∨ n = 9 := by omega
      rcases hcs with rfl | rfl | rfl | rfl | rfl | rfl | rfl | rfl | rfl | rfl
      all_goals
        go_enter Tryd.func58, Tryd.ntmps58
        go_wp2_with fail
        go_ret
        exact ⟨by rw [Np.decimal, if_pos (by decide)]; rfl, rfl⟩
    · have hI : (10 : Int) ≤ (n : Int) := by omega
      have hsz : (bytesOf (Np.decimal (n / 10))).size ≤ 1000000000 := by
        have := decimal_len (n / 10)
        rw [← size_list]; simp [bytesOf]; omega
      have hD : Hid (Np.decimal n = Np.decimal (n / 10) ++ [UInt8.ofNat (48 + n % 10)]) := Lib.hid (by rw [Np.decimal, if_neg h])
      have hq : ¬ (9223372036854775807 < (bytesOf (Np.decimal (n / 10))).size + 1) := by omega
      have hcs : (n : Int) % 10 = 0 ∨ (n : Int) % 10 = 1 ∨ (n : Int) % 10 = 2 ∨ (n : Int) % 10 = 3 ∨ (n : Int) % 10 = 4 ∨ (n : Int) % 10 = 5 ∨ (n : Int) % 10 = 6 ∨ (n : Int) % 10 = 7 ∨ (n : Int) % 10 = 8 ∨ (n : Int) % 10 = 9 := by omega
      rcases hcs with hm | hm | hm | hm | hm | hm | hm | hm | hm | hm
      all_goals
        have hdv : (n : Int) / 10 = ((n / 10 : Nat) : Int) := by omega
        have hmn : n % 10 = ((n : Int) % 10).toNat := by omega
        rw [hm] at hmn
        have HMN := Lib.hid hmn
        have HDV := Lib.hid hdv
        clear hmn hdv
        go_enter Tryd.func58, Tryd.ntmps58
        go_wp2_with fail
        rw [HDV.out]
        refine (HI.out (n / 10) (by omega) (by omega)).mono ?_
        rintro e w1 ⟨rfl, rfl⟩
        go_wp2_with fail
        go_ret
        refine ⟨?_, rfl⟩
        rw [hD.out, HMN.out, ← bytesOf_app]
        rfl
/-- A token's numbers. -/
def TokIn (t : Np.Tok) : Prop := 1 ≤ t.kind ∧ t.kind ≤ 3 ∧ 0 ≤ t.n ∧ t.n ≤ 1000000000
set_option maxRecDepth 100000 in
set_option maxHeartbeats 2000000 in
theorem text_any (t : Np.Tok) (ht : TokIn t) (w : World) :
    Calls Tryd.prog 22 #[.agg (tokVal t)] w fun e w' => e = .returned (.string (bytesOf (Np.textOf t))) ∧ Below w.heap.size w w' := by
  have hb1 : ∀ o, Below w.heap.size w (w.alloc o) := fun o => (Below.refl _ w).alloc (Nat.le_refl _) _
  have HB1 := Lib.hid hb1
  clear hb1
  obtain ⟨k, x, n, p⟩ := t
  obtain ⟨t1, t2, t3, t4⟩ := ht
  simp only at t1 t2 t3 t4
  simp only [tokVal]
  by_cases h : k = 2
  · subst h
    have HT : Hid (Np.textOf ⟨2, x, n, p⟩ = Np.decimal n.toNat) := Lib.hid rfl
    obtain ⟨m, rfl⟩ : ∃ m : Nat, n = m := ⟨n.toNat, by omega⟩
    rw [Int.toNat_natCast] at HT
    go_enter Tryd.func22, Tryd.ntmps22
    go_wp2_with fail
    refine (decimal_any m (by omega) _).mono ?_
    rintro e w1 ⟨rfl, rfl⟩
    go_wp2_with fail
    go_ret
    rw [HT.out]
    exact ⟨rfl, HB1.out _⟩
  · have HT : Hid (Np.textOf ⟨k, x, n, p⟩ = x) := Lib.hid (by simp [Np.textOf, h])
    have h2 : (k == 2) = false := by simpa using h
    clear h
    go_enter Tryd.func22, Tryd.ntmps22
    go_wp2_with fail
    go_ret
    rw [HT.out]
    exact ⟨rfl, HB1.out _⟩
theorem core_at {xs ys : List Np.Tok} (h : ys.map Np.core = xs.map Np.core) {k : Nat} (hk : k < xs.length) : ∃ y, ys[k]? = some y ∧ y.kind = (xs[k]).kind ∧ y.text = (xs[k]).text ∧ y.n = (xs[k]).n := by
  have h1 : (ys.map Np.core)[k]? = some (Np.core xs[k]) := by rw [h, List.getElem?_map, List.getElem?_eq_getElem hk]; rfl
  rw [List.getElem?_map] at h1
  cases hy : ys[k]? with
  | none => rw [hy] at h1; cases h1
  | some y =>
    rw [hy] at h1
    simp only [Option.map_some, Option.some.injEq, Np.core, Np.Tok.mk.injEq, and_true] at h1
    exact ⟨y, rfl, h1.1, h1.2.1, h1.2.2⟩
set_option maxRecDepth 100000 in
set_option maxHeartbeats 2000000 in
theorem alike_yes (u v : Value) (xs ys : List Np.Tok) (hy : ys.map Np.core = xs.map Np.core) (w : World) (hu : SlR RTok 4 w w.heap.size u xs) (hv : SlR RTok 4 w w.heap.size v ys) :
    Calls Tryd.prog 24 #[u, v] w fun e w' => e = .returned (.bool true) ∧ Below w.heap.size w w' := by
  have HU := Lib.hid hu
  have HV := Lib.hid hv
  have HY := Lib.hid hy
  have hlen : ys.length = xs.length := by have := congrArg List.length hy; simpa using this
  obtain ⟨A, c, rfl, hc1, hl1, _⟩ := hu
  obtain ⟨A2, c2, rfl, hc2, hl2, _⟩ := hv
  rw [hlen] at HV hc2 ⊢
  clear hy hlen hl2
  have hnn : ((xs.length : Int) != (xs.length : Int)) = false := by simp
  go_enter Tryd.func24, Tryd.ntmps24
  go_wp2_with fail
  go_loopw [5] (fun i wr => ∃ k : Nat, k ≤ xs.length ∧ i = .int .i64 k ∧ Hid (Below w.heap.size w wr)) (fun i _ => xs.length - (intOf i).toNat)
  case atStart => exact ⟨0, Nat.zero_le _, rfl, Lib.hid (Below.refl _ _)⟩
  case round =>
    obtain ⟨k, hk, rfl, HB⟩ := hrel
    by_cases hlt : k < xs.length
    · obtain ⟨b, o, c', hA, hb, a0, a1, a2, a3⟩ := tok_at (HU.out.keep rtok_kept HB.out) (List.getElem?_eq_getElem hlt)
      cases hA
      obtain ⟨y, hky, y1, y2, y3⟩ := core_at HY.out hlt
      obtain ⟨b2, o2, c2', hA, hb2, d0, d1, d2, d3⟩ := tok_at (HV.out.keep rtok_kept HB.out) hky
      simp only [Value.slice.injEq] at hA
      obtain ⟨rfl, _, rfl⟩ := hA
      have hyl := (List.getElem?_eq_some_iff.1 hky).1
      rw [y1] at d0
      rw [y2] at d1
      rw [y3] at d2
      clear y1 y2 y3 hky a3 d3
      generalize xs[k] = t at *
      have hkI : (k : Int) < (xs.length : Int) := by omega
      have hkI2 : (k : Int) < (ys.length : Int) := by omega
      have hk0 : (0 : Int) ≤ (k : Int) := by omega
      go_wp2_with fail
      go_quiet (fail)
      go_wp2_with fail
      go_roundw
      case rel => exact ⟨k + 1, by omega, by go_num, Lib.hid (below_drewN HB.out _)⟩
      case measure => simp [intOf] <;> omega
    · go_wp2_with fail
      go_ret
      exact ⟨rfl, HB.out⟩
end Go.Proofs.YtafpbfmhhpcalaaDoor
