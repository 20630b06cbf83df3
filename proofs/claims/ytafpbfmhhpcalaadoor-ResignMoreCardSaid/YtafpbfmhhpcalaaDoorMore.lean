/- ResignMore: the walk. -/
import Derived.Test.YtafpbfmhhpcalaaDoorHead25
import Derived.Test.YtafpbfmhhpcalaaDoorMorePlain
namespace Go.Proofs.YtafpbfmhhpcalaaDoor
open Go.RowKit

/-- What a list that is handed back gives the walk: its length, and its first number. -/
theorem slr_first {w : World} {B : Nat} {v : Value} {x : Int} {r : List Int} (h : SlR RInt 1 w B v (x :: r)) : ∃ b o c, v = .slice (some ⟨b, o, none⟩) (r.length + 1) c ∧ b < B ∧ w.cell? ⟨b, o, none⟩ = some (.int .i64 x) ∧ r.length + 1 ≤ c := by
  obtain ⟨A, c, rfl, hc, _, he⟩ := h
  obtain ⟨b, o, e, rfl, hb, _, hce, rfl⟩ := he 0 x rfl
  exact ⟨b, o, c, rfl, hb, by have := hce 0 _ rfl; simpa using this, by simpa using hc⟩

set_option maxRecDepth 100000 in
set_option maxHeartbeats 4000000 in
theorem more_walk (b s l d f m k : Int) (hm : 0 ≤ m) (hm2 : m ≤ 65535) (hk : 0 ≤ k) (hk2 : k ≤ 65535) (w : World) (hR : RulesIn w w.heap.size) :
    Calls Tryd.prog 3 #[.int .i64 b, .int .i64 s, .int .i64 l, .int .i64 d, .int .i64 f, .int .u16 m, .int .u16 k] w fun e w' => e = .returned (.bool true) ∧ Below w.heap.size w w' := by
  have HR := Lib.hid hR
  clear hR
  go_enter Tryd.func3, Tryd.ntmps3
  go_wp2_with fail
  refine (head25_any _ HR.out).mono ?_
  rintro e w0 ⟨rfl, hb0⟩
  have HB0 := Lib.hid hb0
  have hz0 := hb0.size
  clear hb0
  go_wp2_with fail
  refine (times_any _ _ _ _ _ _).mono ?_
  rintro e w1 ⟨x1, rfl, hx1, hb1⟩
  have hz1 := hb1.size
  have HB1 := Lib.hid hb1
  clear hb1
  by_cases he : Np.timesErr b s l d f = 0
  · rw [he]
    obtain ⟨ha, hst, h400⟩ := Np.err_arg he
    obtain ⟨hd1, hd2, hs1, hs2, hb1, hb2, hl1, hl2, hf1, hf2⟩ := ha
    obtain ⟨hown1, hown2⟩ := Np.own_any he
    obtain ⟨hk1a, hk1b⟩ := Np.mod_le k f hf1
    obtain ⟨hk2a, hk2b⟩ := Np.mod_le k d hd1
    have A2 := Np.more_any (l' := l) (d' := d) (f' := k % (f + 1)) he ⟨hd1, hd2, hs1, hs2, hb1, hb2, hl1, hl2, hk1a, by omega⟩ (by unfold Np.timesStep; omega)
    have A3 := Np.more_any (l' := l) (d' := k % (d + 1)) (f' := f) he ⟨hk2a, by omega, hs1, hs2, by omega, hb2, hl1, hl2, hf1, hf2⟩ (by unfold Np.timesStep; omega)
    have A1 : ∀ l', l ≤ l' → l' ≤ 10000000 → _ := fun l' h1 h2 => Np.more_any (l' := l') (d' := d) (f' := f) he ⟨hd1, hd2, hs1, hs2, hb1, hb2, by omega, h2, hf1, hf2⟩ (by unfold Np.timesStep; omega)
    obtain ⟨A, c, rfl, _, _, _⟩ := hx1
    have HA1 := Lib.hid A1
    have HA2 := Lib.hid A2
    have HA3 := Lib.hid A3
    generalize hn : (Np.times b s l d f).length = n at *
    clear A1 A2 A3 he hn
    by_cases hlm : l + m < 10000000
    all_goals
      go_wp2_with fail
      refine (times_any _ _ _ _ _ _).mono ?_
      rintro e w2 ⟨x2, rfl, hx2, hb2'⟩
      have e := HA1.out (if l + m < 10000000 then l + m else 10000000) (by split <;> omega) (by split <;> omega)
      first
        | rw [if_pos hlm] at e
        | rw [if_neg (Int.not_lt.2 hlm)] at e
      obtain ⟨e2, ⟨r2, t2⟩, n2⟩ := e
      rw [e2]
      rw [t2] at hx2 n2
      obtain ⟨b2, o2, c2, rfl, hl2', hc2, hcc2⟩ := slr_first hx2
      have hz2 := hb2'.size
      have HB2 := Lib.hid hb2'
      clear hx2 e2 t2 hb2'
      go_wp2_with fail
      refine (times_any _ _ _ _ _ _).mono ?_
      rintro e w3 ⟨x3, rfl, hx3, hb3⟩
      obtain ⟨e3, ⟨r3, t3⟩, n3⟩ := HA2.out
      rw [e3]
      rw [t3] at hx3 n3
      obtain ⟨b3, o3, c3, rfl, hl3, hc3, hcc3⟩ := slr_first hx3
      have hz3 := hb3.size
      have hc2' := (hb3.cell (p := ⟨b2, o2, none⟩) hl2').trans hc2
      have HB3 := Lib.hid hb3
      clear hx3 e3 t3 hc2 hb3
      go_wp2_with fail
      refine (times_any _ _ _ _ _ _).mono ?_
      rintro e w4 ⟨x4, rfl, hx4, hb4⟩
      obtain ⟨e4, ⟨r4, t4⟩, n4⟩ := HA3.out
      rw [e4]
      rw [t4] at hx4 n4
      obtain ⟨b4, o4, c4, rfl, hl4, hc4, hcc4⟩ := slr_first hx4
      have hc2'' := (hb4.cell (p := ⟨b2, o2, none⟩) (Nat.lt_of_lt_of_le hl2' hz3)).trans hc2'
      have hc3' := (hb4.cell (p := ⟨b3, o3, none⟩) hl3).trans hc3
      have HB4 := Lib.hid hb4
      clear hx4 e4 t4 hc2' hc3 hb4
      simp only [List.length_cons] at n2 n3 n4
      have z2 : (((r2.length + 1 : Nat) : Int) == 0) = false := by simp; omega
      have z3 : (((r3.length + 1 : Nat) : Int) == 0) = false := by simp; omega
      have z4 : (((r4.length + 1 : Nat) : Int) == 0) = false := by simp; omega
      have bb : (b != b) = false := by simp
      go_wp2_with fail
      all_goals first
        | (exfalso; omega)
        | (go_ret
           refine ⟨ret_bool (by simp <;> omega), HB0.out.trans ((HB1.out.trans ((HB2.out.trans ((HB3.out.trans (HB4.out.mono hz3)).mono hz2)).mono hz1)).mono hz0)⟩)
  · have ht : Np.times b s l d f = [] := Np.times_bad he
    rw [ht] at hx1
    obtain ⟨A, c, rfl, _, _, _⟩ := hx1
    have he' : (Np.timesErr b s l d f != 0) = true := by simp [he]
    clear ht
    go_wp2_with fail
    all_goals
      go_ret
      exact ⟨rfl, HB0.out.trans (HB1.out.mono hz0)⟩
end Go.Proofs.YtafpbfmhhpcalaaDoor
