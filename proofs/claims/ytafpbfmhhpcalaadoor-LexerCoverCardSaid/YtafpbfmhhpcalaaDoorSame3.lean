/- The reference's comparisons of tokens, where they say yes. -/
import Derived.Test.YtafpbfmhhpcalaaDoorLex
import Derived.Test.YtafpbfmhhpcalaaDoorLexPlain
namespace Go.Proofs.YtafpbfmhhpcalaaDoor
open Go.RowKit
/-- A slice of tokens, at one place. -/
theorem tok_at {w : World} {B : Nat} {v : Value} {xs : List Np.Tok} (h : SlR RTok 4 w B v xs) {k : Nat} {t : Np.Tok} (ht : xs[k]? = some t) : ∃ b o c, v = .slice (some ⟨b, o, none⟩) xs.length c ∧ b < B ∧ w.cell? ⟨b, o + k * 4, none⟩ = some (.int .i64 t.kind) ∧ w.cell? ⟨b, o + k * 4 + 1, none⟩ = some (.string (bytesOf t.text)) ∧ w.cell? ⟨b, o + k * 4 + 2, none⟩ = some (.int .i64 t.n) ∧ w.cell? ⟨b, o + k * 4 + 3, none⟩ = some (.int .i64 t.pos) := by
  obtain ⟨A, c, rfl, _, _, he⟩ := h
  obtain ⟨b, o, e, rfl, hb, _, hce, rfl⟩ := he k t ht
  exact ⟨b, o, c, rfl, hb, by have := hce 0 _ rfl; simpa using this, hce 1 _ rfl, hce 2 _ rfl, hce 3 _ rfl⟩
set_option maxRecDepth 100000 in
set_option maxHeartbeats 2000000 in
theorem same_yes (u v : Value) (xs ys : List Np.Tok) (by_ : Int) (h0 : 0 ≤ by_) (h1 : by_ ≤ 100000) (hp : ∀ t ∈ xs, 0 ≤ t.pos ∧ t.pos ≤ 100000) (hy : ys = xs.map (Np.shift by_)) (w : World) (hu : SlR RTok 4 w w.heap.size u xs) (hv : SlR RTok 4 w w.heap.size v ys) :
    Calls Tryd.prog 21 #[u, v, .int .i64 by_] w fun e w' => e = .returned (.bool true) ∧ Below w.heap.size w w' := by
  have HU := Lib.hid hu
  have HV := Lib.hid hv
  have HP := Lib.hid hp
  have HY := Lib.hid hy
  have hlen : ys.length = xs.length := by rw [hy]; simp
  obtain ⟨A, c, rfl, hc1, hl1, _⟩ := hu
  obtain ⟨A2, c2, rfl, hc2, hl2, _⟩ := hv
  rw [hlen] at HV hc2 ⊢
  clear hp hy hlen hl2
  have hnn : ((xs.length : Int) != (xs.length : Int)) = false := by simp
  go_enter Tryd.func21, Tryd.ntmps21
  go_wp2_with fail
  go_loopw [7] (fun i wr => ∃ k : Nat, k ≤ xs.length ∧ i = .int .i64 k ∧ Hid (Below w.heap.size w wr)) (fun i _ => xs.length - (intOf i).toNat)
  case atStart => exact ⟨0, Nat.zero_le _, rfl, Lib.hid (Below.refl _ _)⟩
  case round =>
    obtain ⟨k, hk, rfl, HB⟩ := hrel
    by_cases hlt : k < xs.length
    · obtain ⟨b, o, c', hA, hb, a0, a1, a2, a3⟩ := tok_at (HU.out.keep rtok_kept HB.out) (List.getElem?_eq_getElem hlt)
      cases hA
      have hky : ys[k]? = some (Np.shift by_ xs[k]) := by rw [HY.out, List.getElem?_map, List.getElem?_eq_getElem hlt]; rfl
      obtain ⟨b2, o2, c2', hA, hb2, d0, d1, d2, d3⟩ := tok_at (HV.out.keep rtok_kept HB.out) hky
      simp only [Value.slice.injEq] at hA
      obtain ⟨rfl, _, rfl⟩ := hA
      obtain ⟨p0, p1⟩ := HP.out xs[k] (List.getElem_mem hlt)
      simp only [Np.shift] at d0 d1 d2 d3
      generalize xs[k] = t at *
      have hkI : (k : Int) < (xs.length : Int) := by omega
      have hkI2 : (k : Int) < (ys.length : Int) := by rw [HY.out]; simp; omega
      have hk0 : (0 : Int) ≤ (k : Int) := by omega
      have hw : IntKind.i64.wrap (t.pos + by_) = t.pos + by_ := IntWalk.i64_in _ (by omega)
      clear hky
      go_wp2_with fail
      go_quiet (fail)
      go_wp2_with fail
      go_roundw
      case rel => exact ⟨k + 1, by omega, by go_num, Lib.hid (below_drewN HB.out _)⟩
      case measure => simp [intOf] <;> omega
    · go_wp2_with fail
      go_ret
      exact ⟨rfl, HB.out⟩
end Go.Proofs.YtafpbfmhhpcalaaDoor
