/- Contracts of the references' comparisons of lists. -/
import Derived.Test.YtafpbfmhhpcalaaDoorResign2
import Derived.Test.YtafpbfmhhpcalaaDoorOwn
import Derived.Laws.StructEq
namespace Go.Proofs.YtafpbfmhhpcalaaDoor
open Go.RowKit

theorem take_next {α : Type} {xs ys : List α} {k : Nat} (h1 : k < xs.length) (h2 : k < ys.length) (h : xs.take k = ys.take k) (he : xs[k] = ys[k]) : xs.take (k + 1) = ys.take (k + 1) := by
  rw [List.take_succ_eq_append_getElem h1, List.take_succ_eq_append_getElem h2, h, he]
theorem ne_at {α : Type} [DecidableEq α] {xs ys : List α} {k : Nat} (h1 : k < xs.length) (h2 : k < ys.length) (he : ¬ xs[k] = ys[k]) : false = decide (xs = ys) := by
  symm; rw [decide_eq_false_iff_not]; rintro rfl; exact he rfl

theorem neqSpan (a b c d : Int) (w : World) : (binOp .neq 70 (.agg #[.int .i64 a, .int .i64 b]) (.agg #[.int .i64 c, .int .i64 d])).run Tryd.prog w = .ok (.bool (!(a == c && b == d))) w := by
  have u3 := Tryd.underlying3
  have a3 := Tryd.isAgg3
  have z3 := Tryd.sizeOf3
  have hS : Tryd.prog.underlying 70 = some (.struct (Tryd.prog.fieldsOf 70)) := by kernel_rfl
  have hp : Tryd.prog.stoodInHeld 70 = false := by kernel_rfl
  rw [run_neq_struct, show (10000 : Nat) = 9999 + 1 from rfl, run_equalIn_agg w 9999 70 _ _ hS hp]
  simp only [Program.fieldsOf, Tryd.underlying70]
  go_simp
  by_cases h1 : a = c <;> by_cases h2 : b = d <;> simp [h1, h2]

set_option maxRecDepth 100000 in
set_option maxHeartbeats 1000000 in
theorem sameInts_any (u v : Value) (xs ys : List Int) (w : World) (hu : SlR RInt 1 w w.heap.size u xs) (hv : SlR RInt 1 w w.heap.size v ys) :
    Calls Tryd.prog 32 #[u, v] w fun e w' => e = .returned (.bool (decide (xs = ys))) ∧ Below w.heap.size w w' := by
  have HU := Lib.hid hu
  have HV := Lib.hid hv
  obtain ⟨A, c, rfl, hc1, hl1, he1⟩ := hu
  obtain ⟨A2, c2, rfl, hc2, hl2, he2⟩ := hv
  clear he1 he2
  by_cases hlen : xs.length = ys.length
  · have hln : ((xs.length : Int) != (ys.length : Int)) = false := by simp; omega
    have HL := Lib.hid hlen
    clear hlen
    go_enter Tryd.func32, Tryd.ntmps32
    go_wp2_with fail
    go_loopw [5] (fun i wr => ∃ k : Nat, k ≤ xs.length ∧ i = .int .i64 k ∧ Below w.heap.size w wr ∧ Hid (xs.take k = ys.take k)) (fun i _ => xs.length - (intOf i).toNat)
    case atStart => exact ⟨0, Nat.zero_le _, rfl, Below.refl _ _, Lib.hid rfl⟩
    case round =>
      obtain ⟨k, hk, rfl, hb, HA⟩ := hrel
      by_cases hlt : k < xs.length
      · have hlt2 : k < ys.length := by have := HL.out; omega
        obtain ⟨A', c', hA', _, _, hel⟩ := HU.out.keep rint_kept hb
        cases hA'
        obtain ⟨b, o, e, rfl, hbl, hlen, hce, rfl⟩ := hel k _ (List.getElem?_eq_getElem hlt)
        obtain ⟨A', c', hA', _, _, hel2⟩ := HV.out.keep rint_kept hb
        cases hA'
        obtain ⟨b2, o2, e2, rfl, hbl2, hlen2, hce2, rfl⟩ := hel2 k _ (List.getElem?_eq_getElem hlt2)
        have h0 : wr.cell? ⟨b, o + k, none⟩ = some (.int .i64 xs[k]) := by have := hce 0 _ rfl; simpa using this
        have g0 : wr.cell? ⟨b2, o2 + k, none⟩ = some (.int .i64 ys[k]) := by have := hce2 0 _ rfl; simpa using this
        have HB := Lib.hid hb
        clear hel hel2 hce hce2 hb
        go_wp2_with fail
        go_quiet (fail)
        by_cases hx : xs[k] = ys[k]
        · have hx' : (xs[k] != ys[k]) = false := by simp [hx]
          have HX := Lib.hid hx
          clear hx
          go_wp2_with fail
          go_roundw
          case rel => exact ⟨k + 1, by omega, by go_num, below_drewN HB.out _, Lib.hid (take_next hlt hlt2 HA.out HX.out)⟩
          case measure => simp [intOf] <;> omega
        · have hx' : (xs[k] != ys[k]) = true := by simp [hx]
          have HX := Lib.hid hx
          clear hx
          go_wp2_with fail
          go_ret
          exact ⟨ret_bool (ne_at hlt hlt2 HX.out), below_drewN HB.out _⟩
      · go_wp2_with fail
        go_ret
        refine ⟨ret_bool ?_, hb⟩
        have h := HA.out
        rw [List.take_of_length_le (by omega), List.take_of_length_le (by have := HL.out; omega)] at h
        simp [h]
  · have hln : ((xs.length : Int) != (ys.length : Int)) = true := by simp; omega
    go_enter Tryd.func32, Tryd.ntmps32
    go_wp2_with fail
    go_ret
    exact ⟨ret_bool (by simp; intro e; exact hlen (by rw [e])), Below.refl _ _⟩

set_option maxRecDepth 100000 in
set_option maxHeartbeats 1000000 in
theorem sameSpans_any (u v : Value) (xs ys : List Np.Span) (w : World) (hu : SlR RSpan 2 w w.heap.size u xs) (hv : SlR RSpan 2 w w.heap.size v ys) :
    Calls Tryd.prog 31 #[u, v] w fun e w' => e = .returned (.bool (decide (xs = ys))) ∧ Below w.heap.size w w' := by
  have HU := Lib.hid hu
  have HV := Lib.hid hv
  obtain ⟨A, c, rfl, hc1, hl1, he1⟩ := hu
  obtain ⟨A2, c2, rfl, hc2, hl2, he2⟩ := hv
  clear he1 he2
  by_cases hlen : xs.length = ys.length
  · have hln : ((xs.length : Int) != (ys.length : Int)) = false := by simp; omega
    have HL := Lib.hid hlen
    clear hlen
    go_enter Tryd.func31, Tryd.ntmps31
    go_wp2_with fail
    go_loopw [5] (fun i wr => ∃ k : Nat, k ≤ xs.length ∧ i = .int .i64 k ∧ Below w.heap.size w wr ∧ Hid (xs.take k = ys.take k)) (fun i _ => xs.length - (intOf i).toNat)
    case atStart => exact ⟨0, Nat.zero_le _, rfl, Below.refl _ _, Lib.hid rfl⟩
    case round =>
      obtain ⟨k, hk, rfl, hb, HA⟩ := hrel
      by_cases hlt : k < xs.length
      · have hlt2 : k < ys.length := by have := HL.out; omega
        obtain ⟨A', c', hA', _, _, hel⟩ := HU.out.keep rspan_kept hb
        cases hA'
        obtain ⟨b, o, e, rfl, hbl, hlen, hce, rfl⟩ := hel k _ (List.getElem?_eq_getElem hlt)
        obtain ⟨A', c', hA', _, _, hel2⟩ := HV.out.keep rspan_kept hb
        cases hA'
        obtain ⟨b2, o2, e2, rfl, hbl2, hlen2, hce2, rfl⟩ := hel2 k _ (List.getElem?_eq_getElem hlt2)
        have h0 : wr.cell? ⟨b, o + k * 2, none⟩ = some (.int .i64 xs[k].frm) := by have := hce 0 _ rfl; simpa using this
        have h1 : wr.cell? ⟨b, o + k * 2 + 1, none⟩ = some (.int .i64 xs[k].til) := by have := hce 1 _ rfl; simpa using this
        have g0 : wr.cell? ⟨b2, o2 + k * 2, none⟩ = some (.int .i64 ys[k].frm) := by have := hce2 0 _ rfl; simpa using this
        have g1 : wr.cell? ⟨b2, o2 + k * 2 + 1, none⟩ = some (.int .i64 ys[k].til) := by have := hce2 1 _ rfl; simpa using this
        have HB := Lib.hid hb
        clear hel hel2 hce hce2 hb
        have hnq := neqSpan
        go_wp2_with fail
        go_quiet (fail)
        go_wp2_with fail
        · have h : (!xs[k].frm == ys[k].frm) = true ∨ (!xs[k].til == ys[k].til) = true := by assumption
          go_ret
          exact ⟨ret_bool (ne_at hlt hlt2 (fun e => by rw [e] at h; simp at h)), below_drewN HB.out _⟩
        · have h : (!xs[k].frm == ys[k].frm) = false ∧ (!xs[k].til == ys[k].til) = false := by assumption
          have hx : xs[k] = ys[k] := by
            obtain ⟨h1, h2⟩ := h
            have h1' : xs[k].frm = ys[k].frm := by simpa using h1
            have h2' : xs[k].til = ys[k].til := by simpa using h2
            go_light
            generalize xs[k] = p at *
            generalize ys[k] = q at *
            cases p; cases q; simp_all
          go_roundw
          case rel => exact ⟨k + 1, by omega, by go_num, below_drewN HB.out _, Lib.hid (take_next hlt hlt2 HA.out hx)⟩
          case measure => simp [intOf] <;> omega
      · go_wp2_with fail
        go_ret
        refine ⟨ret_bool ?_, hb⟩
        have h := HA.out
        rw [List.take_of_length_le (by omega), List.take_of_length_le (by have := HL.out; omega)] at h
        simp [h]
  · have hln : ((xs.length : Int) != (ys.length : Int)) = true := by simp; omega
    go_enter Tryd.func31, Tryd.ntmps31
    go_wp2_with fail
    go_ret
    exact ⟨ret_bool (by simp; intro e; exact hlen (by rw [e])), Below.refl _ _⟩

end Go.Proofs.YtafpbfmhhpcalaaDoor
