/- Contracts of package name: which texts are names. -/
import Derived.Test.YtnbolgdccdnjeaaGreatDoorName2
namespace Go.Proofs.YtnbolgdccdnjeaaGreatDoor
open Go.RowKit Go.Shelf
attribute [local go_sem] Oper.semAt_some


def wildOf (pre : List (List UInt8)) : Bool := pre.getLast? == some [42]

def ValI (w : World) (xs : List (List UInt8)) (pre : List (List UInt8)) (S : Nat → Prop) (W : World) : Prop :=
  (∀ k, S k ↔ k = w.heap.size ∨ k = w.heap.size + 1 ∨ k = w.heap.size + 1 + 1) ∧ Boxed W w.heap.size 4 (.bool false) ∧ Boxed W (w.heap.size + 1) 3 (.int .i64 pre.length) ∧ Boxed W (w.heap.size + 1 + 1) 4 (.bool (wildOf pre)) ∧
  (pre.length ≤ 8 ∧ ∀ rest, xs = pre ++ rest → Np.goodFrom xs 0 false = Np.goodFrom rest pre.length (wildOf pre)) ∧ Below w.heap.size w W
def ValX (w : World) (xs : List (List UInt8)) (c : Code) (_ : List (List UInt8)) (S : Nat → Prop) (W : World) : Prop :=
  c = .ret ∧ (∀ k, S k ↔ k = w.heap.size ∨ k = w.heap.size + 1 ∨ k = w.heap.size + 1 + 1) ∧ Boxed W w.heap.size 4 (.bool false) ∧ Np.goodFrom xs 0 false = false ∧ Below w.heap.size w W

theorem valI_stable (w : World) (xs : List (List UInt8)) (B : Nat) (hB : w.heap.size ≤ B) : StableAt B (ValI w xs) := by
  rintro s S W W' ⟨hS, h1, h2, h3, h4, h5⟩ hst
  exact ⟨hS, boxed_it h1 hst ((hS _).2 (.inl rfl)), boxed_it h2 hst ((hS _).2 (.inr (.inl rfl))), boxed_it h3 hst ((hS _).2 (.inr (.inr rfl))), h4, below_it h5 hst hB (Nat.le_refl _)⟩
theorem valX_stable (w : World) (xs : List (List UInt8)) (B : Nat) (hB : w.heap.size ≤ B) (c : Code) : StableAt B (ValX w xs c) := by
  rintro s S W W' ⟨hc, hS, h1, h4, h5⟩ hst
  exact ⟨hc, hS, boxed_it h1 hst ((hS _).2 (.inl rfl)), h4, below_it h5 hst hB (Nat.le_refl _)⟩

theorem val_ret {w : World} {xs pre : List (List UInt8)} {S : Nat → Prop} {W W3 : World} {a : Act} (hS : ∀ k, S k ↔ k = w.heap.size ∨ k = w.heap.size + 1 ∨ k = w.heap.size + 1 + 1)
    (hr : RdStep S W W3) (hlt : ∀ k, S k → k < W.heap.size) (c0 : Boxed W3 w.heap.size 4 (.bool false)) (hB : Below w.heap.size w W3) (hg : Np.goodFrom xs 0 false = false) :
    bodyTo (ValI w xs) (ValX w xs) pre S W .ret a (W3.setCell ⟨w.heap.size, 0, none⟩ (.bool false)) :=
  ⟨S, hr.setCell (.inl ((hS _).2 (.inl rfl))) _, fun _ e => .inl e, fun k e => by have := hlt k e; have := hr.size; simp [World.setCell]; omega, rfl, hS, c0.set _, hg, hB.setCell (Nat.le_refl _) _⟩
theorem val_go {w : World} {xs pre rest : List (List UInt8)} {x : List UInt8} {S : Nat → Prop} {W W3 : World} {a : Act} (hS : ∀ k, S k ↔ k = w.heap.size ∨ k = w.heap.size + 1 ∨ k = w.heap.size + 1 + 1)
    (hr : RdStep S W W3) (hlt : ∀ k, S k → k < W.heap.size) (c0 : Boxed W3 w.heap.size 4 (.bool false)) (c1 : Boxed W3 (w.heap.size + 1) 3 (.int .i64 (pre.length + 1))) (c2 : Boxed W3 (w.heap.size + 1 + 1) 4 (.bool (x == [42])))
    (hB : Below w.heap.size w W3) (hrest : pre ++ [x] ++ rest = xs) (hl : pre.length + 1 ≤ 8) (hg : Np.goodFrom xs 0 false = Np.goodFrom rest (pre.length + 1) (x == [42])) :
    bodyTo (ValI w xs) (ValX w xs) (pre ++ [x]) S W .normal a W3 := by
  have hw : wildOf (pre ++ [x]) = (x == [42]) := by simp [wildOf]
  refine ⟨S, hr, fun _ e => .inl e, fun k e => by have := hlt k e; have := hr.size; omega, hS, c0, by simpa using c1, by rw [hw]; exact c2, ⟨by simpa using hl, fun r h => ?_⟩, hB⟩
  have : r = rest := List.append_cancel_left (h.symm.trans hrest.symm)
  rw [hg, this, hw]; simp

set_option maxHeartbeats 1000000 in
theorem valid_any (t : ByteArray) (ht : t.size ≤ 140737488355328) (w : World) :
    Calls Tryz.prog 59 #[.string t] w fun e w' => e = .returned (.bool (Np.validName t.data.toList)) ∧ Below w.heap.size w w' := by
  refine (callsIn_wide (n := 0)).1 ?_
  refine callsIn_of_wp_marks Tryz.func59 rfl trivial ?_ rfl
  simp only [Tryz.ntmps59, List.size_toArray, List.length_cons, List.length_nil, Nat.reduceAdd, Nat.reduceSub, Array.replicate_succ, Array.replicate_zero, List.push_toArray, List.append_toArray, List.nil_append, List.cons_append]
  gi_wp2_with fail
  · have he : (t.toList == [46]) = true := by assumption
    have he2 : t.data.toList = [46] := by rw [← ByteArray.toList_eq]; simpa using he
    exact endM0 (v := .bool true) (by simp [results, Tryz.results59, go_sem]) ⟨by rw [Np.validName, if_pos he2], (Below.refl _ _).alloc (Nat.le_refl _) _⟩
  · have he : (t.toList == [46]) = false := by assumption
    have he2 : ¬ t.data.toList = [46] := by rw [← ByteArray.toList_eq]; simpa using he
    have hl : 60 < (t.size : Int) := by assumption
    exact endM0 (v := .bool false) (by simp [results, Tryz.results59, go_sem]) ⟨by rw [Np.validName, if_neg he2, if_pos (by rw [size_list]; omega)], (Below.refl _ _).alloc (Nat.le_refl _) _⟩
  · have he : (t.toList == [46]) = false := by assumption
    have he2 : ¬ t.data.toList = [46] := by rw [← ByteArray.toList_eq]; simpa using he
    have hl : (t.size : Int) ≤ 60 := by assumption
    have hv : Np.validName t.data.toList = Np.goodFrom (Np.back t.data.toList) 0 false := by
      rw [Np.validName, if_neg he2, if_neg (by rw [size_list]; omega), Np.back, if_neg he2]
    have HV := Lib.hid hv
    clear hv
    have b0 := Boxed.new w 4 (.bool false)
    have b1 := Boxed.new (w.alloc (.cells #[.bool false] 4)) 3 (.int .i64 0)
    have b2 := Boxed.new ((w.alloc (.cells #[.bool false] 4)).alloc (.cells #[.int .i64 0] 3)) 4 (.bool false)
    simp only [World.size_alloc] at b1 b2
    refine wpIn_range' (n₀ := w.heap.size) (w0 := w) (first := #[.string t]) (captured := #[]) (gf := 103) rfl (enters_of Tryz.func103 (by kernel_rfl) rfl) (mk := fun y => #[.string t, y]) (fun _ => rfl)
      (backwards_iter t ht _ w) ((((Below.refl _ w).alloc (Nat.le_refl _) _).alloc (by simp) _).alloc (by simp; omega) _) (by simp; omega) (fun _ => rfl) (ValI w (Np.back t.data.toList)) (ValX w (Np.back t.data.toList))
      (valI_stable _ _ _ (by simp; omega)) (fun c => valX_stable _ _ _ (by simp; omega) c)
      (fun k => k = w.heap.size ∨ k = w.heap.size + 1 ∨ k = w.heap.size + 1 + 1) (by intro k h; omega) (by intro k h; simp; omega)
      ⟨fun _ => Iff.rfl, (b0.alloc _).alloc _, b1.alloc _, b2, ⟨by simp, fun rest h => by rw [h]; rfl⟩, (((Below.refl _ w).alloc (Nat.le_refl _) _).alloc (by simp) _).alloc (by simp; omega) _⟩ ?round ?done ?stop
    case round =>
      rintro l0 pre x S W hpx hI hSlt
      gi_wp2
      refine ⟨S, RdStep.refl _ _, fun k e => .inl e, hSlt, ?_⟩
      intro l W₂ hst
      obtain ⟨hS, c0, c1, c2, hg, hB⟩ := valI_stable w _ _ (by simp; omega) pre S W W₂ hI hst
      have c0c := c0.cell
      have c1c := c1.cell
      have c2c := c2.cell
      have c0f := c0.frozen
      have c1f := c1.frozen
      have c2f := c2.frozen
      have hlen := hg.1
      have hx : x ∈ Np.back t.data.toList := hpx.subset (by simp)
      have hxl : x.length ≤ 60 := by have := Np.back_len hx; rw [size_list] at this; omega
      have hxs : (⟨x.toArray⟩ : ByteArray).size ≤ 140737488355328 := by rw [← size_list]; simp; omega
      obtain ⟨rest, hrest⟩ := hpx
      have hgo : Np.goodFrom (Np.back t.data.toList) 0 false = Np.goodFrom (x :: rest) pre.length (wildOf pre) := hg.2 _ (by rw [← hrest]; simp)
      have HR := Lib.hid hrest
      have HG := Lib.hid hgo
      have hbelow : ∀ (b : Nat) (u : Value), w.heap.size ≤ b → Below w.heap.size w (W₂.setCell ⟨b, 0, none⟩ u) := fun b u hb => hB.setCell (p := ⟨b, 0, none⟩) hb u
      have hSlt2 : ∀ k, S k → k < W₂.heap.size := fun k e => Nat.lt_of_lt_of_le (hSlt k e) hst.size
      clear hrest hgo hg hx
      gi_wp2_with (refine ⟨trivial, rfl, ?_⟩; gi_at_call 104; refine (CallsIn.inRound l (callsIn_wide.2 (isLabel_any _ hxs _))).mono ?_; rintro e w' ⟨rfl, rfl⟩)
      · exact val_ret hS (RdStep.setCell (RdStep.refl S W₂) (p := ⟨w.heap.size + 1, 0, none⟩) (.inl ((hS _).2 (.inr (.inl rfl)))) _) hSlt2 (boxed_far c0 (p := ⟨w.heap.size + 1, 0, none⟩) (by simp) _) (hbelow _ _ (by omega))
          (by rw [HG.out]; have : wildOf pre = true := by assumption
              simp [Np.goodFrom, this])
      · exact val_ret hS (RdStep.setCell (RdStep.refl S W₂) (p := ⟨w.heap.size + 1, 0, none⟩) (.inl ((hS _).2 (.inr (.inl rfl)))) _) hSlt2 (boxed_far c0 (p := ⟨w.heap.size + 1, 0, none⟩) (by simp) _) (hbelow _ _ (by omega))
          (by rw [HG.out]; have : 8 < pre.length + 1 := by omega
              simp [Np.goodFrom, this])
      · have hx1 : x = [42] := by assumption
        have e : (x == [42]) = true := by simp [hx1]
        have hle : (pre.length : Int) + 1 ≤ 8 := by assumption
        have h1 : ¬ wildOf pre = true := by assumption
        have h2 : ¬ 8 < pre.length + 1 := by omega
        refine ⟨trivial, ?_⟩
        gi_wp2
        exact val_go hS (RdStep.setCell (RdStep.setCell (RdStep.refl S W₂) (p := ⟨w.heap.size + 1, 0, none⟩) (.inl ((hS _).2 (.inr (.inl rfl)))) _) (p := ⟨w.heap.size + 1 + 1, 0, none⟩) (.inl ((hS _).2 (.inr (.inr rfl)))) _) hSlt2
          (boxed_far (boxed_far c0 (p := ⟨w.heap.size + 1, 0, none⟩) (by simp) _) (p := ⟨w.heap.size + 1 + 1, 0, none⟩) (by simp <;> omega) _)
          (boxed_far (c1.set _) (p := ⟨w.heap.size + 1 + 1, 0, none⟩) (by simp <;> omega) _) (by rw [e]; exact (boxed_far c2 (p := ⟨w.heap.size + 1, 0, none⟩) (by simp) _).set _)
          ((hbelow _ _ (by omega)).setCell (p := ⟨w.heap.size + 1 + 1, 0, none⟩) (by simp; omega) _) HR.out (by omega) (by rw [HG.out]; simp [Np.goodFrom, h1, h2, hx1])
      · have hl : (!x == [42]) = true ∧ (!Np.isLabel x) = true := by assumption
        have hx1 : ¬ x = [42] := by assumption
        exact val_ret hS (RdStep.setCell (RdStep.setCell (RdStep.refl S W₂) (p := ⟨w.heap.size + 1, 0, none⟩) (.inl ((hS _).2 (.inr (.inl rfl)))) _) (p := ⟨w.heap.size + 1 + 1, 0, none⟩) (.inl ((hS _).2 (.inr (.inr rfl)))) _) hSlt2
          (boxed_far (boxed_far c0 (p := ⟨w.heap.size + 1, 0, none⟩) (by simp) _) (p := ⟨w.heap.size + 1 + 1, 0, none⟩) (by simp <;> omega) _)
          ((hbelow _ _ (by omega)).setCell (p := ⟨w.heap.size + 1 + 1, 0, none⟩) (by simp; omega) _)
          (by rw [HG.out]; have h2 : Np.isLabel x = false := by simpa using hl.2
              simp [Np.goodFrom, hx1, h2])
      · have hl : (!x == [42]) = false ∨ (!Np.isLabel x) = false := by assumption
        have hx1 : ¬ x = [42] := by assumption
        have e : (x == [42]) = false := by simp [hx1]
        have hle : (pre.length : Int) + 1 ≤ 8 := by assumption
        have h1 : ¬ wildOf pre = true := by assumption
        have h2 : ¬ 8 < pre.length + 1 := by omega
        have h3 : Np.isLabel x = true := by simpa [e] using hl
        exact val_go hS (RdStep.setCell (RdStep.setCell (RdStep.refl S W₂) (p := ⟨w.heap.size + 1, 0, none⟩) (.inl ((hS _).2 (.inr (.inl rfl)))) _) (p := ⟨w.heap.size + 1 + 1, 0, none⟩) (.inl ((hS _).2 (.inr (.inr rfl)))) _) hSlt2
          (boxed_far (boxed_far c0 (p := ⟨w.heap.size + 1, 0, none⟩) (by simp) _) (p := ⟨w.heap.size + 1 + 1, 0, none⟩) (by simp <;> omega) _)
          (boxed_far (c1.set _) (p := ⟨w.heap.size + 1 + 1, 0, none⟩) (by simp <;> omega) _) ((boxed_far c2 (p := ⟨w.heap.size + 1, 0, none⟩) (by simp) _).set _)
          ((hbelow _ _ (by omega)).setCell (p := ⟨w.heap.size + 1 + 1, 0, none⟩) (by simp; omega) _) HR.out (by omega) (by rw [HG.out]; simp [Np.goodFrom, h1, h2, hx1, h3, e])
    case done =>
      rintro D S W hD hSD hsub ⟨hS, c0, c1, c2, hg, hB⟩ hK
      have c0c := c0.cell
      have c0f := c0.frozen
      have hend : Np.goodFrom (Np.back t.data.toList) 0 false = true := by rw [hg.2 [] (by simp)]; rfl
      have hDne : w.heap.size ≠ D := fun e => hSD ((hS _).2 (.inl e.symm))
      clear hg
      have HE := Lib.hid hend
      clear hend
      gi_wp2
      have hK' : (W.setCell ⟨w.heap.size, 0, none⟩ (.bool true)).heap[D]? = some (.deferred (some [])) := (Below.heap_setCell _ _ _ _ (by simpa using hDne.symm)).trans hK
      have c5 := (boxed_putObj (c0.set (.bool true)) hDne (.deferred none)).cell
      exact endM1 hK' (v := .bool true) (by simp [results, Tryz.results59, go_sem, c5]) ⟨by rw [HV.out, HE.out], below_putObj (hB.setCell (Nat.le_refl _) _) (by simp at hD; omega) _⟩
    case stop =>
      rintro D c pre S W hD hSD hsub hpre ⟨rfl, hS, c0, hg, hB⟩ hK
      have hDne : w.heap.size ≠ D := fun e => hSD ((hS _).2 (.inl e.symm))
      have HE := Lib.hid hg
      clear hg
      gi_wp2
      have c5 := (boxed_putObj c0 hDne (.deferred none)).cell
      exact endM1 hK (v := .bool false) (by simp [results, Tryz.results59, go_sem, c5]) ⟨by rw [HV.out, HE.out], below_putObj hB (by simp at hD; omega) _⟩

theorem nameValid_any (t : ByteArray) (ht : t.size ≤ 140737488355328) (w : World) :
    Calls Tryz.prog 24 #[.string t] w fun e w' => e = .returned (.bool (Np.validName t.data.toList)) ∧ Below w.heap.size w w' := by
  go_enter Tryz.func24, Tryz.ntmps24
  go_wp2_with (go_at_call 59; refine (valid_any _ ht _).mono ?_; rintro e w' ⟨rfl, hb⟩)
  go_ret
  exact ⟨rfl, hb⟩
end Go.Proofs.YtnbolgdccdnjeaaGreatDoor
