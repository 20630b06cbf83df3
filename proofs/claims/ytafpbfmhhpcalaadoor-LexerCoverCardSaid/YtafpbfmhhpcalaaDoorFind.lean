/- Contracts of slices.IndexFunc and slices.ContainsFunc at the element types that this seat has. -/
import Derived.Test.YtafpbfmhhpcalaaDoorRec3
namespace Go.Proofs.YtafpbfmhhpcalaaDoor
open Go.RowKit
variable {α : Type}

def findI (p : α → Bool) : List α → Int
  | [] => -1
  | x :: xs => if p x then 0 else if findI p xs = -1 then -1 else findI p xs + 1
theorem findI_none (p : α → Bool) (xs : List α) (h : ∀ x ∈ xs, p x = false) : findI p xs = -1 := by
  induction xs with
  | nil => rfl
  | cons x r ih => rw [findI, if_neg (by simp [h x (by simp)]), if_pos (ih (fun y hy => h y (by simp [hy])))]
theorem findI_at (p : α → Bool) (xs : List α) (k : Nat) (hk : k < xs.length) (h : ∀ x ∈ xs.take k, p x = false) (hx : p xs[k] = true) : findI p xs = k := by
  induction xs generalizing k with
  | nil => simp at hk
  | cons x r ih =>
    cases k with
    | zero => simp at hx; simp [findI, hx]
    | succ k =>
      have h0 : p x = false := h x (by simp)
      have := ih k (by simpa using hk) (fun y hy => h y (by simp [hy])) (by simpa using hx)
      rw [findI, if_neg (by simp [h0]), if_neg (by omega), this]
      simp
theorem findI_ge (p : α → Bool) (xs : List α) : decide (0 ≤ findI p xs) = xs.any p := by
  induction xs with
  | nil => rfl
  | cons x r ih =>
    rw [findI]
    by_cases h : p x = true
    · simp [h]
    · rw [if_neg h]
      have h' : p x = false := by simpa using h
      rw [List.any_cons, h', Bool.false_or, ← ih]
      split
      · rename_i e; rw [e]
      · rename_i e
        have : -1 ≤ findI p r := by
          clear ih h h' e
          induction r with
          | nil => simp [findI]
          | cons y r ih2 => rw [findI]; split; omega; split <;> omega
        rw [Bool.eq_iff_iff]; simp; omega

/-- slices.IndexFunc over a slice of nameplan/api.Sig: where the function first says yes. -/
def PredAtSig (R : World → Nat → List Value → α → Prop) (B : Nat) (w : World) (f : FuncId) (cap : Array Value) (p : α → Bool) (xs : List α) : Prop :=
  ∀ (W : World) (x : α) (e0 e1 e2 e3 e4 e5 : Value), x ∈ xs → Below B w W → B ≤ W.heap.size → R W B [e0, e1, e2, e3, e4, e5] x → Calls Tryd.prog f (#[.agg #[e0, e1, e2, e3, e4, e5]] ++ cap) W fun e w' => e = .returned (.bool (p x)) ∧ Below W.heap.size W w'

set_option maxRecDepth 100000 in
set_option maxHeartbeats 1000000 in
theorem indexFuncSig {R : World → Nat → List Value → α → Prop} (hK : KeptR R) (f : FuncId) (eg : ∀ args w, (callFunc f args).run Tryd.prog w = .ok (.enter f args) w) (cap : Array Value) (p : α → Bool) (v : Value) (xs : List α) (w : World) (B : Nat) (hB : B ≤ w.heap.size) (h : SlR R 6 w B v xs)
    (hp : PredAtSig R B w f cap p xs) :
    Calls Tryd.prog 115 #[v, .func (.func f) #[] cap] w fun e w' => e = .returned (.int .i64 (findI p xs)) ∧ Below w.heap.size w w' := by
  have H := Lib.hid h
  have HP := Lib.hid hp
  obtain ⟨A, c, rfl, hc1, hl1, he1⟩ := h
  clear he1 hp
  go_enter Tryd.func115, Tryd.ntmps115
  go_wp2_with fail
  go_loopw [8] (fun i wr => ∃ k : Nat, k ≤ xs.length ∧ i = .int .i64 k ∧ Below w.heap.size w wr ∧ Hid (∀ x ∈ xs.take k, p x = false)) (fun i _ => xs.length - (intOf i).toNat)
  case atStart => exact ⟨0, Nat.zero_le _, rfl, Below.refl _ _, Lib.hid (by simp)⟩
  case round =>
    obtain ⟨k, hk, rfl, hb, HA⟩ := hrel
    by_cases hlt : k < xs.length
    · have hbB := hb.mono hB
      obtain ⟨A', c', hA', _, _, hel⟩ := H.out.keep hK hbB
      cases hA'
      obtain ⟨b, o, e, rfl, hbl, hlen, hce, hR⟩ := hel k _ (List.getElem?_eq_getElem hlt)
      match e, hlen with
      | [e0, e1, e2, e3, e4, e5], _ =>
      have h0 : wr.cell? ⟨b, o + k * 6, none⟩ = some e0 := hce 0 _ rfl
      have h1 : wr.cell? ⟨b, o + k * 6 + 1, none⟩ = some e1 := hce 1 _ rfl
      have h2 : wr.cell? ⟨b, o + k * 6 + 2, none⟩ = some e2 := hce 2 _ rfl
      have h3 : wr.cell? ⟨b, o + k * 6 + 3, none⟩ = some e3 := hce 3 _ rfl
      have h4 : wr.cell? ⟨b, o + k * 6 + 4, none⟩ = some e4 := hce 4 _ rfl
      have h5 : wr.cell? ⟨b, o + k * 6 + 5, none⟩ = some e5 := hce 5 _ rfl
      have hcall := HP.out wr xs[k] e0 e1 e2 e3 e4 e5 (List.getElem_mem hlt) hbB (by have := hb.size; omega) hR
      have HC := Lib.hid hcall
      have HBB := Lib.hid hb
      clear hel hce hR hcall hbB hb
      go_wp2_with (fail)
      refine HC.out.mono ?_
      rintro e w2 ⟨rfl, hb2⟩
      have HB2 := Lib.hid hb2
      clear hb2
      by_cases hpx : p xs[k] = true
      · have HX := Lib.hid hpx
        go_wp2_with (fail)
        go_ret
        exact ⟨ret_int (findI_at p xs k hlt HA.out HX.out).symm, HBB.out.trans (HB2.out.mono HBB.out.size)⟩
      · have hpf : p xs[k] = false := by simpa using hpx
        have HX := Lib.hid hpf
        clear hpx
        go_wp2_with (fail)
        go_roundw
        case rel =>
          refine ⟨k + 1, by omega, by go_num, HBB.out.trans (HB2.out.mono HBB.out.size), Lib.hid ?_⟩
          rw [List.take_succ_eq_append_getElem hlt]
          intro x hx
          rcases List.mem_append.1 hx with h | h
          · exact HA.out x h
          · simp at h; subst h; exact HX.out
        case measure => simp [intOf] <;> omega
    · go_wp2_with fail
      go_ret
      exact ⟨ret_int (findI_none p xs (by have := HA.out; rwa [List.take_of_length_le (by omega)] at this)).symm, hb⟩

theorem containsFuncSig {R : World → Nat → List Value → α → Prop} (hK : KeptR R) (f : FuncId) (eg : ∀ args w, (callFunc f args).run Tryd.prog w = .ok (.enter f args) w) (cap : Array Value) (p : α → Bool) (v : Value) (xs : List α) (w : World) (B : Nat) (hB : B ≤ w.heap.size) (h : SlR R 6 w B v xs)
    (hp : PredAtSig R B w f cap p xs) :
    Calls Tryd.prog 76 #[v, .func (.func f) #[] cap] w fun e w' => e = .returned (.bool (xs.any p)) ∧ Below w.heap.size w w' := by
  have H := Lib.hid h
  have HP := Lib.hid hp
  have HE := Lib.hid eg
  clear h hp eg
  go_enter Tryd.func76, Tryd.ntmps76
  go_wp2_with (go_at_call 115; refine (indexFuncSig hK f HE.out cap p v xs w B hB H.out HP.out).mono ?_; rintro e w' ⟨rfl, hb⟩)
  go_ret
  exact ⟨ret_bool (findI_ge p xs), hb⟩

/-- slices.IndexFunc over a slice of nameplan/api.Span: where the function first says yes. -/
def PredAtSpan (R : World → Nat → List Value → α → Prop) (B : Nat) (w : World) (f : FuncId) (cap : Array Value) (p : α → Bool) (xs : List α) : Prop :=
  ∀ (W : World) (x : α) (e0 e1 : Value), x ∈ xs → Below B w W → B ≤ W.heap.size → R W B [e0, e1] x → Calls Tryd.prog f (#[.agg #[e0, e1]] ++ cap) W fun e w' => e = .returned (.bool (p x)) ∧ Below W.heap.size W w'

set_option maxRecDepth 100000 in
set_option maxHeartbeats 1000000 in
theorem indexFuncSpan {R : World → Nat → List Value → α → Prop} (hK : KeptR R) (f : FuncId) (eg : ∀ args w, (callFunc f args).run Tryd.prog w = .ok (.enter f args) w) (cap : Array Value) (p : α → Bool) (v : Value) (xs : List α) (w : World) (B : Nat) (hB : B ≤ w.heap.size) (h : SlR R 2 w B v xs)
    (hp : PredAtSpan R B w f cap p xs) :
    Calls Tryd.prog 78 #[v, .func (.func f) #[] cap] w fun e w' => e = .returned (.int .i64 (findI p xs)) ∧ Below w.heap.size w w' := by
  have H := Lib.hid h
  have HP := Lib.hid hp
  obtain ⟨A, c, rfl, hc1, hl1, he1⟩ := h
  clear he1 hp
  go_enter Tryd.func78, Tryd.ntmps78
  go_wp2_with fail
  go_loopw [8] (fun i wr => ∃ k : Nat, k ≤ xs.length ∧ i = .int .i64 k ∧ Below w.heap.size w wr ∧ Hid (∀ x ∈ xs.take k, p x = false)) (fun i _ => xs.length - (intOf i).toNat)
  case atStart => exact ⟨0, Nat.zero_le _, rfl, Below.refl _ _, Lib.hid (by simp)⟩
  case round =>
    obtain ⟨k, hk, rfl, hb, HA⟩ := hrel
    by_cases hlt : k < xs.length
    · have hbB := hb.mono hB
      obtain ⟨A', c', hA', _, _, hel⟩ := H.out.keep hK hbB
      cases hA'
      obtain ⟨b, o, e, rfl, hbl, hlen, hce, hR⟩ := hel k _ (List.getElem?_eq_getElem hlt)
      match e, hlen with
      | [e0, e1], _ =>
      have h0 : wr.cell? ⟨b, o + k * 2, none⟩ = some e0 := hce 0 _ rfl
      have h1 : wr.cell? ⟨b, o + k * 2 + 1, none⟩ = some e1 := hce 1 _ rfl
      have hcall := HP.out wr xs[k] e0 e1 (List.getElem_mem hlt) hbB (by have := hb.size; omega) hR
      have HC := Lib.hid hcall
      have HBB := Lib.hid hb
      clear hel hce hR hcall hbB hb
      go_wp2_with (fail)
      refine HC.out.mono ?_
      rintro e w2 ⟨rfl, hb2⟩
      have HB2 := Lib.hid hb2
      clear hb2
      by_cases hpx : p xs[k] = true
      · have HX := Lib.hid hpx
        go_wp2_with (fail)
        go_ret
        exact ⟨ret_int (findI_at p xs k hlt HA.out HX.out).symm, HBB.out.trans (HB2.out.mono HBB.out.size)⟩
      · have hpf : p xs[k] = false := by simpa using hpx
        have HX := Lib.hid hpf
        clear hpx
        go_wp2_with (fail)
        go_roundw
        case rel =>
          refine ⟨k + 1, by omega, by go_num, HBB.out.trans (HB2.out.mono HBB.out.size), Lib.hid ?_⟩
          rw [List.take_succ_eq_append_getElem hlt]
          intro x hx
          rcases List.mem_append.1 hx with h | h
          · exact HA.out x h
          · simp at h; subst h; exact HX.out
        case measure => simp [intOf] <;> omega
    · go_wp2_with fail
      go_ret
      exact ⟨ret_int (findI_none p xs (by have := HA.out; rwa [List.take_of_length_le (by omega)] at this)).symm, hb⟩

theorem containsFuncSpan {R : World → Nat → List Value → α → Prop} (hK : KeptR R) (f : FuncId) (eg : ∀ args w, (callFunc f args).run Tryd.prog w = .ok (.enter f args) w) (cap : Array Value) (p : α → Bool) (v : Value) (xs : List α) (w : World) (B : Nat) (hB : B ≤ w.heap.size) (h : SlR R 2 w B v xs)
    (hp : PredAtSpan R B w f cap p xs) :
    Calls Tryd.prog 42 #[v, .func (.func f) #[] cap] w fun e w' => e = .returned (.bool (xs.any p)) ∧ Below w.heap.size w w' := by
  have H := Lib.hid h
  have HP := Lib.hid hp
  have HE := Lib.hid eg
  clear h hp eg
  go_enter Tryd.func42, Tryd.ntmps42
  go_wp2_with (go_at_call 78; refine (indexFuncSpan hK f HE.out cap p v xs w B hB H.out HP.out).mono ?_; rintro e w' ⟨rfl, hb⟩)
  go_ret
  exact ⟨ret_bool (findI_ge p xs), hb⟩

end Go.Proofs.YtafpbfmhhpcalaaDoor
