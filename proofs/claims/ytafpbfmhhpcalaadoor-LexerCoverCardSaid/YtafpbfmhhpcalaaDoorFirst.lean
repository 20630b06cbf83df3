/- Contracts of trust.first at the element types that this seat has. -/
import Derived.Test.YtafpbfmhhpcalaaDoorCheck
import Derived.Test.YtafpbfmhhpcalaaDoorResign
namespace Go.Proofs.YtafpbfmhhpcalaaDoor
open Go.RowKit
theorem find_at {α : Type} (p : α → Bool) (xs : List α) (k : Nat) (hk : k < xs.length) (h : ∀ x ∈ xs.take k, p x = false) (hx : p xs[k] = true) : xs.find? p = some xs[k] := by
  induction xs generalizing k with
  | nil => simp at hk
  | cons x r ih =>
    cases k with
    | zero => simp at hx; simp [hx]
    | succ k =>
      have h0 : p x = false := h x (by simp)
      rw [List.find?_cons_of_neg (by simp [h0])]
      exact ih k (by simpa using hk) (fun y hy => h y (by simp [hy])) (by simpa using hx)
structure Np.Key where
  n : Int
  alg : Int
deriving DecidableEq
def RKey (_ : World) (_ : Nat) (e : List Value) (k : Np.Key) : Prop := e = [.int .i64 k.n, .int .i64 k.alg]
theorem rkey_kept : KeptR RKey := fun _ _ _ _ _ h _ => h
theorem rkey_more : MoreR RKey := fun _ _ _ _ _ h _ => h

def PredFSig (B : Nat) (w : World) (f : FuncId) (cap : Array Value) (p : Np.Sig → Bool) (xs : List Np.Sig) : Prop :=
  ∀ (W : World) (x : Np.Sig) (e : List Value), x ∈ xs → Below B w W → B ≤ W.heap.size → RSig W B e x → Calls Tryd.prog f (#[.agg e.toArray] ++ cap) W fun e w' => e = .returned (.bool (p x)) ∧ Below W.heap.size W w'

/-- What trust.first hands back: the first element for which the function says so. -/
def GivesFirstSig (B : Nat) (w : World) (p : Np.Sig → Bool) (xs : List Np.Sig) (e : Ending) (w' : World) : Prop :=
  ∃ (s : ByteArray) (a b c d q : Int), e = .returned (.tuple #[.agg #[.string s, .int .i64 a, .int .i64 b, .int .i64 c, .int .i64 d, .int .u64 q], .bool (xs.any p)]) ∧ Below w.heap.size w w' ∧ (∀ x, xs.find? p = some x → RSig w B [.string s, .int .i64 a, .int .i64 b, .int .i64 c, .int .i64 d, .int .u64 q] x) ∧ (xs.any p = false → ([.string s, .int .i64 a, .int .i64 b, .int .i64 c, .int .i64 d, .int .u64 q] : List Value) = [.string ⟨#[]⟩, .int .i64 0, .int .i64 0, .int .i64 0, .int .i64 0, .int .u64 0])
set_option maxRecDepth 100000 in
set_option maxHeartbeats 1000000 in
theorem firstSig (f : FuncId) (eg : ∀ args w, (callFunc f args).run Tryd.prog w = .ok (.enter f args) w) (cap : Array Value) (p : Np.Sig → Bool) (v : Value) (xs : List Np.Sig) (w : World) (B : Nat) (hB : B ≤ w.heap.size) (h : SlR RSig 6 w B v xs)
    (hp : PredFSig B w f cap p xs) :
    Calls Tryd.prog 45 #[v, .func (.func f) #[] cap] w (GivesFirstSig B w p xs) := by
  have H := Lib.hid h
  have HP := Lib.hid hp
  obtain ⟨A, c, rfl, hc1, hl1, he1⟩ := h
  clear he1 hp
  go_enter Tryd.func45, Tryd.ntmps45
  go_wp2_with fail
  go_loopw [11] (fun i wr => ∃ k : Nat, k ≤ xs.length ∧ i = .int .i64 k ∧ Below (w.heap.size + 1) (w.alloc (.cells #[.string ⟨#[]⟩, .int .i64 0, .int .i64 0, .int .i64 0, .int .i64 0, .int .u64 0] 36)) wr ∧ Hid (∀ x ∈ xs.take k, p x = false)) (fun i _ => xs.length - (intOf i).toNat)
  case atStart => exact ⟨0, Nat.zero_le _, rfl, Below.refl _ _, Lib.hid (by simp)⟩
  case round =>
    obtain ⟨k, hk, rfl, hb, HA⟩ := hrel
    have hbw : Below w.heap.size w wr := ((Below.refl _ w).alloc (Nat.le_refl _) _).trans (hb.mono (by omega))
    have hsz := hb.size
    simp only [World.size_alloc] at hsz
    have HBB := Lib.hid hb
    have HBW := Lib.hid hbw
    clear hb hbw
    by_cases hlt : k < xs.length
    · have hbB := HBW.out.mono hB
      obtain ⟨A', c', hA', _, _, hel⟩ := H.out.keep rsig_kept hbB
      cases hA'
      obtain ⟨b, o, e, rfl, hbl, hlen, hce, hR⟩ := hel k _ (List.getElem?_eq_getElem hlt)
      obtain ⟨_, _, hA0, _, _, hel0⟩ := H.out
      cases hA0
      obtain ⟨b0, o0, e', hb0, hbl0, hlen0, hce0, hR0⟩ := hel0 k _ (List.getElem?_eq_getElem hlt)
      cases hb0
      have hee : e' = e := by
        refine List.ext_getElem? fun j => ?_
        rcases Nat.lt_or_ge j 6 with hj | hj
        · have h1 := hce j _ (List.getElem?_eq_getElem (by omega))
          have h2 := hce0 j _ (List.getElem?_eq_getElem (by omega))
          rw [hbB.cell (by exact hbl), h2] at h1
          rw [List.getElem?_eq_getElem (by omega), List.getElem?_eq_getElem (by omega)]
          exact h1
        · rw [List.getElem?_eq_none (by omega), List.getElem?_eq_none (by omega)]
      subst hee
      have HR0 := Lib.hid hR0
      clear hel0 hce0 hR0 hlen0
      have hR' := hR
      obtain ⟨sz, hsz1, hsz2, rfl⟩ := hR'
      have HSZ := Lib.hid hsz1
      clear hsz1
      have h0 : wr.cell? ⟨b, o + k * 6, none⟩ = some (.string sz) := hce 0 _ rfl
      have h1 : wr.cell? ⟨b, o + k * 6 + 1, none⟩ = some (.int .i64 xs[k].key) := hce 1 _ rfl
      have h2 : wr.cell? ⟨b, o + k * 6 + 2, none⟩ = some (.int .i64 xs[k].alg) := hce 2 _ rfl
      have h3 : wr.cell? ⟨b, o + k * 6 + 3, none⟩ = some (.int .i64 xs[k].frm) := hce 3 _ rfl
      have h4 : wr.cell? ⟨b, o + k * 6 + 4, none⟩ = some (.int .i64 xs[k].til) := hce 4 _ rfl
      have h5 : wr.cell? ⟨b, o + k * 6 + 5, none⟩ = some (.int .u64 xs[k].sum) := hce 5 _ rfl
      have hcall := fun o => HP.out (wr.alloc o) xs[k] _ (List.getElem_mem hlt) (hbB.alloc (by omega) _) (by simp; omega) (rsig_kept _ _ _ _ _ hR ((Below.refl _ wr).alloc (by omega) _))
      have HC := Lib.hid hcall
      clear hel hce hR hcall hbB
      go_wp2_with (fail)
      refine (HC.out _).mono ?_
      rintro e w2 ⟨rfl, hb2⟩
      obtain ⟨c2, f2⟩ := bcell hb2
      have hs2 := hb2.size
      simp only [World.size_alloc] at hs2
      have hb3 : Below (w.heap.size + 1) (w.alloc (.cells #[.string ⟨#[]⟩, .int .i64 0, .int .i64 0, .int .i64 0, .int .i64 0, .int .u64 0] 36)) w2 := (HBB.out.alloc hsz _).trans (hb2.mono (by simp; omega))
      by_cases hpx : p xs[k] = true
      · have HX := Lib.hid hpx
        have d0 : w2.cell? ⟨wr.heap.size, 0, none⟩ = some (.string sz) := by rw [c2 _ _ (by simp)]; go_simp
        have d1 : w2.cell? ⟨wr.heap.size, 1, none⟩ = some (.int .i64 xs[k].key) := by rw [c2 _ _ (by simp)]; go_simp
        have d2 : w2.cell? ⟨wr.heap.size, 2, none⟩ = some (.int .i64 xs[k].alg) := by rw [c2 _ _ (by simp)]; go_simp
        have d3 : w2.cell? ⟨wr.heap.size, 3, none⟩ = some (.int .i64 xs[k].frm) := by rw [c2 _ _ (by simp)]; go_simp
        have d4 : w2.cell? ⟨wr.heap.size, 4, none⟩ = some (.int .i64 xs[k].til) := by rw [c2 _ _ (by simp)]; go_simp
        have d5 : w2.cell? ⟨wr.heap.size, 5, none⟩ = some (.int .u64 xs[k].sum) := by rw [c2 _ _ (by simp)]; go_simp
        obtain ⟨c3, f3⟩ := bcell (hb3.mono (by simp))
        have HB3 := Lib.hid hb3
        clear c2 f2 hb2 hb3
        go_wp2_with (fail)
        refine bodyPost_ret (v := .tuple #[.agg #[.string sz, .int .i64 xs[k].key, .int .i64 xs[k].alg, .int .i64 xs[k].frm, .int .i64 xs[k].til, .int .u64 xs[k].sum], .bool true]) (by simp [results, Tryd.results45, go_sem, c3]) rfl ⟨sz, xs[k].key, xs[k].alg, xs[k].frm, xs[k].til, xs[k].sum, ?_, ?_, fun x hx => ?_, fun hx => ?_⟩
        · rw [show xs.any p = true from List.any_eq_true.2 ⟨_, List.getElem_mem hlt, HX.out⟩]
        · have hbw : Below w.heap.size w w2 := ((Below.refl _ w).alloc (Nat.le_refl _) _).trans (HB3.out.mono (by omega))
          repeat refine Below.setCell ?_ (by simp) _
          exact hbw
        · have := find_at p xs k hlt HA.out HX.out
          rw [this] at hx
          cases hx
          exact HR0.out
        · rw [show xs.any p = true from List.any_eq_true.2 ⟨_, List.getElem_mem hlt, HX.out⟩] at hx; cases hx
      · have hpf : p xs[k] = false := by simpa using hpx
        have HX := Lib.hid hpf
        have HB3 := Lib.hid hb3
        clear hpx c2 f2 hb2 hb3
        go_wp2_with (fail)
        go_roundw
        case rel =>
          refine ⟨k + 1, by omega, by go_num, HB3.out, Lib.hid ?_⟩
          rw [List.take_succ_eq_append_getElem hlt]
          intro x hx
          rcases List.mem_append.1 hx with h | h
          · exact HA.out x h
          · simp at h; subst h; exact HX.out
        case measure => simp [intOf] <;> omega
    · obtain ⟨c3, f3⟩ := bcell (HBB.out.mono (by simp))
      have hno : ∀ x ∈ xs, p x = false := by have := HA.out; rwa [List.take_of_length_le (by omega)] at this
      have HN := Lib.hid hno
      have l0 : w.heap.size < wr.heap.size := by omega
      clear hno
      go_wp2_with fail
      refine bodyPost_ret (v := .tuple #[.agg #[.string ⟨#[]⟩, .int .i64 0, .int .i64 0, .int .i64 0, .int .i64 0, .int .u64 0], .bool false]) (by simp [results, Tryd.results45, go_sem, c3, l0]) rfl ⟨⟨#[]⟩, 0, 0, 0, 0, 0, ?_, ?_, fun x hx => ?_, fun _ => rfl⟩
      · rw [show xs.any p = false from List.any_eq_false.2 (fun x hx => by simp [HN.out x hx])]
      · refine Below.alloc ?_ (by simp; omega) _
        repeat refine Below.setCell ?_ (by simp) _
        exact HBW.out
      · have := List.find?_some hx
        rw [HN.out x (List.mem_of_find?_eq_some hx)] at this
        cases this

def PredFKey (B : Nat) (w : World) (f : FuncId) (cap : Array Value) (p : Np.Key → Bool) (xs : List Np.Key) : Prop :=
  ∀ (W : World) (x : Np.Key) (e : List Value), x ∈ xs → Below B w W → B ≤ W.heap.size → RKey W B e x → Calls Tryd.prog f (#[.agg e.toArray] ++ cap) W fun e w' => e = .returned (.bool (p x)) ∧ Below W.heap.size W w'

/-- What trust.first hands back: the first element for which the function says so. -/
def GivesFirstKey (B : Nat) (w : World) (p : Np.Key → Bool) (xs : List Np.Key) (e : Ending) (w' : World) : Prop :=
  ∃ (a b : Int), e = .returned (.tuple #[.agg #[.int .i64 a, .int .i64 b], .bool (xs.any p)]) ∧ Below w.heap.size w w' ∧ (∀ x, xs.find? p = some x → RKey w B [.int .i64 a, .int .i64 b] x) ∧ (xs.any p = false → ([.int .i64 a, .int .i64 b] : List Value) = [.int .i64 0, .int .i64 0])
set_option maxRecDepth 100000 in
set_option maxHeartbeats 1000000 in
theorem firstKey (f : FuncId) (eg : ∀ args w, (callFunc f args).run Tryd.prog w = .ok (.enter f args) w) (cap : Array Value) (p : Np.Key → Bool) (v : Value) (xs : List Np.Key) (w : World) (B : Nat) (hB : B ≤ w.heap.size) (h : SlR RKey 2 w B v xs)
    (hp : PredFKey B w f cap p xs) :
    Calls Tryd.prog 47 #[v, .func (.func f) #[] cap] w (GivesFirstKey B w p xs) := by
  have H := Lib.hid h
  have HP := Lib.hid hp
  obtain ⟨A, c, rfl, hc1, hl1, he1⟩ := h
  clear he1 hp
  go_enter Tryd.func47, Tryd.ntmps47
  go_wp2_with fail
  go_loopw [11] (fun i wr => ∃ k : Nat, k ≤ xs.length ∧ i = .int .i64 k ∧ Below (w.heap.size + 1) (w.alloc (.cells #[.int .i64 0, .int .i64 0] 33)) wr ∧ Hid (∀ x ∈ xs.take k, p x = false)) (fun i _ => xs.length - (intOf i).toNat)
  case atStart => exact ⟨0, Nat.zero_le _, rfl, Below.refl _ _, Lib.hid (by simp)⟩
  case round =>
    obtain ⟨k, hk, rfl, hb, HA⟩ := hrel
    have hbw : Below w.heap.size w wr := ((Below.refl _ w).alloc (Nat.le_refl _) _).trans (hb.mono (by omega))
    have hsz := hb.size
    simp only [World.size_alloc] at hsz
    have HBB := Lib.hid hb
    have HBW := Lib.hid hbw
    clear hb hbw
    by_cases hlt : k < xs.length
    · have hbB := HBW.out.mono hB
      obtain ⟨A', c', hA', _, _, hel⟩ := H.out.keep rkey_kept hbB
      cases hA'
      obtain ⟨b, o, e, rfl, hbl, hlen, hce, hR⟩ := hel k _ (List.getElem?_eq_getElem hlt)
      obtain ⟨_, _, hA0, _, _, hel0⟩ := H.out
      cases hA0
      obtain ⟨b0, o0, e', hb0, hbl0, hlen0, hce0, hR0⟩ := hel0 k _ (List.getElem?_eq_getElem hlt)
      cases hb0
      have hee : e' = e := by
        refine List.ext_getElem? fun j => ?_
        rcases Nat.lt_or_ge j 2 with hj | hj
        · have h1 := hce j _ (List.getElem?_eq_getElem (by omega))
          have h2 := hce0 j _ (List.getElem?_eq_getElem (by omega))
          rw [hbB.cell (by exact hbl), h2] at h1
          rw [List.getElem?_eq_getElem (by omega), List.getElem?_eq_getElem (by omega)]
          exact h1
        · rw [List.getElem?_eq_none (by omega), List.getElem?_eq_none (by omega)]
      subst hee
      have HR0 := Lib.hid hR0
      clear hel0 hce0 hR0 hlen0
      have hR' := hR
      obtain rfl := hR'
      have h0 : wr.cell? ⟨b, o + k * 2, none⟩ = some (.int .i64 xs[k].n) := hce 0 _ rfl
      have h1 : wr.cell? ⟨b, o + k * 2 + 1, none⟩ = some (.int .i64 xs[k].alg) := hce 1 _ rfl
      have hcall := fun o => HP.out (wr.alloc o) xs[k] _ (List.getElem_mem hlt) (hbB.alloc (by omega) _) (by simp; omega) (rkey_kept _ _ _ _ _ hR ((Below.refl _ wr).alloc (by omega) _))
      have HC := Lib.hid hcall
      clear hel hce hR hcall hbB
      go_wp2_with (fail)
      refine (HC.out _).mono ?_
      rintro e w2 ⟨rfl, hb2⟩
      obtain ⟨c2, f2⟩ := bcell hb2
      have hs2 := hb2.size
      simp only [World.size_alloc] at hs2
      have hb3 : Below (w.heap.size + 1) (w.alloc (.cells #[.int .i64 0, .int .i64 0] 33)) w2 := (HBB.out.alloc hsz _).trans (hb2.mono (by simp; omega))
      by_cases hpx : p xs[k] = true
      · have HX := Lib.hid hpx
        have d0 : w2.cell? ⟨wr.heap.size, 0, none⟩ = some (.int .i64 xs[k].n) := by rw [c2 _ _ (by simp)]; go_simp
        have d1 : w2.cell? ⟨wr.heap.size, 1, none⟩ = some (.int .i64 xs[k].alg) := by rw [c2 _ _ (by simp)]; go_simp
        obtain ⟨c3, f3⟩ := bcell (hb3.mono (by simp))
        have HB3 := Lib.hid hb3
        clear c2 f2 hb2 hb3
        go_wp2_with (fail)
        refine bodyPost_ret (v := .tuple #[.agg #[.int .i64 xs[k].n, .int .i64 xs[k].alg], .bool true]) (by simp [results, Tryd.results47, go_sem, c3]) rfl ⟨xs[k].n, xs[k].alg, ?_, ?_, fun x hx => ?_, fun hx => ?_⟩
        · rw [show xs.any p = true from List.any_eq_true.2 ⟨_, List.getElem_mem hlt, HX.out⟩]
        · have hbw : Below w.heap.size w w2 := ((Below.refl _ w).alloc (Nat.le_refl _) _).trans (HB3.out.mono (by omega))
          repeat refine Below.setCell ?_ (by simp) _
          exact hbw
        · have := find_at p xs k hlt HA.out HX.out
          rw [this] at hx
          cases hx
          exact HR0.out
        · rw [show xs.any p = true from List.any_eq_true.2 ⟨_, List.getElem_mem hlt, HX.out⟩] at hx; cases hx
      · have hpf : p xs[k] = false := by simpa using hpx
        have HX := Lib.hid hpf
        have HB3 := Lib.hid hb3
        clear hpx c2 f2 hb2 hb3
        go_wp2_with (fail)
        go_roundw
        case rel =>
          refine ⟨k + 1, by omega, by go_num, HB3.out, Lib.hid ?_⟩
          rw [List.take_succ_eq_append_getElem hlt]
          intro x hx
          rcases List.mem_append.1 hx with h | h
          · exact HA.out x h
          · simp at h; subst h; exact HX.out
        case measure => simp [intOf] <;> omega
    · obtain ⟨c3, f3⟩ := bcell (HBB.out.mono (by simp))
      have hno : ∀ x ∈ xs, p x = false := by have := HA.out; rwa [List.take_of_length_le (by omega)] at this
      have HN := Lib.hid hno
      have l0 : w.heap.size < wr.heap.size := by omega
      clear hno
      go_wp2_with fail
      refine bodyPost_ret (v := .tuple #[.agg #[.int .i64 0, .int .i64 0], .bool false]) (by simp [results, Tryd.results47, go_sem, c3, l0]) rfl ⟨0, 0, ?_, ?_, fun x hx => ?_, fun _ => rfl⟩
      · rw [show xs.any p = false from List.any_eq_false.2 (fun x hx => by simp [HN.out x hx])]
      · refine Below.alloc ?_ (by simp; omega) _
        repeat refine Below.setCell ?_ (by simp) _
        exact HBW.out
      · have := List.find?_some hx
        rw [HN.out x (List.mem_of_find?_eq_some hx)] at this
        cases this
end Go.Proofs.YtafpbfmhhpcalaaDoor
