/- Joined by program from: Cmp, Under2, Ord. No condition. -/
import Derived.Test.YtnbolgdccdnjeaaGreatDoorNA
import Derived.Test.YtnbolgdccdnjeaaGreatDoorNB
import Derived.Test.YtnbolgdccdnjeaaGreatDoorPA
import Derived.Test.YtnbolgdccdnjeaaGreatDoorShelf
import Derived.Laws.EntriesVeiled
import Derived.IntWalk
/- Contracts of package name: which of two names is before the other. -/
namespace Go.Proofs.YtnbolgdccdnjeaaGreatDoor
open Go.RowKit Go.Shelf
attribute [local go_sem] Oper.semAt_some

/-- What a puller's boxes hold: the labels that are still to come. -/
def Pull (W : World) (lm lr : Nat) (rem : List (List UInt8)) : Prop :=
  ∃ (more : Bool) (r : ByteArray), Boxed W lm 4 (.bool more) ∧ Boxed W lr 9 (.string r) ∧ r.size ≤ 140737488355328 ∧ rem = if more then (Np.splitDots r.data.toList).reverse else []
theorem Pull.it {B : Nat} {S : Nat → Prop} {W W' : World} {lm lr : Nat} {rem : List (List UInt8)} (h : Pull W lm lr rem) (hs : ItStep B S W W') (h1 : S lm) (h2 : S lr) : Pull W' lm lr rem := by
  obtain ⟨more, r, b1, b2, h3, h4⟩ := h
  exact ⟨more, r, boxed_it b1 hs h1, boxed_it b2 hs h2, h3, h4⟩
theorem Pull.far {W : World} {lm lr : Nat} {rem : List (List UInt8)} (h : Pull W lm lr rem) {p : Addr} (h1 : lm ≠ p.block) (h2 : lr ≠ p.block) (u : Value) : Pull (W.setCell p u) lm lr rem := by
  obtain ⟨more, r, b1, b2, h3, h4⟩ := h
  exact ⟨more, r, boxed_far b1 h1 u, boxed_far b2 h2 u, h3, h4⟩
/-- What one call of a puller hands back. -/
def PullTo (W : World) (lm lr : Nat) (rem : List (List UInt8)) (e : Ending) (W' : World) : Prop :=
  (rem = [] ∧ e = .returned (.tuple #[.string ⟨#[]⟩, .bool false]) ∧ W' = W) ∨
  ∃ x rest, rem = x :: rest ∧ e = .returned (.tuple #[strs x, .bool true]) ∧ Pull W' lm lr rest ∧ ∃ b u, (b = lm ∨ b = lr) ∧ W' = W.setCell ⟨b, 0, none⟩ u
set_option maxHeartbeats 1000000 in
theorem next_any (lm lr : Nat) (hne : lm ≠ lr) (rem : List (List UInt8)) (w : World) (h : Pull w lm lr rem) :
    Calls Tryz.prog 175 #[.pointer (some ⟨lm, 0, none⟩), .pointer (some ⟨lr, 0, none⟩)] w (PullTo w lm lr rem) := by
  obtain ⟨more, r, b1, b2, h3, h4⟩ := h
  have HR := Lib.hid h4
  clear h4
  have c1 := b1.cell
  have c2 := b2.cell
  have f1 := b1.frozen
  have f2 := b2.frozen
  cases more with
  | false =>
    go_enter Tryz.func175, Tryz.ntmps175
    go_wp2_with fail
    refine bodyPost_ret (v := .tuple #[.string ⟨#[]⟩, .bool false]) (by simp [results, Tryz.results175, go_sem]) rfl ?_
    exact .inl ⟨HR.out, rfl, rfl⟩
  | true =>
    go_enter Tryz.func175, Tryz.ntmps175
    go_wp2_with fail
    refine (lastIndexByte_any _ h3 _ (by decide) (by decide) _).mono ?_
    rintro e w' ⟨q, hq, rfl, rfl⟩
    rcases hq with ⟨rfl, hno⟩ | ⟨a, b, hab, hnb, rfl⟩
    · have hs1 : Np.splitDots r.data.toList = [r.data.toList] := Np.splitDots_none hno
      have HS := Lib.hid hs1
      clear hs1 hno
      go_wp2_with fail
      refine bodyPost_ret (v := .tuple #[.string r, .bool true]) (by simp [results, Tryz.results175, go_sem]) rfl ?_
      refine .inr ⟨r.data.toList, [], by rw [HR.out, if_pos trivial, HS.out]; rfl, rfl, ⟨false, r, b1.set _, boxed_far b2 (by simpa using hne.symm) _, h3, rfl⟩, lm, _, .inl rfl, rfl⟩
    · have hsz2 : a.length + 1 + b.length = r.size := by rw [← size_list, hab]; simp; omega
      have hs1 : Np.splitDots r.data.toList = Np.splitDots a ++ [b] := by rw [hab]; exact (Np.splitDots_app a b).trans (by rw [Np.splitDots_none hnb])
      have hxb : (r.extract (a.length + 1) r.size).data.toList = b := by rw [ext_from, hab]; simp
      have hxa : (r.extract 0 a.length).data.toList = a := by rw [ext_to, hab]; simp
      have HXB : Hid (r.extract (a.length + 1) r.size = ⟨b.toArray⟩) := Lib.hid (str_ext (by rw [hxb]))
      have HXA := Lib.hid hxa
      have HS := Lib.hid hs1
      clear hs1 hxb hxa hab hnb
      have hal : a.length ≤ 140737488355328 := by omega
      have hal2 : a.length + 1 ≤ r.size := by omega
      have hal3 : (a.length : Int) + 1 ≤ (r.size : Int) := by omega
      clear hsz2
      go_wp2_with fail
      refine bodyPost_ret (v := .tuple #[.string (r.extract (a.length + 1) r.size), .bool true]) (by simp [results, Tryz.results175, go_sem]) rfl ?_
      refine .inr ⟨b, (Np.splitDots a).reverse, by rw [HR.out, if_pos trivial, HS.out]; simp, by rw [HXB.out], ⟨true, r.extract 0 a.length, boxed_far b1 (by simpa using hne) _, b2.set _, by rw [← size_list, HXA.out]; omega, by rw [HXA.out]; rfl⟩, lr, _, .inr rfl, rfl⟩
theorem puller_any (t : ByteArray) (ht : t.size ≤ 140737488355328) (w : World) :
    Calls Tryz.prog 147 #[.string t] w fun e w' => e = .returned (.func (.func 175) #[] #[.pointer (some ⟨w.heap.size + 1, 0, none⟩), .pointer (some ⟨w.heap.size, 0, none⟩)]) ∧
      Pull w' (w.heap.size + 1) w.heap.size (Np.back t.data.toList) ∧ Below w.heap.size w w' ∧ w'.heap.size = w.heap.size + 2 := by
  have b0 := Boxed.new w 9 (.string t)
  have hb : ∀ o o', Below w.heap.size w ((w.alloc o).alloc o') := fun o o' => ((Below.refl _ w).alloc (Nat.le_refl _) _).alloc (by simp) _
  by_cases he : t.data.toList = [46]
  · have he2 : (t.toList == [46]) = true := by rw [ByteArray.toList_eq, he]; rfl
    have b1 := Boxed.new (w.alloc (.cells #[.string t] 9)) 4 (.bool false)
    rw [World.size_alloc] at b1
    have HB : Hid (Np.back t.data.toList = []) := Lib.hid (by simp [Np.back, he])
    clear he
    go_enter Tryz.func147, Tryz.ntmps147
    go_wp2_with fail
    go_ret
    exact ⟨rfl, ⟨false, t, b1, b0.alloc _, ht, by rw [HB.out]; rfl⟩, hb _ _, by simp⟩
  · have he2 : (t.toList == [46]) = false := by rw [ByteArray.toList_eq]; simpa using he
    have b1 := Boxed.new (w.alloc (.cells #[.string t] 9)) 4 (.bool true)
    rw [World.size_alloc] at b1
    have HB : Hid (Np.back t.data.toList = (Np.splitDots t.data.toList).reverse) := Lib.hid (by simp [Np.back, he])
    clear he
    go_enter Tryz.func147, Tryz.ntmps147
    go_wp2_with fail
    go_ret
    exact ⟨rfl, ⟨true, t, b1, b0.alloc _, ht, by rw [HB.out]; rfl⟩, hb _ _, by simp⟩
theorem cmpS_eq : ∀ a b : List UInt8, Lib.compareBytes a b = Np.cmpS a b := by
  intro a
  induction a with
  | nil =>
    intro b
    cases b with
    | nil => rfl
    | cons y b => simp [Lib.compareBytes, Np.cmpS, Op.bytesLess]
  | cons x a ih =>
    intro b
    cases b with
    | nil => simp [Lib.compareBytes, Np.cmpS, Op.bytesLess]
    | cons y b =>
      rw [Lib.compareBytes, ih b]
      by_cases h1 : x < y
      · simp [Np.cmpS, Op.bytesLess, h1]
      · by_cases h2 : y < x
        · have h3 : ¬ x = y := fun e => by subst e; exact h1 h2
          simp [Np.cmpS, Op.bytesLess, h1, h2, h3]
        · have h3 : x = y := by
            apply UInt8.toNat_inj.1
            simp only [UInt8.lt_iff_toNat_lt] at h1 h2
            omega
          subst h3
          simp [Np.cmpS, Op.bytesLess, h1]
theorem strCompare_any (s t : ByteArray) (w : World) :
    Calls Tryz.prog 148 #[.string s, .string t] w fun e w' => e = .returned (.int .i64 (Np.cmpS s.data.toList t.data.toList)) ∧ w = w' :=
  (Tryz.strings_Compare s t w).mono fun e w' ⟨he, hw⟩ => ⟨by rw [he, cmpS_eq], hw.symm⟩
/-- The boxes of a comparison. -/
def CmpS (g lm lr l8 : Nat) (S : Nat → Prop) : Prop := ∀ k, S k ↔ k = g ∨ k = g + 1 ∨ k = lm ∨ k = lr ∨ k = l8
def CmpI (w : World) (g lm lr l8 : Nat) (fv : Value) (m n : List UInt8) (pre : List (List UInt8)) (S : Nat → Prop) (W : World) : Prop :=
  CmpS g lm lr l8 S ∧ Boxed W g 3 (.int .i64 0) ∧ Boxed W (g + 1) 25 (.int .i64 0) ∧ Boxed W l8 163 fv ∧
  (∃ rem, Pull W lm lr rem ∧ ∀ rest, Np.back m = pre ++ rest → Np.cmpL (Np.back m) (Np.back n) = Np.cmpL rest rem) ∧ Below w.heap.size w W
def CmpX (w : World) (g lm lr l8 : Nat) (m n : List UInt8) (c : Code) (_ : List (List UInt8)) (S : Nat → Prop) (W : World) : Prop :=
  c = .ret ∧ CmpS g lm lr l8 S ∧ Boxed W g 3 (.int .i64 (Np.cmpL (Np.back m) (Np.back n))) ∧ Boxed W (g + 1) 25 (.int .i64 0) ∧ Below w.heap.size w W
theorem cmpI_stable (w : World) (g lm lr l8 : Nat) (fv : Value) (m n : List UInt8) (B : Nat) (hB : w.heap.size ≤ B) : StableAt B (CmpI w g lm lr l8 fv m n) := by
  rintro s S W W' ⟨hS, h1, h2, h3, ⟨rem, h4, h5⟩, h6⟩ hst
  exact ⟨hS, boxed_it h1 hst ((hS _).2 (.inl rfl)), boxed_it h2 hst ((hS _).2 (.inr (.inl rfl))), boxed_it h3 hst ((hS _).2 (.inr (.inr (.inr (.inr rfl))))),
    ⟨rem, h4.it hst ((hS _).2 (.inr (.inr (.inl rfl)))) ((hS _).2 (.inr (.inr (.inr (.inl rfl))))), h5⟩, below_it h6 hst hB (Nat.le_refl _)⟩
theorem cmpX_stable (w : World) (g lm lr l8 : Nat) (m n : List UInt8) (B : Nat) (hB : w.heap.size ≤ B) (c : Code) : StableAt B (CmpX w g lm lr l8 m n c) := by
  rintro s S W W' ⟨hc, hS, h1, h2, h6⟩ hst
  exact ⟨hc, hS, boxed_it h1 hst ((hS _).2 (.inl rfl)), boxed_it h2 hst ((hS _).2 (.inr (.inl rfl))), below_it h6 hst hB (Nat.le_refl _)⟩
theorem PullTo.rd {W W' : World} {lm lr : Nat} {rem : List (List UInt8)} {e : Ending} (h : PullTo W lm lr rem e W') : (rem = [] ∧ e = .returned (.tuple #[.string ⟨#[]⟩, .bool false]) ∧ W' = W) ∨
    ∃ x rest, rem = x :: rest ∧ e = .returned (.tuple #[strs x, .bool true]) ∧ Pull W' lm lr rest ∧ (∀ S : Nat → Prop, S lm → S lr → RdStep S W W') ∧ (∀ b t v, b ≠ lm → b ≠ lr → Boxed W b t v → Boxed W' b t v) ∧ (∀ (n : Nat) (w : World), n ≤ lm → n ≤ lr → Below n w W → Below n w W') := by
  rcases h with h | ⟨x, rest, h1, h2, h3, b, u, hb, rfl⟩
  · exact .inl h
  · refine .inr ⟨x, rest, h1, h2, h3, fun S s1 s2 => ?_, fun b' t v n1 n2 hv => boxed_far hv (by rcases hb with rfl | rfl <;> assumption) _, fun n w n1 n2 hB => hB.setCell (p := ⟨b, 0, none⟩) (by rcases hb with rfl | rfl <;> assumption) _⟩
    exact RdStep.setCell (RdStep.refl S W) (.inl (by rcases hb with rfl | rfl <;> assumption)) _
theorem cmp_ret {w : World} {lm lr l8 : Nat} {fv : Value} {m n : List UInt8} {pre : List (List UInt8)} {S : Nat → Prop} {W W3 : World} {a : Act} {v0 v1 : Value} {q : Int} (hS : CmpS w.heap.size lm lr l8 S)
    (hr : RdStep S W W3) (hlt : ∀ k, S k → k < W.heap.size) (c0 : Boxed W3 w.heap.size 3 v0) (c1 : Boxed W3 (w.heap.size + 1) 25 v1) (hB : Below w.heap.size w W3) (hv : Np.cmpL (Np.back m) (Np.back n) = q) :
    bodyTo (CmpI w w.heap.size lm lr l8 fv m n) (CmpX w w.heap.size lm lr l8 m n) pre S W .ret a ((W3.setCell ⟨w.heap.size, 0, none⟩ (.int .i64 q)).setCell ⟨w.heap.size + 1, 0, none⟩ (.int .i64 0)) :=
  ⟨S, (hr.setCell (.inl ((hS _).2 (.inl rfl))) _).setCell (.inl ((hS _).2 (.inr (.inl rfl)))) _, fun _ e => .inl e, fun k e => by have := hlt k e; have := hr.size; simp [World.setCell]; omega, rfl, hS,
    by rw [hv]; exact boxed_far (c0.set _) (by simp) _, (boxed_far c1 (by simp) _).set _, (hB.setCell (Nat.le_refl _) _).setCell (by simp) _⟩
/-- What Compare hands back. -/
def cmpVal (a b : List UInt8) : Value := if Np.validName a && Np.validName b then .tuple #[.int .i64 (Np.cmpName a b), .int .i64 0] else .tuple #[.int .i64 0, .int .i64 11]
set_option maxHeartbeats 1000000 in
theorem compare_any (a b : ByteArray) (ha : a.size ≤ 140737488355328) (hb : b.size ≤ 140737488355328) (w : World) :
    Calls Tryz.prog 109 #[.string a, .string b] w fun e w' => e = .returned (cmpVal a.data.toList b.data.toList) ∧ Below w.heap.size w w' := by
  refine (callsIn_wide (n := 0)).1 ?_
  refine callsIn_of_wp_marks Tryz.func109 rfl trivial ?_ rfl
  simp only [Tryz.ntmps109, List.size_toArray, List.length_cons, List.length_nil, Nat.reduceAdd, Nat.reduceSub, Array.replicate_succ, Array.replicate_zero, List.push_toArray, List.append_toArray, List.nil_append, List.cons_append]
  have b0 := Boxed.new w 3 (.int .i64 0)
  have b1 := Boxed.new (w.alloc (.cells #[.int .i64 0] 3)) 25 (.int .i64 0)
  rw [World.size_alloc] at b1
  replace b0 := b0.alloc (.cells #[.int .i64 0] 25)
  have hW0 : Below w.heap.size w ((w.alloc (.cells #[.int .i64 0] 3)).alloc (.cells #[.int .i64 0] 25)) := ((Below.refl _ w).alloc (Nat.le_refl _) _).alloc (by simp) _
  gi_wp2_with fail
  refine ⟨trivial, rfl, ?_⟩
  refine (callsIn_wide.2 (valid_any a ha _)).mono ?_
  rintro e w1 ⟨rfl, hb1⟩
  replace b0 := boxed_below b0 hb1 (by simp; omega)
  replace b1 := boxed_below b1 hb1 (by simp)
  replace hW0 := hW0.trans (hb1.mono (by simp; omega))
  clear hb1
  have hbad : ∀ (W : World) (tmps : Array Value), Boxed W w.heap.size 3 (.int .i64 0) → Boxed W (w.heap.size + 1) 25 (.int .i64 11) → Below w.heap.size w W → (Np.validName a.data.toList && Np.validName b.data.toList) = false →
      tmps[4]? = some (.pointer (some ⟨w.heap.size, 0, none⟩)) → tmps[5]? = some (.pointer (some ⟨w.heap.size + 1, 0, none⟩)) →
      bodyPostM Fence.wide 0 Tryz.prog Tryz.f109 (fun e w' => e = .returned (cmpVal a.data.toList b.data.toList) ∧ Below w.heap.size w w') .ret { tmps := tmps, defers := [] } W := fun W tmps c0 c1 hB hv t4 t5 => by
    have d0 := c0.cell
    have d1 := c1.cell
    exact endM0 (v := .tuple #[.int .i64 0, .int .i64 11]) (by simp [results, Tryz.results109, go_sem, d0, d1, t4, t5]) ⟨by rw [cmpVal, hv]; rfl, hB⟩
  have HBAD := Lib.hid hbad
  clear hbad
  have c0 := b0.cell
  have c1 := b1.cell
  have f0 := b0.frozen
  have f1 := b1.frozen
  cases va : Np.validName a.data.toList with
  | false =>
    gi_wp2_with fail
    refine ⟨trivial, ?_⟩
    gi_wp2_with fail
    refine HBAD.out _ _ (boxed_far (b0.set _) (by simp) _) ((boxed_far b1 (by simp) _).set _) ((hW0.setCell (Nat.le_refl _) _).setCell (by simp) _) (by rw [va]; rfl) rfl rfl
  | true =>
    have VA := Lib.hid va
    clear va c0 c1 f0 f1
    gi_wp2_with fail
    refine ⟨trivial, rfl, ?_⟩
    refine (callsIn_wide.2 (valid_any b hb _)).mono ?_
    rintro e w2 ⟨rfl, hb2⟩
    have hs1 : w.heap.size + 1 < w1.heap.size := b1.lt
    replace b0 := boxed_below b0 hb2 (by omega)
    replace b1 := boxed_below b1 hb2 hs1
    replace hW0 := hW0.trans (hb2.mono (by omega))
    have hs2 := hb2.size
    clear hb2
    have c0 := b0.cell
    have c1 := b1.cell
    have f0 := b0.frozen
    have f1 := b1.frozen
    cases vb : Np.validName b.data.toList with
    | false =>
      gi_wp2_with fail
      refine HBAD.out _ _ (boxed_far (b0.set _) (by simp) _) ((boxed_far b1 (by simp) _).set _) ((hW0.setCell (Nat.le_refl _) _).setCell (by simp) _) (by rw [vb, Bool.and_false]) rfl rfl
    | true =>
      have VV : Hid ((Np.validName a.data.toList && Np.validName b.data.toList) = true) := Lib.hid (by rw [VA.out, vb]; rfl)
      clear vb VA HBAD
      by_cases hab : a.data.toList = b.data.toList
      · have hab2 : (a.toList == b.toList) = true := by rw [ByteArray.toList_eq, ByteArray.toList_eq, hab]; simp
        gi_wp2_with fail
        have d0 := (boxed_far (b0.set (.int .i64 0)) (p := ⟨w.heap.size + 1, 0, none⟩) (by simp) (.int .i64 0)).cell
        have d1 := ((boxed_far b1 (p := ⟨w.heap.size, 0, none⟩) (by simp) (.int .i64 0)).set (.int .i64 0)).cell
        exact endM0 (v := .tuple #[.int .i64 0, .int .i64 0]) (by simp [results, Tryz.results109, go_sem, d0, d1]) ⟨by rw [cmpVal, VV.out, hab]; simp [Np.cmpName], (hW0.setCell (Nat.le_refl _) _).setCell (by simp) _⟩
      · have hab2 : (a.toList == b.toList) = false := by rw [ByteArray.toList_eq, ByteArray.toList_eq]; simpa using hab
        have HV : Hid (cmpVal a.data.toList b.data.toList = .tuple #[.int .i64 (Np.cmpL (Np.back a.data.toList) (Np.back b.data.toList)), .int .i64 0]) := Lib.hid (by rw [cmpVal, VV.out]; simp [Np.cmpName, hab])
        clear hab
        gi_wp2_with fail
        refine ⟨trivial, rfl, ?_⟩
        refine (callsIn_wide.2 (puller_any b hb _)).mono ?_
        rintro e w3 ⟨rfl, hp3, hb3, hs3⟩
        have HS3 := Lib.hid hs3
        clear hs3
        replace b0 := boxed_below b0 hb3 (by omega)
        replace b1 := boxed_below b1 hb3 (by omega)
        replace hW0 := hW0.trans (hb3.mono (by omega))
        clear hb3
        have hl := hW0.size
        have b8 := Boxed.new w3 163 (.func (.func 175) #[] #[.pointer (some ⟨w2.heap.size + 1, 0, none⟩), .pointer (some ⟨w2.heap.size, 0, none⟩)])
        replace b0 := b0.alloc (.cells #[.func (.func 175) #[] #[.pointer (some ⟨w2.heap.size + 1, 0, none⟩), .pointer (some ⟨w2.heap.size, 0, none⟩)]] 163)
        replace b1 := b1.alloc (.cells #[.func (.func 175) #[] #[.pointer (some ⟨w2.heap.size + 1, 0, none⟩), .pointer (some ⟨w2.heap.size, 0, none⟩)]] 163)
        replace hp3 : Pull (w3.alloc (.cells #[.func (.func 175) #[] #[.pointer (some ⟨w2.heap.size + 1, 0, none⟩), .pointer (some ⟨w2.heap.size, 0, none⟩)]] 163)) (w2.heap.size + 1) w2.heap.size (Np.back b.data.toList) := hp3.it (B := w3.heap.size) (S := fun _ => True) (it_alloc _) trivial trivial
        replace hW0 := hW0.alloc hW0.size (.cells #[.func (.func 175) #[] #[.pointer (some ⟨w2.heap.size + 1, 0, none⟩), .pointer (some ⟨w2.heap.size, 0, none⟩)]] 163)
        clear c0 c1 f0 f1
        have n8 := Boxed.new w3 163 .nilFunc
        have n8c := n8.cell
        have n8f := n8.frozen
        gi_wp2_with fail
        clear n8 n8c n8f
        have hEG := enters_of Tryz.func175 (by kernel_rfl) rfl
        have hlt8 : w.heap.size + 1 < w2.heap.size := by omega
        have hs3' : w3.heap.size = w2.heap.size + 2 := HS3.out
        refine wpIn_range' (n₀ := w.heap.size) (w0 := w) (first := #[.string a]) (captured := #[]) (gf := 103) rfl (enters_of Tryz.func103 (by kernel_rfl) rfl) (mk := fun y => #[.string a, y]) (fun _ => rfl)
          (backwards_iter a ha _ w) hW0 hW0.size (fun _ => rfl) (CmpI w w.heap.size (w2.heap.size + 1) w2.heap.size w3.heap.size (.func (.func 175) #[] #[.pointer (some ⟨w2.heap.size + 1, 0, none⟩), .pointer (some ⟨w2.heap.size, 0, none⟩)]) a.data.toList b.data.toList)
          (CmpX w w.heap.size (w2.heap.size + 1) w2.heap.size w3.heap.size a.data.toList b.data.toList)
          (cmpI_stable _ _ _ _ _ _ _ _ _ hW0.size) (fun c => cmpX_stable _ _ _ _ _ _ _ _ hW0.size c)
          (fun k => k = w.heap.size ∨ k = w.heap.size + 1 ∨ k = w2.heap.size + 1 ∨ k = w2.heap.size ∨ k = w3.heap.size) (by intro k h; omega) (by intro k h; simp; omega)
          ⟨fun _ => Iff.rfl, b0, b1, b8, ⟨_, hp3, fun rest h => by rw [h]; rfl⟩, hW0⟩ ?round ?done ?stop
        case round =>
          rintro l0 pre x S W hpx hI hSlt
          clear hs3'
          gi_wp2
          refine ⟨S, RdStep.refl _ _, fun k e => .inl e, hSlt, ?_⟩
          intro l W₂ hst
          obtain ⟨hS, c0, c1, c8, ⟨rem, hp, hrem⟩, hB⟩ := cmpI_stable w w.heap.size _ _ _ _ _ _ _ hW0.size pre S W W₂ hI hst
          have c8c := c8.cell
          have hSlt2 : ∀ k, S k → k < W₂.heap.size := fun k e => Nat.lt_of_lt_of_le (hSlt k e) hst.size
          have hx : x ∈ Np.back a.data.toList := hpx.subset (by simp)
          have hxl : x.length ≤ 140737488355328 := by have := Np.back_len hx; rw [size_list] at this; omega
          obtain ⟨rest, hrest⟩ := hpx
          have hgo := hrem (x :: rest) (by rw [← hrest]; simp)
          have HR := Lib.hid hrest
          have HG := Lib.hid hgo
          clear hrest hgo hrem hx hI hst b0 b1 b8 hp3
          gi_wp2_with fail
          refine ⟨trivial, rfl, ?_⟩
          refine (CallsIn.inRound l (callsIn_wide.2 (next_any (w2.heap.size + 1) w2.heap.size (by omega) rem _ hp))).mono ?_
          intro e W3 hP
          rcases hP.rd with ⟨hr0, rfl, rfl⟩ | ⟨y, rem', hr0, rfl, hp', hrd, hbx, hbl⟩
          · have c0c := c0.cell
            have c1c := c1.cell
            have c0f := c0.frozen
            have c1f := c1.frozen
            have HR0 := Lib.hid hr0
            clear hr0 hP
            gi_wp2_with fail
            exact cmp_ret hS (RdStep.refl S _) hSlt2 c0 c1 hB (by rw [HG.out, HR0.out]; rfl)
          · have HR0 := Lib.hid hr0
            replace c0 := hbx _ _ _ (by omega) (by omega) c0
            replace c1 := hbx _ _ _ (by omega) (by omega) c1
            replace c8 := hbx _ _ _ (by have := HS3.out; omega) (by have := HS3.out; omega) c8
            have hrd' := hrd S ((hS _).2 (.inr (.inr (.inl rfl)))) ((hS _).2 (.inr (.inr (.inr (.inl rfl)))))
            have hB' := hbl w.heap.size w (by omega) (by omega) hB
            have c0c := c0.cell
            have c1c := c1.cell
            have c0f := c0.frozen
            have c1f := c1.frozen
            clear hr0 hP hrd hbx hbl c8c hp hB
            have hgo : Np.cmpL (Np.back a.data.toList) (Np.back b.data.toList) = if Np.cmpS x y ≠ 0 then Np.cmpS x y else Np.cmpL rest rem' := by rw [HG.out, HR0.out]; rfl
            have HGO := Lib.hid hgo
            clear hgo HG
            have hcall := strCompare_any ⟨x.toArray⟩ ⟨y.toArray⟩ W3
            by_cases hc : Np.cmpS x y = 0
            · have hc2 : (Np.cmpS x y != 0) = false := by simp [hc]
              have HC := Lib.hid hc
              clear hc
              gi_wp2_with (refine ⟨trivial, rfl, ?_⟩; gi_at_call 148; refine (CallsIn.inRound l (callsIn_wide.2 hcall)).mono ?_; rintro e w' ⟨rfl, rfl⟩)
              refine ⟨S, hrd', fun _ e => .inl e, fun k e => by have := hSlt2 k e; have := hrd'.size; omega, hS, c0, c1, c8, ⟨rem', hp', fun r hr => ?_⟩, hB'⟩
              have : r = rest := List.append_cancel_left (hr.symm.trans HR.out.symm)
              rw [HGO.out, if_neg (fun h => h HC.out), this]
            · have hc2 : (Np.cmpS x y != 0) = true := by simpa using hc
              have HC := Lib.hid hc
              clear hc
              gi_wp2_with (refine ⟨trivial, rfl, ?_⟩; gi_at_call 148; refine (CallsIn.inRound l (callsIn_wide.2 hcall)).mono ?_; rintro e w' ⟨rfl, rfl⟩)
              exact cmp_ret hS hrd' hSlt2 c0 c1 hB' (by rw [HGO.out, if_pos HC.out])
        case done =>
          rintro D S W hD hSD hsub ⟨hS, c0, c1, c8, ⟨rem, hp, hrem⟩, hB⟩ hK
          clear hs3' b0 b1 b8 hp3
          have c0c := c0.cell
          have c1c := c1.cell
          have c0f := c0.frozen
          have c1f := c1.frozen
          have hend : Np.cmpL (Np.back a.data.toList) (Np.back b.data.toList) = -1 := by rw [hrem [] (by simp)]; rfl
          have HE := Lib.hid hend
          have hD0 : w.heap.size ≠ D := fun e => hSD ((hS _).2 (.inl e.symm))
          have hD1 : w.heap.size + 1 ≠ D := fun e => hSD ((hS _).2 (.inr (.inl e.symm)))
          have hDw : w.heap.size ≤ D := by have := hW0.size; omega
          clear hend hrem hp c8
          gi_wp2
          have hK' : ((W.setCell ⟨w.heap.size, 0, none⟩ (.int .i64 (-1))).setCell ⟨w.heap.size + 1, 0, none⟩ (.int .i64 0)).heap[D]? = some (.deferred (some [])) :=
            (Below.heap_setCell _ _ _ _ (by simpa using hD1.symm)).trans ((Below.heap_setCell _ _ _ _ (by simpa using hD0.symm)).trans hK)
          have d0 := (boxed_putObj (boxed_far (c0.set (.int .i64 (-1))) (p := ⟨w.heap.size + 1, 0, none⟩) (by simp) (.int .i64 0)) hD0 (.deferred none)).cell
          have d1 := (boxed_putObj ((boxed_far c1 (p := ⟨w.heap.size, 0, none⟩) (by simp) (.int .i64 (-1))).set (.int .i64 0)) hD1 (.deferred none)).cell
          exact endM1 hK' (v := .tuple #[.int .i64 (-1), .int .i64 0]) (by simp [results, Tryz.results109, go_sem, d0, d1]) ⟨by rw [HV.out, HE.out], below_putObj ((hB.setCell (Nat.le_refl _) _).setCell (by simp) _) hDw _⟩
        case stop =>
          rintro D c pre S W hD hSD hsub hpre ⟨rfl, hS, c0, c1, hB⟩ hK
          clear hs3' b0 b1 b8 hp3
          have hD0 : w.heap.size ≠ D := fun e => hSD ((hS _).2 (.inl e.symm))
          have hD1 : w.heap.size + 1 ≠ D := fun e => hSD ((hS _).2 (.inr (.inl e.symm)))
          have hDw : w.heap.size ≤ D := by have := hW0.size; omega
          gi_wp2
          have d0 := (boxed_putObj c0 hD0 (.deferred none)).cell
          have d1 := (boxed_putObj c1 hD1 (.deferred none)).cell
          exact endM1 hK (v := .tuple #[.int .i64 (Np.cmpL (Np.back a.data.toList) (Np.back b.data.toList)), .int .i64 0]) (by simp [results, Tryz.results109, go_sem, d0, d1]) ⟨by rw [HV.out], below_putObj hB hDw _⟩
end Go.Proofs.YtnbolgdccdnjeaaGreatDoor
/- Contracts of packages name and record: a name under another one; the order of sets. -/
namespace Go.Proofs.YtnbolgdccdnjeaaGreatDoor
open Go.RowKit
theorem ret_under {a b : Bool} (h : a = b) : Ending.returned (.tuple #[.bool a, .int .i64 0]) = .returned (.tuple #[.bool b, .int .i64 0]) := by rw [h]
/-- The suffix, in the model's words. -/
def Np.suffix (s z : ByteArray) : Bool := decide (z.size ≤ s.size) && ((s.extract (s.size - z.size) s.size).toList == z.toList)
def Np.under (s z : ByteArray) : Bool := (s.toList == z.toList) || (z.toList == [46]) || (decide (z.size < s.size) && Np.suffix s z && ((s.data.toList[s.size - z.size - 1]?).map UInt8.toNat == some 46))
theorem suffix_eq (s z : ByteArray) (h : z.size ≤ s.size) : Np.suffix s z = (s.data.toList.drop (s.data.toList.length - z.data.toList.length) == z.data.toList) := by
  unfold Np.suffix
  rw [decide_eq_true h, Bool.true_and, ByteArray.toList_eq, ByteArray.toList_eq, ext_from, size_list, size_list]
theorem under_eq (s z : ByteArray) : Np.under s z = Np.underL s.data.toList z.data.toList := by
  unfold Np.under Np.underL
  rw [ByteArray.toList_eq, ByteArray.toList_eq, size_list, size_list]
  congr 1
  by_cases h : z.size < s.size
  · rw [suffix_eq s z (by omega), size_list, size_list, decide_eq_true h]
    congr 1
    have e : s.data.toList[s.size - z.size - 1]? = some (s[s.size - z.size - 1]'(by omega)) := get_list s _ (by omega)
    rw [e]
    simp only [Option.map_some]
    rw [Bool.eq_iff_iff]
    simp only [beq_iff_eq, Option.some.injEq]
    constructor
    · intro h; apply UInt8.toNat_inj.1; rw [h]; rfl
    · intro h; rw [h]; rfl
  · rw [decide_eq_false h]; rfl
set_option maxRecDepth 100000 in
set_option maxHeartbeats 1000000 in
theorem hasSuffix_lite (s z : ByteArray) (hs : s.size ≤ 140737488355328) (hz : z.size ≤ 140737488355328) (w : World) :
    Calls Tryz.prog 55 #[.string s, .string z] w fun e w' => e = .returned (.bool (Np.suffix s z)) ∧ w' = w := by
  go_enter Tryz.func55, Tryz.ntmps55
  go_wp2_with fail
  all_goals
    go_ret
    refine ⟨ret_bool ?_, rfl⟩
    simp_all [Np.suffix] <;> (intros; omega)
theorem hasSuffix_any (s z : ByteArray) (hs : s.size ≤ 140737488355328) (hz : z.size ≤ 140737488355328) (w : World) :
    Calls Tryz.prog 21 #[.string s, .string z] w fun e w' => e = .returned (.bool (Np.suffix s z)) ∧ w' = w := by
  go_enter Tryz.func21, Tryz.ntmps21
  go_wp2_with (go_at_call 55; refine (hasSuffix_lite s z hs hz _).mono ?_; rintro e w' ⟨rfl, rfl⟩)
  go_ret
  exact ⟨rfl, rfl⟩
set_option maxRecDepth 100000 in
set_option maxHeartbeats 1000000 in
theorem under_yes (s z : ByteArray) (hs : s.size ≤ 140737488355328) (hz : z.size ≤ 140737488355328) (w : World) (v1 : Np.validName s.data.toList = true) (v2 : Np.validName z.data.toList = true) :
    Calls Tryz.prog 26 #[.string s, .string z] w fun e w' => e = .returned (.tuple #[.bool (Np.underL s.data.toList z.data.toList), .int .i64 0]) ∧ Below w.heap.size w w' := by
  rw [← under_eq]
  have V1 := Lib.hid v1
  have V2 := Lib.hid v2
  clear v1 v2
  go_enter Tryz.func26, Tryz.ntmps26
  go_wp2_with (first
    | (go_at_call 59; have v1 := V1.out; clear V1; refine (valid_any s hs _).mono ?_; rintro e w1 ⟨rfl, hb⟩; rw [v1]; clear v1; have HB1 := Lib.hid hb; clear hb)
    | (go_at_call 59; have v2 := V2.out; clear V2; refine (valid_any z hz _).mono ?_; rintro e w2 ⟨rfl, hb⟩; rw [v2]; clear v2; have HB2 := Lib.hid hb; clear hb)
    | (go_at_call 21; refine (hasSuffix_any s z hs hz _).mono ?_; rintro e w3 ⟨rfl, rfl⟩))
  all_goals
    go_ret2
    refine ⟨ret_under ?_, HB1.out.trans (HB2.out.mono HB1.out.size)⟩
    simp_all [Np.under, ByteArray.toList_eq]
  · rename_i _ h1 h2 h3 _
    have e1 : (s.data == z.data) = false := by simpa using h1
    have e2 : (z.data.toList == [46]) = false := by simpa using h2
    have e3 : s.data[s.size - z.size - 1]? = some s[s.size - z.size - 1] := Array.getElem?_eq_getElem (by simp; omega)
    rw [e1, e2, e3, Bool.eq_iff_iff]
    simp
    omega
  · intros; omega
theorem under_no (s z : ByteArray) (hs : s.size ≤ 140737488355328) (w : World) (v1 : Np.validName s.data.toList = false) :
    Calls Tryz.prog 26 #[.string s, .string z] w fun e w' => e = .returned (.tuple #[.bool false, .int .i64 11]) ∧ Below w.heap.size w w' := by
  have V1 := Lib.hid v1
  clear v1
  go_enter Tryz.func26, Tryz.ntmps26
  go_wp2_with fail
  refine (valid_any s hs _).mono ?_
  rintro e w1 ⟨rfl, hb⟩
  rw [V1.out]
  have HB1 := Lib.hid hb
  clear hb
  go_wp2_with fail
  go_ret2
  exact ⟨rfl, HB1.out⟩
set_option maxRecDepth 100000 in
set_option maxHeartbeats 1000000 in
theorem comparePlaces_any (s1 s2 : ByteArray) (hs1 : s1.size ≤ 140737488355328) (hs2 : s2.size ≤ 140737488355328) (t1 l1 t2 l2 : Int) (v1 v2 : Value) (d1 d2 : List Np.Datum) (n1 : Np.validName s1.data.toList = true) (n2 : Np.validName s2.data.toList = true) (w : World) :
    Calls Tryz.prog 65 #[.agg #[.string s1, .int .i64 t1, .int .i64 l1, v1], .agg #[.string s2, .int .i64 t2, .int .i64 l2, v2]] w
      fun e w' => e = .returned (.int .i64 (Np.cmpSet ⟨s1.data.toList, t1, l1, d1⟩ ⟨s2.data.toList, t2, l2, d2⟩)) ∧ Below w.heap.size w w' := by
  have hw : ∀ o o', Below w.heap.size w ((w.alloc o).alloc o') := fun o o' => ((Below.refl _ w).alloc (Nat.le_refl _) _).alloc (by simp) _
  have HW := Lib.hid hw
  clear hw
  have hv : cmpVal s1.data.toList s2.data.toList = .tuple #[.int .i64 (Np.cmpName s1.data.toList s2.data.toList), .int .i64 0] := by rw [cmpVal, n1, n2]; rfl
  have HV := Lib.hid hv
  clear hv n1 n2
  by_cases h : s1.data.toList = s2.data.toList
  · have he : (!s1.toList == s2.toList) = false := by rw [ByteArray.toList_eq, ByteArray.toList_eq, h]; simp
    have hc : Np.cmpSet ⟨s1.data.toList, t1, l1, d1⟩ ⟨s2.data.toList, t2, l2, d2⟩ = Np.cmpI t1 t2 := by unfold Np.cmpSet; rw [if_neg (fun e => e h)]
    rw [hc]
    clear hc h
    go_enter Tryz.func65, Tryz.ntmps65
    go_wp2_with (go_at_call 108; refine (cmpI_any _ _ _).mono ?_; rintro e w' ⟨rfl, rfl⟩)
    go_ret
    exact ⟨rfl, HW.out _ _⟩
  · have he : (!s1.toList == s2.toList) = true := by rw [ByteArray.toList_eq, ByteArray.toList_eq]; simpa using h
    have hc : Np.cmpSet ⟨s1.data.toList, t1, l1, d1⟩ ⟨s2.data.toList, t2, l2, d2⟩ = Np.cmpName s1.data.toList s2.data.toList := by unfold Np.cmpSet; rw [if_pos h]
    rw [hc]
    clear hc h
    go_enter Tryz.func65, Tryz.ntmps65
    go_wp2_with fail
    refine (compare_any s1 s2 hs1 hs2 _).mono ?_
    rintro e w1 ⟨rfl, hb⟩
    rw [HV.out]
    have HB := Lib.hid ((HW.out _ _).trans (hb.mono (by simp; omega)))
    clear hb
    go_wp2_with fail
    go_ret
    exact ⟨rfl, HB.out⟩
/-- What record.Compare hands back. -/
def cmpSetVal (a b : Np.DSet) : Value := if Np.validSet a && Np.validSet b then .tuple #[.int .i64 (Np.cmpSet a b), .int .i64 0] else .tuple #[.int .i64 0, .int .i64 1]
theorem valid_name {s : Np.DSet} (h : Np.validSet s = true) : Np.validName s.name = true := by
  unfold Np.validSet at h
  simp only [Bool.and_eq_true] at h
  exact h.1.1.1.1.1.1
set_option maxRecDepth 100000 in
set_option maxHeartbeats 1000000 in
theorem recCompare_any (s1 s2 : ByteArray) (hs1 : s1.size ≤ 140737488355328) (hs2 : s2.size ≤ 140737488355328) (t1 l1 t2 l2 : Int) (v1 v2 : Value) (d1 d2 : List Np.Datum) (w : World) (hR : RulesIn w w.heap.size) (hd1 : SlR RDatum 3 w w.heap.size v1 d1) (hd2 : SlR RDatum 3 w w.heap.size v2 d2) :
    Calls Tryz.prog 28 #[.agg #[.string s1, .int .i64 t1, .int .i64 l1, v1], .agg #[.string s2, .int .i64 t2, .int .i64 l2, v2]] w
      fun e w' => e = .returned (cmpSetVal ⟨s1.data.toList, t1, l1, d1⟩ ⟨s2.data.toList, t2, l2, d2⟩) ∧ Below w.heap.size w w' := by
  have hw : ∀ o o', Below w.heap.size w ((w.alloc o).alloc o') := fun o o' => ((Below.refl _ w).alloc (Nat.le_refl _) _).alloc (by simp) _
  have HW := Lib.hid hw
  have HR := Lib.hid hR
  have HD1 := Lib.hid hd1
  have HD2 := Lib.hid hd2
  obtain ⟨A1, c1, rfl, -, -, -⟩ := hd1
  obtain ⟨A2, c2, rfl, -, -, -⟩ := hd2
  clear hw hR
  go_enter Tryz.func28, Tryz.ntmps28
  go_wp2_with fail
  refine (recValid_any s1 hs1 t1 l1 _ d1 _ ((HR.out.keep (HW.out _ _)).more (by simp; omega)) ((HD1.out.keep rdatum_kept (HW.out _ _)).more rdatum_more (by simp; omega))).mono ?_
  rintro e w1 ⟨rfl, hb1⟩
  obtain ⟨hc1, hf1⟩ := bcell hb1
  have hz1 : w.heap.size + 1 < w1.heap.size := by have := hb1.size; simp at this; omega
  have hz0 : w.heap.size < w1.heap.size := by omega
  have HB1 := Lib.hid ((HW.out _ _).trans (hb1.mono (by simp; omega)))
  clear hb1
  cases q1 : Np.validSet ⟨s1.data.toList, t1, l1, d1⟩ with
  | false =>
    have HQ := Lib.hid q1
    clear q1
    go_wp2_with fail
    go_ret2
    exact ⟨by rw [cmpSetVal, HQ.out]; rfl, HB1.out⟩
  | true =>
    have HQ := Lib.hid q1
    clear q1
    go_wp2_with fail
    refine (recValid_any s2 hs2 t2 l2 _ d2 _ ((HR.out.keep HB1.out).more HB1.out.size) ((HD2.out.keep rdatum_kept HB1.out).more rdatum_more HB1.out.size)).mono ?_
    rintro e w2 ⟨rfl, hb2⟩
    obtain ⟨hc2, hf2⟩ := bcell hb2
    have hz2 : w.heap.size + 1 < w2.heap.size := by have := hb2.size; omega
    have HB2 := Lib.hid (HB1.out.trans (hb2.mono HB1.out.size))
    clear hb2
    cases q2 : Np.validSet ⟨s2.data.toList, t2, l2, d2⟩ with
    | false =>
      have HQ2 := Lib.hid q2
      clear q2
      go_wp2_with fail
      go_ret2
      exact ⟨by rw [cmpSetVal, HQ.out, HQ2.out]; rfl, HB2.out⟩
    | true =>
      have HQ2 := Lib.hid q2
      clear q2
      go_wp2_with fail
      refine (comparePlaces_any s1 s2 hs1 hs2 t1 l1 t2 l2 _ _ d1 d2 (valid_name HQ.out) (valid_name HQ2.out) _).mono ?_
      rintro e w3 ⟨rfl, hb3⟩
      have HB3 := Lib.hid (HB2.out.trans (hb3.mono HB2.out.size))
      clear hb3
      go_wp2_with fail
      go_ret2
      exact ⟨by rw [cmpSetVal, HQ.out, HQ2.out]; rfl, HB3.out⟩
end Go.Proofs.YtnbolgdccdnjeaaGreatDoor
/- Contract of printer.isOrdered. -/
namespace Go.Proofs.YtnbolgdccdnjeaaGreatDoor
open Go.RowKit
theorem hasPrefixStar (s : ByteArray) (hs : s.size ≤ 140737488355328) (w : World) :
    Calls Tryz.prog 25 #[.string s, .string ⟨#[42]⟩] w fun e w' => e = .returned (.bool (Np.isWild s.data.toList)) ∧ w = w' := by
  have h1 : 1 ≤ s.size → ((s.extract 0 1).toList == [42]) = Np.isWild s.data.toList := isWild_eq s
  have h2 : s.size < 1 → Np.isWild s.data.toList = false := fun h => by
    have : s.data.toList = [] := List.eq_nil_of_length_eq_zero (by rw [size_list]; omega)
    rw [this]; rfl
  have H1 := Lib.hid h1
  have H2 := Lib.hid h2
  clear h1 h2
  go_enter Tryz.func25, Tryz.ntmps25
  go_wp2
  · go_ret
    exact ⟨ret_bool (H1.out (by omega)), rfl⟩
  · go_ret
    exact ⟨ret_bool (H2.out (by omega)).symm, rfl⟩
end Go.Proofs.YtnbolgdccdnjeaaGreatDoor
