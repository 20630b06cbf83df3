/- Joined by program from: CmpD, Rec2D, Rec3D, Under2D. No condition. -/
import Derived.Test.YtnbolgdccdnjeaaGreatDoorDA
import Derived.Test.YtnbolgdccdnjeaaGreatDoorNB
import Derived.Test.YtnbolgdccdnjeaaGreatDoorPA
import Derived.Test.YtnbolgdccdnjeaaGreatDoorShelf
import Derived.Laws.EntriesVeiled
import Derived.Test.YtnbolgdccdnjeaaGreatDoorCA
/- Contracts of package name: which of two names is before the other. -/
namespace Go.Proofs.YtnbolgdccdnjeaaGreatDoor.D
open Go.RowKit Go.Shelf
attribute [local go_sem] Oper.semAt_some

/-- What a puller's boxes hold: the labels that are still to come. -/
def Pull (W : World) (lm lr : Nat) (rem : List (List UInt8)) : Prop :=
  ∃ (more : Bool) (r : ByteArray), Boxed W lm 4 (.bool more) ∧ Boxed W lr 9 (.string r) ∧ r.size ≤ 140737488355328 ∧ rem = if more then (Np.splitDots r.data.toList).reverse else []
theorem Pull.it {B : Nat} {S : Nat → Prop} {W W' : World} {lm lr : Nat} {rem : List (List UInt8)} (h : Pull W lm lr rem) (hs : ItStep B S W W') (h1 : S lm) (h2 : S lr) : Pull W' lm lr rem := by
  obtain ⟨more, r, b1, b2, h3, h4⟩ := h
  exact ⟨more, r, boxed_it b1 hs h1, boxed_it b2 hs h2, h3, h4⟩
theorem Pull.far {W : World} {lm lr : Nat} {rem : List (List UInt8)} (h : Pull W lm lr rem) {p : Addr} (h1 : lm ≠ p.block) (h2 : lr ≠ p.block) (u : Value) : Pull (W.setCell p u) lm lr rem := by
  obtain ⟨more, r, b1, b2, h3, h4⟩ := h
  exact ⟨more, r, boxed_far b1 h1 u, boxed_far b2 h2 u, h3, h4⟩
/-- What one call of a puller hands back. -/
def PullTo (W : World) (lm lr : Nat) (rem : List (List UInt8)) (e : Ending) (W' : World) : Prop :=
  (rem = [] ∧ e = .returned (.tuple #[.string ⟨#[]⟩, .bool false]) ∧ W' = W) ∨
  ∃ x rest, rem = x :: rest ∧ e = .returned (.tuple #[strs x, .bool true]) ∧ Pull W' lm lr rest ∧ ∃ b u, (b = lm ∨ b = lr) ∧ W' = W.setCell ⟨b, 0, none⟩ u
set_option maxHeartbeats 1000000 in
theorem next_any (lm lr : Nat) (hne : lm ≠ lr) (rem : List (List UInt8)) (w : World) (h : Pull w lm lr rem) :
    Calls Tryz.prog 175 #[.pointer (some ⟨lm, 0, none⟩), .pointer (some ⟨lr, 0, none⟩)] w (PullTo w lm lr rem) := by
  obtain ⟨more, r, b1, b2, h3, h4⟩ := h
  have HR := Lib.hid h4
  clear h4
  have c1 := b1.cell
  have c2 := b2.cell
  have f1 := b1.frozen
  have f2 := b2.frozen
  cases more with
  | false =>
    go_enter Tryz.func175, Tryz.ntmps175
    go_wp2_with fail
    refine bodyPost_ret (v := .tuple #[.string ⟨#[]⟩, .bool false]) (by simp [results, Tryz.results175, go_sem]) rfl ?_
    exact .inl ⟨HR.out, rfl, rfl⟩
  | true =>
    go_enter Tryz.func175, Tryz.ntmps175
    go_wp2_with fail
    refine (lastIndexByte_any _ h3 _ (by decide) (by decide) _).mono ?_
    rintro e w' ⟨q, hq, rfl, rfl⟩
    rcases hq with ⟨rfl, hno⟩ | ⟨a, b, hab, hnb, rfl⟩
    · have hs1 : Np.splitDots r.data.toList = [r.data.toList] := Np.splitDots_none hno
      have HS := Lib.hid hs1
      clear hs1 hno
      go_wp2_with fail
      refine bodyPost_ret (v := .tuple #[.string r, .bool true]) (by simp [results, Tryz.results175, go_sem]) rfl ?_
      refine .inr ⟨r.data.toList, [], by rw [HR.out, if_pos trivial, HS.out]; rfl, rfl, ⟨false, r, b1.set _, boxed_far b2 (by simpa using hne.symm) _, h3, rfl⟩, lm, _, .inl rfl, rfl⟩
    · have hsz2 : a.length + 1 + b.length = r.size := by rw [← size_list, hab]; simp; omega
      have hs1 : Np.splitDots r.data.toList = Np.splitDots a ++ [b] := by rw [hab]; exact (Np.splitDots_app a b).trans (by rw [Np.splitDots_none hnb])
      have hxb : (r.extract (a.length + 1) r.size).data.toList = b := by rw [ext_from, hab]; simp
      have hxa : (r.extract 0 a.length).data.toList = a := by rw [ext_to, hab]; simp
      have HXB : Hid (r.extract (a.length + 1) r.size = ⟨b.toArray⟩) := Lib.hid (str_ext (by rw [hxb]))
      have HXA := Lib.hid hxa
      have HS := Lib.hid hs1
      clear hs1 hxb hxa hab hnb
      have hal : a.length ≤ 140737488355328 := by omega
      have hal2 : a.length + 1 ≤ r.size := by omega
      have hal3 : (a.length : Int) + 1 ≤ (r.size : Int) := by omega
      clear hsz2
      go_wp2_with fail
      refine bodyPost_ret (v := .tuple #[.string (r.extract (a.length + 1) r.size), .bool true]) (by simp [results, Tryz.results175, go_sem]) rfl ?_
      refine .inr ⟨b, (Np.splitDots a).reverse, by rw [HR.out, if_pos trivial, HS.out]; simp, by rw [HXB.out], ⟨true, r.extract 0 a.length, boxed_far b1 (by simpa using hne) _, b2.set _, by rw [← size_list, HXA.out]; omega, by rw [HXA.out]; rfl⟩, lr, _, .inr rfl, rfl⟩
theorem puller_any (t : ByteArray) (ht : t.size ≤ 140737488355328) (w : World) :
    Calls Tryz.prog 147 #[.string t] w fun e w' => e = .returned (.func (.func 175) #[] #[.pointer (some ⟨w.heap.size + 1, 0, none⟩), .pointer (some ⟨w.heap.size, 0, none⟩)]) ∧
      Pull w' (w.heap.size + 1) w.heap.size (Np.back t.data.toList) ∧ Below w.heap.size w w' ∧ w'.heap.size = w.heap.size + 2 := by
  have b0 := Boxed.new w 9 (.string t)
  have hb : ∀ o o', Below w.heap.size w ((w.alloc o).alloc o') := fun o o' => ((Below.refl _ w).alloc (Nat.le_refl _) _).alloc (by simp) _
  by_cases he : t.data.toList = [46]
  · have he2 : (t.toList == [46]) = true := by rw [ByteArray.toList_eq, he]; rfl
    have b1 := Boxed.new (w.alloc (.cells #[.string t] 9)) 4 (.bool false)
    rw [World.size_alloc] at b1
    have HB : Hid (Np.back t.data.toList = []) := Lib.hid (by simp [Np.back, he])
    clear he
    go_enter Tryz.func147, Tryz.ntmps147
    go_wp2_with fail
    go_ret
    exact ⟨rfl, ⟨false, t, b1, b0.alloc _, ht, by rw [HB.out]; rfl⟩, hb _ _, by simp⟩
  · have he2 : (t.toList == [46]) = false := by rw [ByteArray.toList_eq]; simpa using he
    have b1 := Boxed.new (w.alloc (.cells #[.string t] 9)) 4 (.bool true)
    rw [World.size_alloc] at b1
    have HB : Hid (Np.back t.data.toList = (Np.splitDots t.data.toList).reverse) := Lib.hid (by simp [Np.back, he])
    clear he
    go_enter Tryz.func147, Tryz.ntmps147
    go_wp2_with fail
    go_ret
    exact ⟨rfl, ⟨true, t, b1, b0.alloc _, ht, by rw [HB.out]; rfl⟩, hb _ _, by simp⟩
theorem cmpS_eq : ∀ a b : List UInt8, Lib.compareBytes a b = Np.cmpS a b := by
  intro a
  induction a with
  | nil =>
    intro b
    cases b with
    | nil => rfl
    | cons y b => simp [Lib.compareBytes, Np.cmpS, Op.bytesLess]
  | cons x a ih =>
    intro b
    cases b with
    | nil => simp [Lib.compareBytes, Np.cmpS, Op.bytesLess]
    | cons y b =>
      rw [Lib.compareBytes, ih b]
      by_cases h1 : x < y
      · simp [Np.cmpS, Op.bytesLess, h1]
      · by_cases h2 : y < x
        · have h3 : ¬ x = y := fun e => by subst e; exact h1 h2
          simp [Np.cmpS, Op.bytesLess, h1, h2, h3]
        · have h3 : x = y := by
            apply UInt8.toNat_inj.1
            simp only [UInt8.lt_iff_toNat_lt] at h1 h2
            omega
          subst h3
          simp [Np.cmpS, Op.bytesLess, h1]
theorem strCompare_any (s t : ByteArray) (w : World) :
    Calls Tryz.prog 148 #[.string s, .string t] w fun e w' => e = .returned (.int .i64 (Np.cmpS s.data.toList t.data.toList)) ∧ w = w' :=
  (Tryz.strings_Compare s t w).mono fun e w' ⟨he, hw⟩ => ⟨by rw [he, cmpS_eq], hw.symm⟩
/-- The boxes of a comparison. -/
def CmpS (g lm lr l8 : Nat) (S : Nat → Prop) : Prop := ∀ k, S k ↔ k = g ∨ k = g + 1 ∨ k = lm ∨ k = lr ∨ k = l8
def CmpI (w : World) (g lm lr l8 : Nat) (fv : Value) (m n : List UInt8) (pre : List (List UInt8)) (S : Nat → Prop) (W : World) : Prop :=
  CmpS g lm lr l8 S ∧ Boxed W g 3 (.int .i64 0) ∧ Boxed W (g + 1) 25 (.int .i64 0) ∧ Boxed W l8 163 fv ∧
  (∃ rem, Pull W lm lr rem ∧ ∀ rest, Np.back m = pre ++ rest → Np.cmpL (Np.back m) (Np.back n) = Np.cmpL rest rem) ∧ Below w.heap.size w W
def CmpX (w : World) (g lm lr l8 : Nat) (m n : List UInt8) (c : Code) (_ : List (List UInt8)) (S : Nat → Prop) (W : World) : Prop :=
  c = .ret ∧ CmpS g lm lr l8 S ∧ Boxed W g 3 (.int .i64 (Np.cmpL (Np.back m) (Np.back n))) ∧ Boxed W (g + 1) 25 (.int .i64 0) ∧ Below w.heap.size w W
theorem cmpI_stable (w : World) (g lm lr l8 : Nat) (fv : Value) (m n : List UInt8) (B : Nat) (hB : w.heap.size ≤ B) : StableAt B (CmpI w g lm lr l8 fv m n) := by
  rintro s S W W' ⟨hS, h1, h2, h3, ⟨rem, h4, h5⟩, h6⟩ hst
  exact ⟨hS, boxed_it h1 hst ((hS _).2 (.inl rfl)), boxed_it h2 hst ((hS _).2 (.inr (.inl rfl))), boxed_it h3 hst ((hS _).2 (.inr (.inr (.inr (.inr rfl))))),
    ⟨rem, h4.it hst ((hS _).2 (.inr (.inr (.inl rfl)))) ((hS _).2 (.inr (.inr (.inr (.inl rfl))))), h5⟩, below_it h6 hst hB (Nat.le_refl _)⟩
theorem cmpX_stable (w : World) (g lm lr l8 : Nat) (m n : List UInt8) (B : Nat) (hB : w.heap.size ≤ B) (c : Code) : StableAt B (CmpX w g lm lr l8 m n c) := by
  rintro s S W W' ⟨hc, hS, h1, h2, h6⟩ hst
  exact ⟨hc, hS, boxed_it h1 hst ((hS _).2 (.inl rfl)), boxed_it h2 hst ((hS _).2 (.inr (.inl rfl))), below_it h6 hst hB (Nat.le_refl _)⟩
theorem PullTo.rd {W W' : World} {lm lr : Nat} {rem : List (List UInt8)} {e : Ending} (h : PullTo W lm lr rem e W') : (rem = [] ∧ e = .returned (.tuple #[.string ⟨#[]⟩, .bool false]) ∧ W' = W) ∨
    ∃ x rest, rem = x :: rest ∧ e = .returned (.tuple #[strs x, .bool true]) ∧ Pull W' lm lr rest ∧ (∀ S : Nat → Prop, S lm → S lr → RdStep S W W') ∧ (∀ b t v, b ≠ lm → b ≠ lr → Boxed W b t v → Boxed W' b t v) ∧ (∀ (n : Nat) (w : World), n ≤ lm → n ≤ lr → Below n w W → Below n w W') := by
  rcases h with h | ⟨x, rest, h1, h2, h3, b, u, hb, rfl⟩
  · exact .inl h
  · refine .inr ⟨x, rest, h1, h2, h3, fun S s1 s2 => ?_, fun b' t v n1 n2 hv => boxed_far hv (by rcases hb with rfl | rfl <;> assumption) _, fun n w n1 n2 hB => hB.setCell (p := ⟨b, 0, none⟩) (by rcases hb with rfl | rfl <;> assumption) _⟩
    exact RdStep.setCell (RdStep.refl S W) (.inl (by rcases hb with rfl | rfl <;> assumption)) _
theorem cmp_ret {w : World} {lm lr l8 : Nat} {fv : Value} {m n : List UInt8} {pre : List (List UInt8)} {S : Nat → Prop} {W W3 : World} {a : Act} {v0 v1 : Value} {q : Int} (hS : CmpS w.heap.size lm lr l8 S)
    (hr : RdStep S W W3) (hlt : ∀ k, S k → k < W.heap.size) (c0 : Boxed W3 w.heap.size 3 v0) (c1 : Boxed W3 (w.heap.size + 1) 25 v1) (hB : Below w.heap.size w W3) (hv : Np.cmpL (Np.back m) (Np.back n) = q) :
    bodyTo (CmpI w w.heap.size lm lr l8 fv m n) (CmpX w w.heap.size lm lr l8 m n) pre S W .ret a ((W3.setCell ⟨w.heap.size, 0, none⟩ (.int .i64 q)).setCell ⟨w.heap.size + 1, 0, none⟩ (.int .i64 0)) :=
  ⟨S, (hr.setCell (.inl ((hS _).2 (.inl rfl))) _).setCell (.inl ((hS _).2 (.inr (.inl rfl)))) _, fun _ e => .inl e, fun k e => by have := hlt k e; have := hr.size; simp [World.setCell]; omega, rfl, hS,
    by rw [hv]; exact boxed_far (c0.set _) (by simp) _, (boxed_far c1 (by simp) _).set _, (hB.setCell (Nat.le_refl _) _).setCell (by simp) _⟩
/-- What Compare hands back. -/
def cmpVal (a b : List UInt8) : Value := if Np.validName a && Np.validName b then .tuple #[.int .i64 (Np.cmpName a b), .int .i64 0] else .tuple #[.int .i64 0, .int .i64 11]
set_option maxHeartbeats 1000000 in
theorem compare_any (a b : ByteArray) (ha : a.size ≤ 140737488355328) (hb : b.size ≤ 140737488355328) (w : World) :
    Calls Tryz.prog 109 #[.string a, .string b] w fun e w' => e = .returned (cmpVal a.data.toList b.data.toList) ∧ Below w.heap.size w w' := by
  refine (callsIn_wide (n := 0)).1 ?_
  refine callsIn_of_wp_marks Tryz.func109 rfl trivial ?_ rfl
  simp only [Tryz.ntmps109, List.size_toArray, List.length_cons, List.length_nil, Nat.reduceAdd, Nat.reduceSub, Array.replicate_succ, Array.replicate_zero, List.push_toArray, List.append_toArray, List.nil_append, List.cons_append]
  have b0 := Boxed.new w 3 (.int .i64 0)
  have b1 := Boxed.new (w.alloc (.cells #[.int .i64 0] 3)) 25 (.int .i64 0)
  rw [World.size_alloc] at b1
  replace b0 := b0.alloc (.cells #[.int .i64 0] 25)
  have hW0 : Below w.heap.size w ((w.alloc (.cells #[.int .i64 0] 3)).alloc (.cells #[.int .i64 0] 25)) := ((Below.refl _ w).alloc (Nat.le_refl _) _).alloc (by simp) _
  gi_wp2_with fail
  refine ⟨trivial, rfl, ?_⟩
  refine (callsIn_wide.2 (valid_any a ha _)).mono ?_
  rintro e w1 ⟨rfl, hb1⟩
  replace b0 := boxed_below b0 hb1 (by simp; omega)
  replace b1 := boxed_below b1 hb1 (by simp)
  replace hW0 := hW0.trans (hb1.mono (by simp; omega))
  clear hb1
  have hbad : ∀ (W : World) (tmps : Array Value), Boxed W w.heap.size 3 (.int .i64 0) → Boxed W (w.heap.size + 1) 25 (.int .i64 11) → Below w.heap.size w W → (Np.validName a.data.toList && Np.validName b.data.toList) = false →
      tmps[4]? = some (.pointer (some ⟨w.heap.size, 0, none⟩)) → tmps[5]? = some (.pointer (some ⟨w.heap.size + 1, 0, none⟩)) →
      bodyPostM Fence.wide 0 Tryz.prog Tryz.f109 (fun e w' => e = .returned (cmpVal a.data.toList b.data.toList) ∧ Below w.heap.size w w') .ret { tmps := tmps, defers := [] } W := fun W tmps c0 c1 hB hv t4 t5 => by
    have d0 := c0.cell
    have d1 := c1.cell
    exact endM0 (v := .tuple #[.int .i64 0, .int .i64 11]) (by simp [results, Tryz.results109, go_sem, d0, d1, t4, t5]) ⟨by rw [cmpVal, hv]; rfl, hB⟩
  have HBAD := Lib.hid hbad
  clear hbad
  have c0 := b0.cell
  have c1 := b1.cell
  have f0 := b0.frozen
  have f1 := b1.frozen
  cases va : Np.validName a.data.toList with
  | false =>
    gi_wp2_with fail
    refine ⟨trivial, ?_⟩
    gi_wp2_with fail
    refine HBAD.out _ _ (boxed_far (b0.set _) (by simp) _) ((boxed_far b1 (by simp) _).set _) ((hW0.setCell (Nat.le_refl _) _).setCell (by simp) _) (by rw [va]; rfl) rfl rfl
  | true =>
    have VA := Lib.hid va
    clear va c0 c1 f0 f1
    gi_wp2_with fail
    refine ⟨trivial, rfl, ?_⟩
    refine (callsIn_wide.2 (valid_any b hb _)).mono ?_
    rintro e w2 ⟨rfl, hb2⟩
    have hs1 : w.heap.size + 1 < w1.heap.size := b1.lt
    replace b0 := boxed_below b0 hb2 (by omega)
    replace b1 := boxed_below b1 hb2 hs1
    replace hW0 := hW0.trans (hb2.mono (by omega))
    have hs2 := hb2.size
    clear hb2
    have c0 := b0.cell
    have c1 := b1.cell
    have f0 := b0.frozen
    have f1 := b1.frozen
    cases vb : Np.validName b.data.toList with
    | false =>
      gi_wp2_with fail
      refine HBAD.out _ _ (boxed_far (b0.set _) (by simp) _) ((boxed_far b1 (by simp) _).set _) ((hW0.setCell (Nat.le_refl _) _).setCell (by simp) _) (by rw [vb, Bool.and_false]) rfl rfl
    | true =>
      have VV : Hid ((Np.validName a.data.toList && Np.validName b.data.toList) = true) := Lib.hid (by rw [VA.out, vb]; rfl)
      clear vb VA HBAD
      by_cases hab : a.data.toList = b.data.toList
      · have hab2 : (a.toList == b.toList) = true := by rw [ByteArray.toList_eq, ByteArray.toList_eq, hab]; simp
        gi_wp2_with fail
        have d0 := (boxed_far (b0.set (.int .i64 0)) (p := ⟨w.heap.size + 1, 0, none⟩) (by simp) (.int .i64 0)).cell
        have d1 := ((boxed_far b1 (p := ⟨w.heap.size, 0, none⟩) (by simp) (.int .i64 0)).set (.int .i64 0)).cell
        exact endM0 (v := .tuple #[.int .i64 0, .int .i64 0]) (by simp [results, Tryz.results109, go_sem, d0, d1]) ⟨by rw [cmpVal, VV.out, hab]; simp [Np.cmpName], (hW0.setCell (Nat.le_refl _) _).setCell (by simp) _⟩
      · have hab2 : (a.toList == b.toList) = false := by rw [ByteArray.toList_eq, ByteArray.toList_eq]; simpa using hab
        have HV : Hid (cmpVal a.data.toList b.data.toList = .tuple #[.int .i64 (Np.cmpL (Np.back a.data.toList) (Np.back b.data.toList)), .int .i64 0]) := Lib.hid (by rw [cmpVal, VV.out]; simp [Np.cmpName, hab])
        clear hab
        gi_wp2_with fail
        refine ⟨trivial, rfl, ?_⟩
        refine (callsIn_wide.2 (puller_any b hb _)).mono ?_
        rintro e w3 ⟨rfl, hp3, hb3, hs3⟩
        have HS3 := Lib.hid hs3
        clear hs3
        replace b0 := boxed_below b0 hb3 (by omega)
        replace b1 := boxed_below b1 hb3 (by omega)
        replace hW0 := hW0.trans (hb3.mono (by omega))
        clear hb3
        have hl := hW0.size
        have b8 := Boxed.new w3 163 (.func (.func 175) #[] #[.pointer (some ⟨w2.heap.size + 1, 0, none⟩), .pointer (some ⟨w2.heap.size, 0, none⟩)])
        replace b0 := b0.alloc (.cells #[.func (.func 175) #[] #[.pointer (some ⟨w2.heap.size + 1, 0, none⟩), .pointer (some ⟨w2.heap.size, 0, none⟩)]] 163)
        replace b1 := b1.alloc (.cells #[.func (.func 175) #[] #[.pointer (some ⟨w2.heap.size + 1, 0, none⟩), .pointer (some ⟨w2.heap.size, 0, none⟩)]] 163)
        replace hp3 : Pull (w3.alloc (.cells #[.func (.func 175) #[] #[.pointer (some ⟨w2.heap.size + 1, 0, none⟩), .pointer (some ⟨w2.heap.size, 0, none⟩)]] 163)) (w2.heap.size + 1) w2.heap.size (Np.back b.data.toList) := hp3.it (B := w3.heap.size) (S := fun _ => True) (it_alloc _) trivial trivial
        replace hW0 := hW0.alloc hW0.size (.cells #[.func (.func 175) #[] #[.pointer (some ⟨w2.heap.size + 1, 0, none⟩), .pointer (some ⟨w2.heap.size, 0, none⟩)]] 163)
        clear c0 c1 f0 f1
        have n8 := Boxed.new w3 163 .nilFunc
        have n8c := n8.cell
        have n8f := n8.frozen
        gi_wp2_with fail
        clear n8 n8c n8f
        have hEG := enters_of Tryz.func175 (by kernel_rfl) rfl
        have hlt8 : w.heap.size + 1 < w2.heap.size := by omega
        have hs3' : w3.heap.size = w2.heap.size + 2 := HS3.out
        refine wpIn_range' (n₀ := w.heap.size) (w0 := w) (first := #[.string a]) (captured := #[]) (gf := 103) rfl (enters_of Tryz.func103 (by kernel_rfl) rfl) (mk := fun y => #[.string a, y]) (fun _ => rfl)
          (backwards_iter a ha _ w) hW0 hW0.size (fun _ => rfl) (CmpI w w.heap.size (w2.heap.size + 1) w2.heap.size w3.heap.size (.func (.func 175) #[] #[.pointer (some ⟨w2.heap.size + 1, 0, none⟩), .pointer (some ⟨w2.heap.size, 0, none⟩)]) a.data.toList b.data.toList)
          (CmpX w w.heap.size (w2.heap.size + 1) w2.heap.size w3.heap.size a.data.toList b.data.toList)
          (cmpI_stable _ _ _ _ _ _ _ _ _ hW0.size) (fun c => cmpX_stable _ _ _ _ _ _ _ _ hW0.size c)
          (fun k => k = w.heap.size ∨ k = w.heap.size + 1 ∨ k = w2.heap.size + 1 ∨ k = w2.heap.size ∨ k = w3.heap.size) (by intro k h; omega) (by intro k h; simp; omega)
          ⟨fun _ => Iff.rfl, b0, b1, b8, ⟨_, hp3, fun rest h => by rw [h]; rfl⟩, hW0⟩ ?round ?done ?stop
        case round =>
          rintro l0 pre x S W hpx hI hSlt
          clear hs3'
          gi_wp2
          refine ⟨S, RdStep.refl _ _, fun k e => .inl e, hSlt, ?_⟩
          intro l W₂ hst
          obtain ⟨hS, c0, c1, c8, ⟨rem, hp, hrem⟩, hB⟩ := cmpI_stable w w.heap.size _ _ _ _ _ _ _ hW0.size pre S W W₂ hI hst
          have c8c := c8.cell
          have hSlt2 : ∀ k, S k → k < W₂.heap.size := fun k e => Nat.lt_of_lt_of_le (hSlt k e) hst.size
          have hx : x ∈ Np.back a.data.toList := hpx.subset (by simp)
          have hxl : x.length ≤ 140737488355328 := by have := Np.back_len hx; rw [size_list] at this; omega
          obtain ⟨rest, hrest⟩ := hpx
          have hgo := hrem (x :: rest) (by rw [← hrest]; simp)
          have HR := Lib.hid hrest
          have HG := Lib.hid hgo
          clear hrest hgo hrem hx hI hst b0 b1 b8 hp3
          gi_wp2_with fail
          refine ⟨trivial, rfl, ?_⟩
          refine (CallsIn.inRound l (callsIn_wide.2 (next_any (w2.heap.size + 1) w2.heap.size (by omega) rem _ hp))).mono ?_
          intro e W3 hP
          rcases hP.rd with ⟨hr0, rfl, rfl⟩ | ⟨y, rem', hr0, rfl, hp', hrd, hbx, hbl⟩
          · have c0c := c0.cell
            have c1c := c1.cell
            have c0f := c0.frozen
            have c1f := c1.frozen
            have HR0 := Lib.hid hr0
            clear hr0 hP
            gi_wp2_with fail
            exact cmp_ret hS (RdStep.refl S _) hSlt2 c0 c1 hB (by rw [HG.out, HR0.out]; rfl)
          · have HR0 := Lib.hid hr0
            replace c0 := hbx _ _ _ (by omega) (by omega) c0
            replace c1 := hbx _ _ _ (by omega) (by omega) c1
            replace c8 := hbx _ _ _ (by have := HS3.out; omega) (by have := HS3.out; omega) c8
            have hrd' := hrd S ((hS _).2 (.inr (.inr (.inl rfl)))) ((hS _).2 (.inr (.inr (.inr (.inl rfl)))))
            have hB' := hbl w.heap.size w (by omega) (by omega) hB
            have c0c := c0.cell
            have c1c := c1.cell
            have c0f := c0.frozen
            have c1f := c1.frozen
            clear hr0 hP hrd hbx hbl c8c hp hB
            have hgo : Np.cmpL (Np.back a.data.toList) (Np.back b.data.toList) = if Np.cmpS x y ≠ 0 then Np.cmpS x y else Np.cmpL rest rem' := by rw [HG.out, HR0.out]; rfl
            have HGO := Lib.hid hgo
            clear hgo HG
            have hcall := strCompare_any ⟨x.toArray⟩ ⟨y.toArray⟩ W3
            by_cases hc : Np.cmpS x y = 0
            · have hc2 : (Np.cmpS x y != 0) = false := by simp [hc]
              have HC := Lib.hid hc
              clear hc
              gi_wp2_with (refine ⟨trivial, rfl, ?_⟩; gi_at_call 148; refine (CallsIn.inRound l (callsIn_wide.2 hcall)).mono ?_; rintro e w' ⟨rfl, rfl⟩)
              refine ⟨S, hrd', fun _ e => .inl e, fun k e => by have := hSlt2 k e; have := hrd'.size; omega, hS, c0, c1, c8, ⟨rem', hp', fun r hr => ?_⟩, hB'⟩
              have : r = rest := List.append_cancel_left (hr.symm.trans HR.out.symm)
              rw [HGO.out, if_neg (fun h => h HC.out), this]
            · have hc2 : (Np.cmpS x y != 0) = true := by simpa using hc
              have HC := Lib.hid hc
              clear hc
              gi_wp2_with (refine ⟨trivial, rfl, ?_⟩; gi_at_call 148; refine (CallsIn.inRound l (callsIn_wide.2 hcall)).mono ?_; rintro e w' ⟨rfl, rfl⟩)
              exact cmp_ret hS hrd' hSlt2 c0 c1 hB' (by rw [HGO.out, if_pos HC.out])
        case done =>
          rintro D S W hD hSD hsub ⟨hS, c0, c1, c8, ⟨rem, hp, hrem⟩, hB⟩ hK
          clear hs3' b0 b1 b8 hp3
          have c0c := c0.cell
          have c1c := c1.cell
          have c0f := c0.frozen
          have c1f := c1.frozen
          have hend : Np.cmpL (Np.back a.data.toList) (Np.back b.data.toList) = -1 := by rw [hrem [] (by simp)]; rfl
          have HE := Lib.hid hend
          have hD0 : w.heap.size ≠ D := fun e => hSD ((hS _).2 (.inl e.symm))
          have hD1 : w.heap.size + 1 ≠ D := fun e => hSD ((hS _).2 (.inr (.inl e.symm)))
          have hDw : w.heap.size ≤ D := by have := hW0.size; omega
          clear hend hrem hp c8
          gi_wp2
          have hK' : ((W.setCell ⟨w.heap.size, 0, none⟩ (.int .i64 (-1))).setCell ⟨w.heap.size + 1, 0, none⟩ (.int .i64 0)).heap[D]? = some (.deferred (some [])) :=
            (Below.heap_setCell _ _ _ _ (by simpa using hD1.symm)).trans ((Below.heap_setCell _ _ _ _ (by simpa using hD0.symm)).trans hK)
          have d0 := (boxed_putObj (boxed_far (c0.set (.int .i64 (-1))) (p := ⟨w.heap.size + 1, 0, none⟩) (by simp) (.int .i64 0)) hD0 (.deferred none)).cell
          have d1 := (boxed_putObj ((boxed_far c1 (p := ⟨w.heap.size, 0, none⟩) (by simp) (.int .i64 (-1))).set (.int .i64 0)) hD1 (.deferred none)).cell
          exact endM1 hK' (v := .tuple #[.int .i64 (-1), .int .i64 0]) (by simp [results, Tryz.results109, go_sem, d0, d1]) ⟨by rw [HV.out, HE.out], below_putObj ((hB.setCell (Nat.le_refl _) _).setCell (by simp) _) hDw _⟩
        case stop =>
          rintro D c pre S W hD hSD hsub hpre ⟨rfl, hS, c0, c1, hB⟩ hK
          clear hs3' b0 b1 b8 hp3
          have hD0 : w.heap.size ≠ D := fun e => hSD ((hS _).2 (.inl e.symm))
          have hD1 : w.heap.size + 1 ≠ D := fun e => hSD ((hS _).2 (.inr (.inl e.symm)))
          have hDw : w.heap.size ≤ D := by have := hW0.size; omega
          gi_wp2
          have d0 := (boxed_putObj c0 hD0 (.deferred none)).cell
          have d1 := (boxed_putObj c1 hD1 (.deferred none)).cell
          exact endM1 hK (v := .tuple #[.int .i64 (Np.cmpL (Np.back a.data.toList) (Np.back b.data.toList)), .int .i64 0]) (by simp [results, Tryz.results109, go_sem, d0, d1]) ⟨by rw [HV.out], below_putObj hB hDw _⟩
end Go.Proofs.YtnbolgdccdnjeaaGreatDoor.D
/- Contracts of package record: comparing data; which data are valid. -/
namespace Go.Proofs.YtnbolgdccdnjeaaGreatDoor.D
open Go.RowKit

def orI : List Int → Int
  | [] => 0
  | x :: xs => if x ≠ 0 then x else orI xs
theorem orI_zero (xs : List Int) (h : ∀ x ∈ xs, x = 0) : orI xs = 0 := by
  induction xs with
  | nil => rfl
  | cons x r ih => rw [orI, if_neg (by simp [h x (by simp)])]; exact ih (fun y hy => h y (by simp [hy]))
theorem orI_hit (xs : List Int) (k : Nat) (hk : k < xs.length) (h : ∀ x ∈ xs.take k, x = 0) (hx : xs[k] ≠ 0) : orI xs = xs[k] := by
  induction xs generalizing k with
  | nil => simp at hk
  | cons x r ih =>
    cases k with
    | zero => simp at hx; simp [orI, hx]
    | succ k =>
      have h0 : x = 0 := h x (by simp)
      rw [orI, if_neg (by simp [h0])]
      simpa using ih k (by simpa using hk) (fun y hy => h y (by simp [hy])) (by simpa using hx)

set_option maxHeartbeats 1000000 in
theorem cmpOr_any (b c : Nat) (xs : List Int) (hl : xs.length ≤ 1000) (w : World) (hc : ∀ i x, xs[i]? = some x → w.cell? ⟨b, i, none⟩ = some (.int .i64 x)) :
    Calls Tryz.prog 106 #[.slice (some ⟨b, 0, none⟩) xs.length c] w fun e w' => e = .returned (.int .i64 (orI xs)) ∧ w = w' := by
  have HC := Lib.hid hc
  clear hc
  go_enter Tryz.func106, Tryz.ntmps106
  go_wp2
  go_loop [8] (fun i => ∃ k : Nat, k ≤ xs.length ∧ i = .int .i64 k ∧ Hid (∀ x ∈ xs.take k, x = 0)) (fun i => xs.length - (intOf i).toNat)
  case atStart => exact ⟨0, Nat.zero_le _, rfl, Lib.hid (by simp)⟩
  case round =>
    obtain ⟨k, hk, rfl, HA⟩ := hrel
    by_cases hlt : k < xs.length
    · have hcell : w.cell? ⟨b, k, none⟩ = some (.int .i64 xs[k]) := HC.out k _ (List.getElem?_eq_getElem hlt)
      go_wp2
      · have hne : (xs[k] != 0) = true := by assumption
        go_ret
        exact ⟨ret_int (orI_hit xs k hlt HA.out (by simpa using hne)).symm, rfl⟩
      · have hne : (xs[k] != 0) = false := by assumption
        go_round
        case rel =>
          refine ⟨k + 1, by omega, by go_num, Lib.hid ?_⟩
          rw [List.take_succ_eq_append_getElem hlt]
          intro x hx
          rcases List.mem_append.1 hx with h | h
          · exact HA.out x h
          · simp at h; subst h; simpa using hne
        case measure => simp [intOf] <;> omega
    · go_wp2
      go_ret
      exact ⟨ret_int (orI_zero xs (by have := HA.out; rwa [List.take_of_length_le (by omega)] at this)).symm, rfl⟩

theorem cmpD_eq (a b : Np.Datum) : Np.cmpD a b = orI [Np.cmpS a.text b.text, Np.cmpI a.n b.n, Np.cmpI a.m b.m] := by
  simp only [Np.cmpD, orI]
  split
  · rfl
  · split
    · rfl
    · split
      · rfl
      · rename_i h; simpa using h

set_option maxRecDepth 100000 in
set_option maxHeartbeats 1000000 in
theorem compareData_any (s t : ByteArray) (n1 m1 n2 m2 : Int) (w : World) :
    Calls Tryz.prog 64 #[.agg #[.string s, .int .i64 n1, .int .i64 m1], .agg #[.string t, .int .i64 n2, .int .i64 m2]] w
      fun e w' => e = .returned (.int .i64 (Np.cmpD ⟨s.data.toList, n1, m1⟩ ⟨t.data.toList, n2, m2⟩)) ∧ Below w.heap.size w w' := by
  rw [cmpD_eq]
  go_enter Tryz.func64, Tryz.ntmps64
  go_wp2
  refine wp_region_tail 15 (by kernel_rfl) (by kernel_rfl) ?_
  simp only [List.take_succ_cons, List.take_zero, List.drop_succ_cons, List.drop_zero]
  iterate 4 still_step
  still_call (Calls.still_same (cmpS_any _ _ _))
  iterate 4 still_step
  still_call (Calls.still_same (cmpI_any _ _ _))
  iterate 4 still_step
  still_call (Calls.still_same (cmpI_any _ _ _))
  refine wpStill_nil ?_
  go_wp2_with fail
  refine (cmpOr_any (w.heap.size + 1 + 1) 3 [Np.cmpS s.data.toList t.data.toList, Np.cmpI n1 n2, Np.cmpI m1 m2] (by simp) _ ?_).mono ?_
  · intro i x hx
    match i, hx with
    | 0, hx => simp at hx; subst hx; go_simp
    | 1, hx => simp at hx; subst hx; go_simp
    | 2, hx => simp at hx; subst hx; go_simp
    | i + 3, hx => simp at hx
  · rintro e w' ⟨rfl, rfl⟩
    go_wp2_with fail
    go_ret
    exact ⟨rfl, ((((Below.refl _ w).alloc (Nat.le_refl _) _).alloc (by simp) _).alloc (by simp; omega) _).drew⟩

def ruleVal (r : Np.Rule) : Array Value := #[.int .i64 r.text, .int .i64 r.leastN, .int .i64 r.mostN, .int .i64 r.leastM, .int .i64 r.mostM, .bool r.even, .bool r.single, .bool r.wild]

set_option maxRecDepth 100000 in
set_option maxHeartbeats 1000000 in
theorem validDatum_any (k ln mn lm mm : Int) (ev si wi : Bool) (s : ByteArray) (hs : s.size ≤ 140737488355328) (n m : Int) (w : World) :
    Calls Tryz.prog 63 #[.agg #[.int .i64 k, .int .i64 ln, .int .i64 mn, .int .i64 lm, .int .i64 mm, .bool ev, .bool si, .bool wi], .agg #[.string s, .int .i64 n, .int .i64 m]] w
      fun e w' => e = .returned (.bool (Np.validDatum ⟨k, ln, mn, lm, mm, ev, si, wi⟩ ⟨s.data.toList, n, m⟩)) ∧ Below w.heap.size w w' := by
  go_enter Tryz.func63, Tryz.ntmps63
  go_wp2_with (first
    | (go_at_call 61; refine (within_int _ _ _ _).mono ?_; rintro e w' ⟨rfl, rfl⟩)
    | (go_at_call 24; refine (nameValid_any _ hs _).mono ?_; rintro e w' ⟨rfl, hb⟩; obtain ⟨hc, hf⟩ := bcell hb)
    | (go_at_call 62; refine (isWildcard_any _ hs _).mono ?_; rintro e w' ⟨rfl, rfl⟩)
    | (go_at_call 105; refine (isFree_any _ hs _).mono ?_; rintro e w' ⟨rfl, rfl⟩))
  all_goals
    go_ret
    go_light
    refine ⟨ret_bool ?_, ?_⟩
    · simp_all [Np.validDatum, Np.validText, ByteArray.toList_eq] <;> (intros; omega)
    · first
        | exact ((Below.refl _ w).alloc (Nat.le_refl _) _).alloc (by simp) _
        | exact (((Below.refl _ w).alloc (Nat.le_refl _) _).alloc (by simp) _).trans (hb.mono (by simp; omega))
end Go.Proofs.YtnbolgdccdnjeaaGreatDoor.D
/- Contract of record.Valid. -/
namespace Go.Proofs.YtnbolgdccdnjeaaGreatDoor.D
open Go.RowKit

theorem below_of_eq {w w' : World} (h : w' = w) : Below w.heap.size w w' := by rw [h]; exact Below.refl _ _
theorem validDatum_bool (k ln mn lm mm : Int) (ev si wi : Bool) (s : ByteArray) (hs : s.size ≤ 140737488355328) (n m : Int) (w : World) (t : Bool) (ht : Np.validDatum ⟨k, ln, mn, lm, mm, ev, si, wi⟩ ⟨s.data.toList, n, m⟩ = t) :
    Calls Tryz.prog 63 #[.agg #[.int .i64 k, .int .i64 ln, .int .i64 mn, .int .i64 lm, .int .i64 mm, .bool ev, .bool si, .bool wi], .agg #[.string s, .int .i64 n, .int .i64 m]] w
      fun e w' => e = .returned (.bool t) ∧ Below w.heap.size w w' := by
  subst ht
  exact validDatum_any k ln mn lm mm ev si wi s hs n m w
def ValidRel (w1 : World) (o : Obj) (r : Np.Rule) (ds : List Np.Datum) (i : Value) (wr : World) : Prop :=
  ∃ j : Nat, j ≤ ds.length ∧ i = .int .i64 j ∧ Below (w1.alloc o).heap.size (w1.alloc o) wr ∧ Np.goodData r none ds = Np.goodData r (ds.take j).getLast? (ds.drop j)

set_option maxRecDepth 100000 in
set_option maxHeartbeats 4000000 in
theorem recValid_any (s : ByteArray) (hs : s.size ≤ 140737488355328) (ty life : Int) (v : Value) (ds : List Np.Datum) (w : World) (hR : RulesIn w w.heap.size) (hd : SlR RDatum 3 w w.heap.size v ds) :
    Calls Tryz.prog 27 #[.agg #[.string s, .int .i64 ty, .int .i64 life, v]] w
      fun e w' => e = .returned (.bool (Np.validSet ⟨s.data.toList, ty, life, ds⟩)) ∧ Below w.heap.size w w' := by
  have HR := Lib.hid hR
  have HD := Lib.hid hd
  obtain ⟨A, c, rfl, hc1, hl1, he1⟩ := hd
  clear hR he1
  have HF : Hid (∀ t : Bool, t = Np.validSet ⟨s.data.toList, ty, life, ds⟩ → (.bool t : Value) = .bool (Np.validSet ⟨s.data.toList, ty, life, ds⟩)) := fun t ht => by rw [ht]
  go_enter Tryz.func27, Tryz.ntmps27
  go_wp2_with fail
  refine (nameValid_any _ hs _).mono ?_
  rintro e w1 ⟨rfl, hb⟩
  have hb0 : Below w.heap.size w w1 := ((Below.refl _ w).alloc (Nat.le_refl _) _).trans (hb.mono (by simp))
  have hsz : w.heap.size + 1 ≤ w1.heap.size := by have := hb.size; simpa using this
  have hlt1 : w.heap.size < w1.heap.size := by omega
  have c0 : w1.cell? ⟨w.heap.size, 0, none⟩ = some (.string s) := by rw [hb.cell (by simp)]; go_simp
  have c1 : w1.cell? ⟨w.heap.size, 1, none⟩ = some (.int .i64 ty) := by rw [hb.cell (by simp)]; go_simp
  have c2 : w1.cell? ⟨w.heap.size, 2, none⟩ = some (.int .i64 life) := by rw [hb.cell (by simp)]; go_simp
  have c3 : w1.cell? ⟨w.heap.size, 3, none⟩ = some (.slice A ds.length c) := by rw [hb.cell (by simp)]; go_simp
  have HB := Lib.hid hb
  clear hb
  by_cases hty : 1 ≤ ty ∧ ty ≤ 8
  · obtain ⟨k, rfl⟩ := Int.eq_ofNat_of_zero_le (by omega : 0 ≤ ty)
    have hk9 : k < 9 := by omega
    have hrr := (HR.out.keep hb0.low).2 k hk9
    have r0 : w1.cell? ⟨0, k * 8, none⟩ = some (.int .i64 (Np.ruleOf k).text) := hrr 0 _ rfl
    have r1 : w1.cell? ⟨0, k * 8 + 1, none⟩ = some (.int .i64 (Np.ruleOf k).leastN) := hrr 1 _ rfl
    have r2 : w1.cell? ⟨0, k * 8 + 2, none⟩ = some (.int .i64 (Np.ruleOf k).mostN) := hrr 2 _ rfl
    have r3 : w1.cell? ⟨0, k * 8 + 3, none⟩ = some (.int .i64 (Np.ruleOf k).leastM) := hrr 3 _ rfl
    have r4 : w1.cell? ⟨0, k * 8 + 4, none⟩ = some (.int .i64 (Np.ruleOf k).mostM) := hrr 4 _ rfl
    have r5 : w1.cell? ⟨0, k * 8 + 5, none⟩ = some (.bool (Np.ruleOf k).even) := hrr 5 _ rfl
    have r6 : w1.cell? ⟨0, k * 8 + 6, none⟩ = some (.bool (Np.ruleOf k).single) := hrr 6 _ rfl
    have r7 : w1.cell? ⟨0, k * 8 + 7, none⟩ = some (.bool (Np.ruleOf k).wild) := hrr 7 _ rfl
    clear hrr
    go_wp2_with (first
      | (go_at_call 61; refine (within_int _ _ _ _).mono ?_; rintro e w' ⟨rfl, rfl⟩)
      | (go_at_call 62; refine (isWildcard_any _ hs _).mono ?_; rintro e w' ⟨rfl, rfl⟩))
    all_goals first
      | (go_ret
         go_light
         refine ⟨ret_bool ?_, by first | exact hb0 | exact hb0.alloc (by omega) _⟩
         simp_all [Np.validSet] <;> (intros; omega))
      | skip
    all_goals
      have hv : Np.validSet ⟨s.data.toList, k, life, ds⟩ = Np.goodData (Np.ruleOf k) none ds := by
        go_light
        simp_all [Np.validSet] <;> (intros; omega)
    rotate_left 3
    all_goals
      have HV := Lib.hid hv
      clear hv HF
      go_loopw [52] (fun i wr => ValidRel w1 (Obj.cells (ruleVal (Np.ruleOf k)) 105) (Np.ruleOf k) ds i wr) (fun i _ => ds.length - (intOf i).toNat)
      case atStart =>
        refine ⟨0, Nat.zero_le _, rfl, below_of_eq ?_, rfl⟩
        go_light
        simp_all [ruleVal]
      case round =>
        obtain ⟨j, hj, rfl, hbw, hg⟩ := hrel
        have HG := Lib.hid hg
        clear hg
        by_cases hlt : j < ds.length
        · have hwz := hbw.size
          simp only [World.size_alloc] at hwz
          have hbw0 : Below w.heap.size w wr := (hb0.alloc (by omega) _).trans (hbw.mono (by simp; omega))
          have hw0 : w.heap.size < wr.heap.size := by omega
          have hw1 : w1.heap.size < wr.heap.size := by omega
          have d3 : wr.cell? ⟨w.heap.size, 3, none⟩ = some (.slice A ds.length c) := by rw [hbw.cell (by simp; omega)]; rw [World.cell?_alloc_lt _ _ _ (by simpa using hlt1)]; exact c3
          have q0 : wr.cell? ⟨w1.heap.size, 0, none⟩ = some (.int .i64 (Np.ruleOf k).text) := by rw [hbw.cell (by simp)]; exact World.cell?_alloc_new w1 _ _ _
          have q1 : wr.cell? ⟨w1.heap.size, 1, none⟩ = some (.int .i64 (Np.ruleOf k).leastN) := by rw [hbw.cell (by simp)]; exact World.cell?_alloc_new w1 _ _ _
          have q2 : wr.cell? ⟨w1.heap.size, 2, none⟩ = some (.int .i64 (Np.ruleOf k).mostN) := by rw [hbw.cell (by simp)]; exact World.cell?_alloc_new w1 _ _ _
          have q3 : wr.cell? ⟨w1.heap.size, 3, none⟩ = some (.int .i64 (Np.ruleOf k).leastM) := by rw [hbw.cell (by simp)]; exact World.cell?_alloc_new w1 _ _ _
          have q4 : wr.cell? ⟨w1.heap.size, 4, none⟩ = some (.int .i64 (Np.ruleOf k).mostM) := by rw [hbw.cell (by simp)]; exact World.cell?_alloc_new w1 _ _ _
          have q5 : wr.cell? ⟨w1.heap.size, 5, none⟩ = some (.bool (Np.ruleOf k).even) := by rw [hbw.cell (by simp)]; exact World.cell?_alloc_new w1 _ _ _
          have q6 : wr.cell? ⟨w1.heap.size, 6, none⟩ = some (.bool (Np.ruleOf k).single) := by rw [hbw.cell (by simp)]; exact World.cell?_alloc_new w1 _ _ _
          have q7 : wr.cell? ⟨w1.heap.size, 7, none⟩ = some (.bool (Np.ruleOf k).wild) := by rw [hbw.cell (by simp)]; exact World.cell?_alloc_new w1 _ _ _
          obtain ⟨A', c', hA', _, _, hel⟩ := HD.out.keep rdatum_kept hbw0.low
          cases hA'
          obtain ⟨b, o, e, rfl, hbB, _, hce, sd, hsd, hsds, rfl⟩ := hel j _ (List.getElem?_eq_getElem hlt)
          have e0 : wr.cell? ⟨b, o + j * 3, none⟩ = some (.string sd) := hce 0 _ rfl
          have e1 : wr.cell? ⟨b, o + j * 3 + 1, none⟩ = some (.int .i64 ds[j].n) := hce 1 _ rfl
          have e2 : wr.cell? ⟨b, o + j * 3 + 2, none⟩ = some (.int .i64 ds[j].m) := hce 2 _ rfl
          have hbr : b < wr.heap.size := by omega
          have HBW := Lib.hid hbw
          have HB0 := Lib.hid hbw0
          have HEL := Lib.hid hel
          have HSD := Lib.hid hsd
          clear hce hbw hbw0 hel hsd c0 c1 c2 c3 r0 r1 r2 r3 r4 r5 r6 r7
          go_wp2_with fail
          have p0 := World.cell?_alloc_new wr #[.string sd, .int .i64 ds[j].n, .int .i64 ds[j].m] 43 0
          have p1 := World.cell?_alloc_new wr #[.string sd, .int .i64 ds[j].n, .int .i64 ds[j].m] 43 1
          have p2 := World.cell?_alloc_new wr #[.string sd, .int .i64 ds[j].n, .int .i64 ds[j].m] 43 2
          have keep : ∀ b o, b < wr.heap.size → (wr.alloc (.cells #[.string sd, .int .i64 ds[j].n, .int .i64 ds[j].m] 43)).cell? ⟨b, o, none⟩ = wr.cell? ⟨b, o, none⟩ := fun b o h => World.cell?_alloc_lt _ _ _ h
          have hsx : (wr.alloc (.cells #[.string sd, .int .i64 ds[j].n, .int .i64 ds[j].m] 43)).heap.size = wr.heap.size + 1 := World.size_alloc _ _
          have hbx : Below wr.heap.size wr (wr.alloc (.cells #[.string sd, .int .i64 ds[j].n, .int .i64 ds[j].m] 43)) := (Below.refl _ _).alloc (Nat.le_refl _) _
          generalize wr.alloc (.cells #[.string sd, .int .i64 ds[j].n, .int .i64 ds[j].m] 43) = wx at p0 p1 p2 keep hsx hbx ⊢
          have hx0 : w.heap.size < wx.heap.size := by omega
          have hx1 : w1.heap.size < wx.heap.size := by omega
          have hx2 : wr.heap.size < wx.heap.size := by omega
          have hx3 : b < wx.heap.size := by omega
          have hgc : ∀ (g : Grow wx) (p : Addr), p.block < wx.heap.size → g.w.cell? p = wx.cell? p := fun g p h => g.cell p h
          have HBX := Lib.hid hbx
          clear hbx hsx
          have hdj : (⟨sd.data.toList, ds[j].n, ds[j].m⟩ : Np.Datum) = ds[j] := by rw [HSD.out]
          have HDJ := Lib.hid hdj
          clear hdj
          by_cases hvd : Np.validDatum (Np.ruleOf k) ⟨sd.data.toList, ds[j].n, ds[j].m⟩ = true
          · have HVD := Lib.hid hvd
            clear hvd
            by_cases hj0 : j = 0
            · subst hj0
              refine wp_region_grow (by kernel_rfl) (by kernel_rfl) ?_
              repeat (go_big_quiet_step ((go_at_call 63; exact Calls.grow_of (validDatum_bool _ _ _ _ _ _ _ _ _ hsds _ _ _ true HVD.out))))
              refine wpQuiet_nil ?_
              rintro _ ⟨g, rfl⟩
              go_wp2_with fail
              go_roundw
              case rel =>
                go_light
                have h1 := Np.goodData_first (r := Np.ruleOf k) (List.getElem?_eq_getElem hlt) (by rw [← HDJ.out]; exact HVD.out)
                exact ⟨1, hlt, by go_num, HBW.out.trans ((HBX.out.trans (g.below.mono (by omega))).mono (by simp; omega)), by rw [← h1]; exact HG.out⟩
              case measure => simp [intOf] <;> omega
            · obtain ⟨i, rfl⟩ : ∃ i, j = i + 1 := ⟨j - 1, by omega⟩
              try (exfalso; omega)
              all_goals
                obtain ⟨b', o', e', hA2, hbB', _, hce', sq, hsq, hsqs, rfl⟩ := HEL.out i _ (List.getElem?_eq_getElem (by omega))
                cases hA2
                have f0 : wr.cell? ⟨b, o + i * 3, none⟩ = some (.string sq) := hce' 0 _ rfl
                have f1 : wr.cell? ⟨b, o + i * 3 + 1, none⟩ = some (.int .i64 (ds[i]'(by omega)).n) := hce' 1 _ rfl
                have f2 : wr.cell? ⟨b, o + i * 3 + 2, none⟩ = some (.int .i64 (ds[i]'(by omega)).m) := hce' 2 _ rfl
                have hdi : (⟨sq.data.toList, (ds[i]'(by omega)).n, (ds[i]'(by omega)).m⟩ : Np.Datum) = ds[i]'(by omega) := by rw [hsq]
                have HDI := Lib.hid hdi
                clear hce' hsq hdi
                refine wp_region_grow (by kernel_rfl) (by kernel_rfl) ?_
                repeat (go_big_quiet_step (first
                  | (go_at_call 63; exact Calls.grow_of (validDatum_bool _ _ _ _ _ _ _ _ _ hsds _ _ _ true HVD.out))
                  | (go_at_call 64; exact Calls.grow_of (compareData_any _ _ _ _ _ _ _))))
                refine wpQuiet_nil ?_
                rintro _ ⟨g, rfl⟩
                have h1 := Np.goodData_next (r := Np.ruleOf k) (List.getElem?_eq_getElem (by omega : i < ds.length)) (List.getElem?_eq_getElem hlt) (by rw [← HDJ.out]; exact HVD.out)
                rw [← HDJ.out, ← HDI.out] at h1
                have H1 := Lib.hid h1
                clear h1
                go_wp2_with fail
                · go_ret
                  refine ⟨ret_bool ?_, HB0.out.trans ((HBX.out.trans (g.below.mono (by omega))).mono (by omega))⟩
                  rw [HV.out, HG.out, H1.out, if_neg (by omega)]
                · go_roundw
                  case rel =>
                    go_light
                    exact ⟨i + 1 + 1, hlt, by go_num, HBW.out.trans ((HBX.out.trans (g.below.mono (by omega))).mono (by simp; omega)), by rw [HG.out, H1.out, if_pos (by omega)]⟩
                  case measure => simp [intOf] <;> omega
          · have hvd' : Np.validDatum (Np.ruleOf k) ⟨sd.data.toList, ds[j].n, ds[j].m⟩ = false := by simpa using hvd
            have HVD := Lib.hid hvd'
            clear hvd hvd'
            refine wp_region_grow (by kernel_rfl) (by kernel_rfl) ?_
            repeat (go_big_quiet_step ((go_at_call 63; exact Calls.grow_of (validDatum_bool _ _ _ _ _ _ _ _ _ hsds _ _ _ false HVD.out))))
            refine wpQuiet_nil ?_
            rintro _ ⟨g, rfl⟩
            go_wp2_with fail
            go_ret
            refine ⟨ret_bool ?_, HB0.out.trans ((HBX.out.trans (g.below.mono (by omega))).mono (by omega))⟩
            rw [HV.out, HG.out, Np.goodData_bad (List.getElem?_eq_getElem hlt) (by rw [← HDJ.out]; exact HVD.out)]
        · go_wp2_with fail
          go_ret
          refine ⟨ret_bool ?_, (hb0.alloc (by omega) _).trans (hbw.mono (by simp; omega))⟩
          rw [HV.out, HG.out, List.drop_eq_nil_of_le (by omega)]
          rfl
  · have hv : Np.validSet ⟨s.data.toList, ty, life, ds⟩ = false := by
      simp only [Np.validSet]
      have : (decide (1 ≤ ty) && decide (ty ≤ 8)) = false := by simp; omega
      rw [this]; simp
    have HV := Lib.hid hv
    clear hv
    have hty' : (decide (1 ≤ ty) && decide (ty ≤ 8)) = false := by simp; omega
    go_wp2_with (first
      | (go_at_call 61; refine (within_int _ _ _ _).mono ?_; rintro e w' ⟨rfl, rfl⟩))
    all_goals
      go_ret
      exact ⟨ret_bool HV.out.symm, hb0⟩
end Go.Proofs.YtnbolgdccdnjeaaGreatDoor.D
/- Contracts of packages name and record: a name under another one; the order of sets. -/
namespace Go.Proofs.YtnbolgdccdnjeaaGreatDoor.D
open Go.RowKit
theorem ret_under {a b : Bool} (h : a = b) : Ending.returned (.tuple #[.bool a, .int .i64 0]) = .returned (.tuple #[.bool b, .int .i64 0]) := by rw [h]
/-- The suffix, in the model's words. -/
def Np.suffix (s z : ByteArray) : Bool := decide (z.size ≤ s.size) && ((s.extract (s.size - z.size) s.size).toList == z.toList)
def Np.under (s z : ByteArray) : Bool := (s.toList == z.toList) || (z.toList == [46]) || (decide (z.size < s.size) && Np.suffix s z && ((s.data.toList[s.size - z.size - 1]?).map UInt8.toNat == some 46))
theorem suffix_eq (s z : ByteArray) (h : z.size ≤ s.size) : Np.suffix s z = (s.data.toList.drop (s.data.toList.length - z.data.toList.length) == z.data.toList) := by
  unfold Np.suffix
  rw [decide_eq_true h, Bool.true_and, ByteArray.toList_eq, ByteArray.toList_eq, ext_from, size_list, size_list]
theorem under_eq (s z : ByteArray) : Np.under s z = Np.underL s.data.toList z.data.toList := by
  unfold Np.under Np.underL
  rw [ByteArray.toList_eq, ByteArray.toList_eq, size_list, size_list]
  congr 1
  by_cases h : z.size < s.size
  · rw [suffix_eq s z (by omega), size_list, size_list, decide_eq_true h]
    congr 1
    have e : s.data.toList[s.size - z.size - 1]? = some (s[s.size - z.size - 1]'(by omega)) := get_list s _ (by omega)
    rw [e]
    simp only [Option.map_some]
    rw [Bool.eq_iff_iff]
    simp only [beq_iff_eq, Option.some.injEq]
    constructor
    · intro h; apply UInt8.toNat_inj.1; rw [h]; rfl
    · intro h; rw [h]; rfl
  · rw [decide_eq_false h]; rfl
set_option maxRecDepth 100000 in
set_option maxHeartbeats 1000000 in
theorem hasSuffix_lite (s z : ByteArray) (hs : s.size ≤ 140737488355328) (hz : z.size ≤ 140737488355328) (w : World) :
    Calls Tryz.prog 55 #[.string s, .string z] w fun e w' => e = .returned (.bool (Np.suffix s z)) ∧ w' = w := by
  go_enter Tryz.func55, Tryz.ntmps55
  go_wp2_with fail
  all_goals
    go_ret
    refine ⟨ret_bool ?_, rfl⟩
    simp_all [Np.suffix] <;> (intros; omega)
theorem hasSuffix_any (s z : ByteArray) (hs : s.size ≤ 140737488355328) (hz : z.size ≤ 140737488355328) (w : World) :
    Calls Tryz.prog 21 #[.string s, .string z] w fun e w' => e = .returned (.bool (Np.suffix s z)) ∧ w' = w := by
  go_enter Tryz.func21, Tryz.ntmps21
  go_wp2_with (go_at_call 55; refine (hasSuffix_lite s z hs hz _).mono ?_; rintro e w' ⟨rfl, rfl⟩)
  go_ret
  exact ⟨rfl, rfl⟩
set_option maxRecDepth 100000 in
set_option maxHeartbeats 1000000 in
theorem under_yes (s z : ByteArray) (hs : s.size ≤ 140737488355328) (hz : z.size ≤ 140737488355328) (w : World) (v1 : Np.validName s.data.toList = true) (v2 : Np.validName z.data.toList = true) :
    Calls Tryz.prog 26 #[.string s, .string z] w fun e w' => e = .returned (.tuple #[.bool (Np.underL s.data.toList z.data.toList), .int .i64 0]) ∧ Below w.heap.size w w' := by
  rw [← under_eq]
  have V1 := Lib.hid v1
  have V2 := Lib.hid v2
  clear v1 v2
  go_enter Tryz.func26, Tryz.ntmps26
  go_wp2_with (first
    | (go_at_call 59; have v1 := V1.out; clear V1; refine (valid_any s hs _).mono ?_; rintro e w1 ⟨rfl, hb⟩; rw [v1]; clear v1; have HB1 := Lib.hid hb; clear hb)
    | (go_at_call 59; have v2 := V2.out; clear V2; refine (valid_any z hz _).mono ?_; rintro e w2 ⟨rfl, hb⟩; rw [v2]; clear v2; have HB2 := Lib.hid hb; clear hb)
    | (go_at_call 21; refine (hasSuffix_any s z hs hz _).mono ?_; rintro e w3 ⟨rfl, rfl⟩))
  all_goals
    go_ret2
    refine ⟨ret_under ?_, HB1.out.trans (HB2.out.mono HB1.out.size)⟩
    simp_all [Np.under, ByteArray.toList_eq]
  · rename_i _ h1 h2 h3 _
    have e1 : (s.data == z.data) = false := by simpa using h1
    have e2 : (z.data.toList == [46]) = false := by simpa using h2
    have e3 : s.data[s.size - z.size - 1]? = some s[s.size - z.size - 1] := Array.getElem?_eq_getElem (by simp; omega)
    rw [e1, e2, e3, Bool.eq_iff_iff]
    simp
    omega
  · intros; omega
theorem under_no (s z : ByteArray) (hs : s.size ≤ 140737488355328) (w : World) (v1 : Np.validName s.data.toList = false) :
    Calls Tryz.prog 26 #[.string s, .string z] w fun e w' => e = .returned (.tuple #[.bool false, .int .i64 11]) ∧ Below w.heap.size w w' := by
  have V1 := Lib.hid v1
  clear v1
  go_enter Tryz.func26, Tryz.ntmps26
  go_wp2_with fail
  refine (valid_any s hs _).mono ?_
  rintro e w1 ⟨rfl, hb⟩
  rw [V1.out]
  have HB1 := Lib.hid hb
  clear hb
  go_wp2_with fail
  go_ret2
  exact ⟨rfl, HB1.out⟩
set_option maxRecDepth 100000 in
set_option maxHeartbeats 1000000 in
theorem comparePlaces_any (s1 s2 : ByteArray) (hs1 : s1.size ≤ 140737488355328) (hs2 : s2.size ≤ 140737488355328) (t1 l1 t2 l2 : Int) (v1 v2 : Value) (d1 d2 : List Np.Datum) (n1 : Np.validName s1.data.toList = true) (n2 : Np.validName s2.data.toList = true) (w : World) :
    Calls Tryz.prog 65 #[.agg #[.string s1, .int .i64 t1, .int .i64 l1, v1], .agg #[.string s2, .int .i64 t2, .int .i64 l2, v2]] w
      fun e w' => e = .returned (.int .i64 (Np.cmpSet ⟨s1.data.toList, t1, l1, d1⟩ ⟨s2.data.toList, t2, l2, d2⟩)) ∧ Below w.heap.size w w' := by
  have hw : ∀ o o', Below w.heap.size w ((w.alloc o).alloc o') := fun o o' => ((Below.refl _ w).alloc (Nat.le_refl _) _).alloc (by simp) _
  have HW := Lib.hid hw
  clear hw
  have hv : cmpVal s1.data.toList s2.data.toList = .tuple #[.int .i64 (Np.cmpName s1.data.toList s2.data.toList), .int .i64 0] := by rw [cmpVal, n1, n2]; rfl
  have HV := Lib.hid hv
  clear hv n1 n2
  by_cases h : s1.data.toList = s2.data.toList
  · have he : (!s1.toList == s2.toList) = false := by rw [ByteArray.toList_eq, ByteArray.toList_eq, h]; simp
    have hc : Np.cmpSet ⟨s1.data.toList, t1, l1, d1⟩ ⟨s2.data.toList, t2, l2, d2⟩ = Np.cmpI t1 t2 := by unfold Np.cmpSet; rw [if_neg (fun e => e h)]
    rw [hc]
    clear hc h
    go_enter Tryz.func65, Tryz.ntmps65
    go_wp2_with (go_at_call 108; refine (cmpI_any _ _ _).mono ?_; rintro e w' ⟨rfl, rfl⟩)
    go_ret
    exact ⟨rfl, HW.out _ _⟩
  · have he : (!s1.toList == s2.toList) = true := by rw [ByteArray.toList_eq, ByteArray.toList_eq]; simpa using h
    have hc : Np.cmpSet ⟨s1.data.toList, t1, l1, d1⟩ ⟨s2.data.toList, t2, l2, d2⟩ = Np.cmpName s1.data.toList s2.data.toList := by unfold Np.cmpSet; rw [if_pos h]
    rw [hc]
    clear hc h
    go_enter Tryz.func65, Tryz.ntmps65
    go_wp2_with fail
    refine (compare_any s1 s2 hs1 hs2 _).mono ?_
    rintro e w1 ⟨rfl, hb⟩
    rw [HV.out]
    have HB := Lib.hid ((HW.out _ _).trans (hb.mono (by simp; omega)))
    clear hb
    go_wp2_with fail
    go_ret
    exact ⟨rfl, HB.out⟩
/-- What record.Compare hands back. -/
def cmpSetVal (a b : Np.DSet) : Value := if Np.validSet a && Np.validSet b then .tuple #[.int .i64 (Np.cmpSet a b), .int .i64 0] else .tuple #[.int .i64 0, .int .i64 1]
theorem valid_name {s : Np.DSet} (h : Np.validSet s = true) : Np.validName s.name = true := by
  unfold Np.validSet at h
  simp only [Bool.and_eq_true] at h
  exact h.1.1.1.1.1.1
set_option maxRecDepth 100000 in
set_option maxHeartbeats 1000000 in
theorem recCompare_any (s1 s2 : ByteArray) (hs1 : s1.size ≤ 140737488355328) (hs2 : s2.size ≤ 140737488355328) (t1 l1 t2 l2 : Int) (v1 v2 : Value) (d1 d2 : List Np.Datum) (w : World) (hR : RulesIn w w.heap.size) (hd1 : SlR RDatum 3 w w.heap.size v1 d1) (hd2 : SlR RDatum 3 w w.heap.size v2 d2) :
    Calls Tryz.prog 28 #[.agg #[.string s1, .int .i64 t1, .int .i64 l1, v1], .agg #[.string s2, .int .i64 t2, .int .i64 l2, v2]] w
      fun e w' => e = .returned (cmpSetVal ⟨s1.data.toList, t1, l1, d1⟩ ⟨s2.data.toList, t2, l2, d2⟩) ∧ Below w.heap.size w w' := by
  have hw : ∀ o o', Below w.heap.size w ((w.alloc o).alloc o') := fun o o' => ((Below.refl _ w).alloc (Nat.le_refl _) _).alloc (by simp) _
  have HW := Lib.hid hw
  have HR := Lib.hid hR
  have HD1 := Lib.hid hd1
  have HD2 := Lib.hid hd2
  obtain ⟨A1, c1, rfl, -, -, -⟩ := hd1
  obtain ⟨A2, c2, rfl, -, -, -⟩ := hd2
  clear hw hR
  go_enter Tryz.func28, Tryz.ntmps28
  go_wp2_with fail
  refine (recValid_any s1 hs1 t1 l1 _ d1 _ ((HR.out.keep (HW.out _ _).low).more (by simp; omega)) ((HD1.out.keep rdatum_kept (HW.out _ _).low).more rdatum_more (by simp; omega))).mono ?_
  rintro e w1 ⟨rfl, hb1⟩
  obtain ⟨hc1, hf1⟩ := bcell hb1
  have hz1 : w.heap.size + 1 < w1.heap.size := by have := hb1.size; simp at this; omega
  have hz0 : w.heap.size < w1.heap.size := by omega
  have HB1 := Lib.hid ((HW.out _ _).trans (hb1.mono (by simp; omega)))
  clear hb1
  cases q1 : Np.validSet ⟨s1.data.toList, t1, l1, d1⟩ with
  | false =>
    have HQ := Lib.hid q1
    clear q1
    go_wp2_with fail
    go_ret2
    exact ⟨by rw [cmpSetVal, HQ.out]; rfl, HB1.out⟩
  | true =>
    have HQ := Lib.hid q1
    clear q1
    go_wp2_with fail
    refine (recValid_any s2 hs2 t2 l2 _ d2 _ ((HR.out.keep HB1.out.low).more HB1.out.size) ((HD2.out.keep rdatum_kept HB1.out.low).more rdatum_more HB1.out.size)).mono ?_
    rintro e w2 ⟨rfl, hb2⟩
    obtain ⟨hc2, hf2⟩ := bcell hb2
    have hz2 : w.heap.size + 1 < w2.heap.size := by have := hb2.size; omega
    have HB2 := Lib.hid (HB1.out.trans (hb2.mono HB1.out.size))
    clear hb2
    cases q2 : Np.validSet ⟨s2.data.toList, t2, l2, d2⟩ with
    | false =>
      have HQ2 := Lib.hid q2
      clear q2
      go_wp2_with fail
      go_ret2
      exact ⟨by rw [cmpSetVal, HQ.out, HQ2.out]; rfl, HB2.out⟩
    | true =>
      have HQ2 := Lib.hid q2
      clear q2
      go_wp2_with fail
      refine (comparePlaces_any s1 s2 hs1 hs2 t1 l1 t2 l2 _ _ d1 d2 (valid_name HQ.out) (valid_name HQ2.out) _).mono ?_
      rintro e w3 ⟨rfl, hb3⟩
      have HB3 := Lib.hid (HB2.out.trans (hb3.mono HB2.out.size))
      clear hb3
      go_wp2_with fail
      go_ret2
      exact ⟨by rw [cmpSetVal, HQ.out, HQ2.out]; rfl, HB3.out⟩
end Go.Proofs.YtnbolgdccdnjeaaGreatDoor.D
