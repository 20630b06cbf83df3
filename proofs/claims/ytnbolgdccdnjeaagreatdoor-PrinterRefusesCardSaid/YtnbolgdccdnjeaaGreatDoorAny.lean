/- strings.IndexAny of a text's end: a quote or a line feed. -/
import Derived.Test.YtnbolgdccdnjeaaGreatDoorShelf
import Derived.Test.YtnbolgdccdnjeaaGreatDoorEnds
import Derived.Laws.RangeAny
import Derived.Laws.Runes
import Derived.Deep.LoopGhost
import Derived.Scope
namespace Go.Proofs.YtnbolgdccdnjeaaGreatDoor
open Go.RowKit
theorem iter_below (w : World) (s : ByteArray) (p : Nat) : Below w.heap.size w (w.iter s p) := (Below.refl _ w).alloc (Nat.le_refl _) _
set_option maxRecDepth 100000 in
set_option maxHeartbeats 1000000 in
theorem indexRune_high (r : Int) (h1 : 128 ≤ r) (h2 : r ≤ 2147483647) (w : World) :
    Calls Tryz.prog 149 #[.string ⟨#[34, 10]⟩, .int .i32 r] w fun e w' => e = .returned (.int .i64 (-1)) ∧ Below w.heap.size w w' := by
  have hlo : decide (0 ≤ r) = true := by simp; omega
  have hhi : decide (r < 128) = false := by simp; omega
  by_cases he : r = 65533
  · subst he
    go_enter Tryz.func149, Tryz.ntmps149
    go_wp2_with fail
    go_loopg [5, 6] 2 (fun g _ _ wx => ∃ i : Nat, i + g = 2 ∧ wx = w.iter ⟨#[34, 10]⟩ i)
    case atStart => exact ⟨0, by omega, rfl⟩
    case round =>
      obtain ⟨i, hig, rfl⟩ := hrel
      cases gk with
      | zero =>
        obtain rfl : i = 2 := by omega
        have hnx := fun ty => run_next_end (P := Tryz.prog) w ⟨#[34, 10]⟩ 2 ty (by decide)
        go_wp2_with fail
        go_ret
        exact ⟨rfl, iter_below _ _ _⟩
      | succ g =>
        have hi : i = 0 ∨ i = 1 := by omega
        rcases hi with rfl | rfl
        · have hnx : ∀ ty, (Instr.next (.pointer (some ⟨w.heap.size, 0, none⟩)) true ty).run Tryz.prog (w.iter ⟨#[34, 10]⟩ 0) = .ok (.tuple #[.bool true, .int .i64 0, .int .i32 34]) (w.iter ⟨#[34, 10]⟩ 1) := fun ty => run_next_ascii (P := Tryz.prog) w ⟨#[34, 10]⟩ 0 ty (by decide) (by decide)
          go_wp2_with fail
          go_roundg g
          case rel => exact ⟨1, by omega, rfl⟩
          case measure => omega
        · have hnx : ∀ ty, (Instr.next (.pointer (some ⟨w.heap.size, 0, none⟩)) true ty).run Tryz.prog (w.iter ⟨#[34, 10]⟩ 1) = .ok (.tuple #[.bool true, .int .i64 1, .int .i32 10]) (w.iter ⟨#[34, 10]⟩ 2) := fun ty => run_next_ascii (P := Tryz.prog) w ⟨#[34, 10]⟩ 1 ty (by decide) (by decide)
          go_wp2_with fail
          go_roundg g
          case rel => exact ⟨2, by omega, rfl⟩
          case measure => omega
  · have he' : (r == 65533) = false := by simpa using he
    by_cases hv : Lib.validRune r = true
    · have HV := Lib.hid hv
      obtain ⟨n1, n2, n3⟩ := encode_facts r (by rw [validRune_eq]; exact hv) h1
      generalize hrs : Utf8.encode r = rs at *
      have N3 := Lib.hid n3
      clear hv he n3
      go_enter Tryz.func149, Tryz.ntmps149
      go_wp2_with (go_at_call 177; refine (Tryz.utf8_ValidRune r _).mono ?_; rintro e w' ⟨rfl, rfl⟩; rw [HV.out])
      go_step3
      go_wp2_with fail
      by_cases hsz : rs.size = 2
      · have hsz1 : (rs.size : Int) - 1 = 1 := by omega
        have hlt : 1 < rs.size := by omega
        have hltI : (1 : Int) < (rs.size : Int) := by omega
        have hb : 128 ≤ (rs[1]'hlt).toNat := by
          have := N3.out (by omega)
          simpa [hsz] using this
        have hne : ((10 : Int) != ((rs[1]'hlt).toNat : Int)) = true := by simp; omega
        have hne2 : ((((⟨#[34, 10]⟩ : ByteArray)[1]'(by decide)).toNat : Int) != ((rs[1]'hlt).toNat : Int)) = true := hne
        rw [hsz1]
        have HSZ := Lib.hid hsz
        clear hsz hsz1 n1 n2
        refine wp_loop_rounds 1 ?_
        rw [rounds_succ]
        go_wp2_with fail
        go_step3
        go_wp2_with fail
        go_quiet (fail)
        go_wp2_with fail
        generalize hw2 : World.drewN _ nq = w2
        have HB2 := Lib.hid (show Below w'.heap.size w' w2 from hw2 ▸ below_drewN (Below.refl _ _) _)
        clear hw2
        go_quiet ((go_at_call 115; exact Calls.quiet_of_same (Tryz.strings_IndexByte _ _ _)))
        go_wp2_with fail
        rw [Exit.noGoto_ret]
        go_wp2_with fail
        rw [Exit.noGoto_ret]
        go_wp2_with fail
        go_ret
        exact ⟨rfl, below_drewN HB2.out _⟩
      · have h3 : 2 ≤ (rs.size : Int) - 1 := by omega
        refine wp_loop_rounds 1 ?_
        rw [rounds_succ]
        go_wp2_with fail
        rw [Exit.noGoto_ret]
        go_ret
        exact ⟨rfl, Below.refl _ _⟩
    · have hv' : Lib.validRune r = false := by simpa using hv
      have HV := Lib.hid hv'
      clear hv hv' he
      go_enter Tryz.func149, Tryz.ntmps149
      go_wp2_with (go_at_call 177; refine (Tryz.utf8_ValidRune r _).mono ?_; rintro e w' ⟨rfl, rfl⟩; rw [HV.out])
      go_ret
      exact ⟨rfl, Below.refl _ _⟩
/-- A string's iterator, set on. -/
def setIter (W : World) (b : Nat) (s : ByteArray) (p : Nat) : World := { W with heap := W.heap.setIfInBounds b (.stringIter s p) }
theorem setIter_at {W : World} {b : Nat} (s : ByteArray) (p : Nat) (h : b < W.heap.size) : (setIter W b s p).heap[b]? = some (.stringIter s p) := by simp [setIter, h]
theorem setIter_size (W : World) (b : Nat) (s : ByteArray) (p : Nat) : (setIter W b s p).heap.size = W.heap.size := by simp [setIter]
theorem setIter_below {B : Nat} {a W : World} {b : Nat} (h : Below B a W) (hb : B ≤ b) (s : ByteArray) (p : Nat) : Below B a (setIter W b s p) :=
  h.trans ⟨rfl, rfl, rfl, by rw [setIter_size]; exact Nat.le_refl _, fun k hk => by simp [setIter, show b ≠ k by omega]⟩
theorem run_next_gen {P : Program} (W : World) (b : Nat) (s : ByteArray) (pos : Nat) (ty : TypeId) (hb : W.heap[b]? = some (.stringIter s pos)) (h : pos < s.size) :
    (Instr.next (.pointer (some ⟨b, 0, none⟩)) true ty).run P W = .ok (.tuple #[.bool true, .int .i64 pos, .int .i32 (Utf8.decode s pos).1]) (setIter W b s (pos + (Utf8.decode s pos).2)) := by
  simp only [Instr.next, getObj, setObj, Sem.run_bind, Sem.run, hb, Result.andThen, h, if_true]
  simp [goInt, setIter]
theorem run_next_stop {P : Program} (W : World) (b : Nat) (s : ByteArray) (pos : Nat) (ty : TypeId) (hb : W.heap[b]? = some (.stringIter s pos)) (h : ¬ pos < s.size) :
    (Instr.next (.pointer (some ⟨b, 0, none⟩)) true ty).run P W = .ok (.tuple #[.bool false]) W := by
  simp [Instr.next, getObj, Sem.run, hb, h]
/-- A rune that is no ASCII byte is made of bytes that are none. -/
theorem decode_bytes (s : ByteArray) (pos : Nat) (h : pos < s.size) (ha : 128 ≤ (s[pos]'h).toNat) : ∀ j, pos ≤ j → j < pos + (Utf8.decode s pos).2 → ∃ hj : j < s.size, 128 ≤ (s[j]'hj).toNat := by
  have e0 : (s.get! (pos + 0)).toNat = (s[pos]'h).toNat := by rw [get_at s pos h]
  have hc : ∀ k, (decide (pos + k < s.size) && (s.get! (pos + k)).toNat / 64 == 2) = true → ∃ hj : pos + k < s.size, 128 ≤ (s[pos + k]'hj).toNat := fun k hk => by
    simp only [Bool.and_eq_true, decide_eq_true_eq, beq_iff_eq] at hk
    refine ⟨hk.1, ?_⟩
    have e := get_at s (pos + k) hk.1
    rw [Nat.add_zero] at e
    rw [e] at hk
    omega
  have h0 : ∃ hj : pos < s.size, 128 ≤ (s[pos]'hj).toNat := ⟨h, ha⟩
  intro j hj1 hj2
  have key : j = pos ∨ (j = pos + 1 ∧ (decide (pos + 1 < s.size) && (s.get! (pos + 1)).toNat / 64 == 2) = true) ∨ (j = pos + 2 ∧ (decide (pos + 2 < s.size) && (s.get! (pos + 2)).toNat / 64 == 2) = true) ∨ (j = pos + 3 ∧ (decide (pos + 3 < s.size) && (s.get! (pos + 3)).toNat / 64 == 2) = true) := by
    unfold Utf8.decode at hj2
    simp only at hj2
    split at hj2
    · omega
    · split at hj2
      · rename_i c1
        simp only [Bool.and_eq_true] at c1
        split at hj2
        · rcases (by simp at hj2; omega : j = pos ∨ j = pos + 1) with e | e
          · exact .inl e
          · exact .inr (.inl ⟨e, by simpa using c1.2⟩)
        · exact .inl (by simp at hj2; omega)
      · split at hj2
        · rename_i c2
          simp only [Bool.and_eq_true] at c2
          split at hj2
          · rcases (by simp at hj2; omega : j = pos ∨ j = pos + 1 ∨ j = pos + 2) with e | e | e
            · exact .inl e
            · exact .inr (.inl ⟨e, by simpa using c2.1.2⟩)
            · exact .inr (.inr (.inl ⟨e, by simpa using c2.2⟩))
          · exact .inl (by simp at hj2; omega)
        · split at hj2
          · rename_i c3
            simp only [Bool.and_eq_true] at c3
            split at hj2
            · rcases (by simp at hj2; omega : j = pos ∨ j = pos + 1 ∨ j = pos + 2 ∨ j = pos + 3) with e | e | e | e
              · exact .inl e
              · exact .inr (.inl ⟨e, by simpa using c3.1.1.2⟩)
              · exact .inr (.inr (.inl ⟨e, by simpa using c3.1.2⟩))
              · exact .inr (.inr (.inr ⟨e, by simpa using c3.2⟩))
            · exact .inl (by simp at hj2; omega)
          · exact .inl (by simp at hj2; omega)
  rcases key with rfl | ⟨rfl, k⟩ | ⟨rfl, k⟩ | ⟨rfl, k⟩
  · exact h0
  · exact hc 1 k
  · exact hc 2 k
  · exact hc 3 k
def quoteEnd (c : UInt8) : Bool := c == 34 || c == 10
theorem quoteEnd_eq (c : UInt8) : ([34, 10] : List UInt8).contains c = quoteEnd c := by rw [Bool.eq_iff_iff]; simp [quoteEnd]
theorem indexAny_take (l : List UInt8) : Lib.indexAny l [34, 10] = if (l.takeWhile fun c => !quoteEnd c).length = l.length then -1 else ((l.takeWhile fun c => !quoteEnd c).length : Int) := by
  induction l with
  | nil => rfl
  | cons b l ih =>
    rw [Lib.indexAny, quoteEnd_eq]
    by_cases hb : quoteEnd b = true
    · simp [hb]
    · have hb' : quoteEnd b = false := by simpa using hb
      rw [hb', ih]
      have hle : (l.takeWhile fun c => !quoteEnd c).length ≤ l.length := Np.takeWhile_le l
      simp only [List.takeWhile_cons, hb', Bool.not_false, List.length_cons, ↓reduceIte]
      by_cases e : (l.takeWhile fun c => !quoteEnd c).length = l.length
      · simp [e]
      · simp [e]
/-- No quote and no line feed before i. -/
def NoQ (l : List UInt8) (i : Nat) : Prop := ∀ j b, j < i → l[j]? = some b → quoteEnd b = false
theorem noQ_take {l : List UInt8} : ∀ {i : Nat}, NoQ l i → i ≤ l.length → i ≤ (l.takeWhile fun c => !quoteEnd c).length := by
  induction l with
  | nil => intro i _ h; simpa using h
  | cons b l ih =>
    intro i h hi
    cases i with
    | zero => exact Nat.zero_le _
    | succ i =>
      have hb := h 0 b (by omega) rfl
      have := ih (i := i) (fun j c hj hc => h (j + 1) c (by omega) (by simpa using hc)) (by simpa using hi)
      simp [hb]; omega
theorem take_stop {l : List UInt8} {i : Nat} {b : UInt8} (hb : l[i]? = some b) (hq : quoteEnd b = true) : (l.takeWhile fun c => !quoteEnd c).length ≤ i := by
  induction l generalizing i with
  | nil => simp at hb
  | cons c l ih =>
    cases i with
    | zero => simp at hb; subst hb; simp [hq]
    | succ i =>
      have := ih (i := i) (by simpa using hb)
      rw [List.takeWhile_cons]
      split <;> simp; omega
theorem indexAny_none {l : List UInt8} (h : NoQ l l.length) : Lib.indexAny l [34, 10] = -1 := by
  rw [indexAny_take, if_pos]
  have h1 := noQ_take h (Nat.le_refl _)
  have h2 : (l.takeWhile fun c => !quoteEnd c).length ≤ l.length := Np.takeWhile_le l
  omega
theorem indexAny_at {l : List UInt8} {i : Nat} {b : UInt8} (h : NoQ l i) (hb : l[i]? = some b) (hq : quoteEnd b = true) : Lib.indexAny l [34, 10] = i := by
  have hi := (List.getElem?_eq_some_iff.1 hb).1
  have h1 := noQ_take h (by omega)
  have h2 := take_stop hb hq
  rw [indexAny_take, if_neg (by omega)]
  omega
set_option maxRecDepth 100000 in
set_option maxHeartbeats 1000000 in
theorem indexAny_q (s : ByteArray) (hs : s.size ≤ 100000) (w : World) :
    Calls Tryz.prog 118 #[.string s, .string ⟨#[34, 10]⟩] w fun e w' => e = .returned (.int .i64 (Lib.indexAny s.data.toList [34, 10])) ∧ Below w.heap.size w w' := by
  by_cases h8 : 8 < s.size
  · refine (Tryz.strings_IndexAny_long (fun w => by kernel_rfl) s ⟨#[34, 10]⟩ w (by decide) h8 (by omega) (by decide) (fun j b hj => ?_)).mono ?_
    · match j, hj with
      | 0, hj => simp at hj; subst hj; decide
      | 1, hj => simp at hj; subst hj; decide
      | j + 2, hj => simp at hj
    · rintro e w' ⟨rfl, rfl⟩
      exact ⟨rfl, ((Below.refl _ w).alloc (Nat.le_refl _) _).alloc (by simp) _⟩
  · have h8' : decide ((8 : Int) < (s.size : Int)) = false := by simp; omega
    have h8n : decide (8 < s.size) = false := by simp; omega
    go_enter Tryz.func118, Tryz.ntmps118
    go_wp2
    go_loopg [9, 10] s.size (fun g _ _ wx => ∃ i : Nat, i ≤ s.size ∧ g = s.size - i ∧ Hid (Below w.heap.size w wx) ∧ Hid (wx.heap[w.heap.size]? = some (.stringIter s i)) ∧ Hid (NoQ s.data.toList i))
    case atStart => exact ⟨0, by omega, by omega, Lib.hid (iter_below _ _ _), Lib.hid (World.iter_heap _ _ _), Lib.hid (fun j b hj _ => by omega)⟩
    case round =>
      obtain ⟨i, hi, hg, HB, HI, HN⟩ := hrel
      by_cases hlt : i < s.size
      · have HS := Lib.hid (get_list s i hlt)
        have hwl : w.heap.size < wr.heap.size := (Array.getElem?_eq_some_iff.1 HI.out).1
        by_cases ha : (s[i]).toNat < 128
        · have hnx : ∀ ty, (Instr.next (.pointer (some ⟨w.heap.size, 0, none⟩)) true ty).run Tryz.prog wr = .ok (.tuple #[.bool true, .int .i64 i, .int .i32 ((s[i]).toNat : Int)]) (setIter wr w.heap.size s (i + 1)) := fun ty => by
            have := run_next_gen (P := Tryz.prog) wr w.heap.size s i ty HI.out hlt
            rwa [decode_ascii s i hlt ha] at this
          have HB1 := Lib.hid (setIter_below HB.out (Nat.le_refl _) s (i + 1))
          have HI1 := Lib.hid (setIter_at (W := wr) (b := w.heap.size) s (i + 1) hwl)
          generalize setIter wr w.heap.size s (i + 1) = w1 at *
          by_cases hq : quoteEnd s[i] = true
          · have hix : 0 ≤ Lib.indexByte [34, 10] s[i] := by
              have e := quoteEnd_eq s[i]
              rw [hq] at e
              simp [Lib.indexByte]
              rcases (by simpa using e : s[i] = 34 ∨ s[i] = 10) with h | h <;> simp [h]
            have hix' : 0 ≤ Lib.indexByte [34, 10] (((s[i]).toNat : Int)).toNat.toUInt8 := by
              simpa using hix
            have HQ := Lib.hid hq
            obtain ⟨n, hn, HX⟩ : ∃ n : Int, 0 ≤ n ∧ Hid (Lib.indexByte [34, 10] (((s[i]).toNat : Int)).toNat.toUInt8 = n) := ⟨_, hix', Lib.hid rfl⟩
            clear hq hix hix'
            go_wp2_with (go_at_call 149; refine (Tryz.strings_IndexRune_ascii _ _ _ (by omega) (by omega)).mono ?_; rintro e w' ⟨rfl, rfl⟩; rw [show Lib.indexByte (⟨#[34, 10]⟩ : ByteArray).data.toList (((s[i]).toNat : Int)).toNat.toUInt8 = n from HX.out])
            go_ret
            exact ⟨ret_int (indexAny_at HN.out HS.out HQ.out).symm, HB1.out⟩
          · have hix' : Lib.indexByte [34, 10] (((s[i]).toNat : Int)).toNat.toUInt8 = -1 := by
              have e := quoteEnd_eq s[i]
              rw [show quoteEnd s[i] = false by simpa using hq] at e
              have e' : ¬ s[i] = 34 ∧ ¬ s[i] = 10 := by simpa using e
              simp [Lib.indexByte, Ne.symm e'.1, Ne.symm e'.2]
            have HX := Lib.hid hix'
            have HQ := Lib.hid (show quoteEnd s[i] = false by simpa using hq)
            clear hq hix'
            go_wp2_with (go_at_call 149; refine (Tryz.strings_IndexRune_ascii _ _ _ (by omega) (by omega)).mono ?_; rintro e w' ⟨rfl, rfl⟩; rw [show Lib.indexByte (⟨#[34, 10]⟩ : ByteArray).data.toList (((s[i]).toNat : Int)).toNat.toUInt8 = -1 from HX.out])
            go_roundg (s.size - (i + 1))
            case rel =>
              refine ⟨i + 1, by omega, rfl, HB1, HI1, Lib.hid (fun j b hj hb => ?_)⟩
              rcases Nat.lt_or_ge j i with h | h
              · exact HN.out j b h hb
              · obtain rfl : j = i := by omega
                rw [HS.out] at hb
                cases hb
                exact HQ.out
            case measure => omega
        · have ha' : 128 ≤ (s[i]).toNat := by omega
          obtain ⟨d1, d2⟩ := decode_high s i hlt ha'
          have d3 := decode_le s i
          have HD := Lib.hid (decode_bytes s i hlt ha')
          have hnx : ∀ ty, (Instr.next (.pointer (some ⟨w.heap.size, 0, none⟩)) true ty).run Tryz.prog wr = .ok (.tuple #[.bool true, .int .i64 i, .int .i32 ((Utf8.decode s i).1 : Int)]) (setIter wr w.heap.size s (i + (Utf8.decode s i).2)) := fun ty => run_next_gen (P := Tryz.prog) wr w.heap.size s i ty HI.out hlt
          generalize (Utf8.decode s i).2 = n at *
          generalize (Utf8.decode s i).1 = r at *
          have hin : i + n ≤ s.size := by
            obtain ⟨h, _⟩ := HD.out (i + n - 1) (by omega) (by omega)
            omega
          have HB1 := Lib.hid (setIter_below HB.out (Nat.le_refl _) s (i + n))
          have HI1 := Lib.hid (setIter_at (W := wr) (b := w.heap.size) s (i + n) hwl)
          have hz1 : w.heap.size < (setIter wr w.heap.size s (i + n)).heap.size := by rw [setIter_size]; exact hwl
          generalize setIter wr w.heap.size s (i + n) = w1 at *
          go_wp2_with (go_at_call 149; refine (indexRune_high _ (by omega) (by omega) _).mono ?_; rintro e w2 ⟨rfl, hb2⟩; have HB2 := Lib.hid hb2; clear hb2)
          go_roundg (s.size - (i + n))
          case rel =>
            refine ⟨i + n, hin, rfl, Lib.hid (HB1.out.trans (HB2.out.mono HB1.out.size)), Lib.hid ((HB2.out.block _ hz1).trans HI1.out), Lib.hid (fun j b hj hb => ?_)⟩
            rcases Nat.lt_or_ge j i with h | h
            · exact HN.out j b h hb
            · obtain ⟨hj', h128⟩ := HD.out j h hj
              rw [get_list s j hj'] at hb
              cases hb
              unfold quoteEnd
              have e1 : s[j] ≠ 34 := fun e => by rw [e] at h128; exact absurd h128 (by decide)
              have e2 : s[j] ≠ 10 := fun e => by rw [e] at h128; exact absurd h128 (by decide)
              simp [e1, e2]
          case measure => omega
      · have hnx := fun ty => run_next_stop (P := Tryz.prog) wr w.heap.size s i ty HI.out hlt
        go_wp2
        go_ret
        exact ⟨ret_int (indexAny_none (by rw [size_list, show s.size = i by omega]; exact HN.out)).symm, HB.out⟩
end Go.Proofs.YtnbolgdccdnjeaaGreatDoor
