/- The functions that find where a gap or a token ends. -/
import Derived.Test.YtnbolgdccdnjeaaGreatDoorAny
namespace Go.Proofs.YtnbolgdccdnjeaaGreatDoor
open Go.RowKit
theorem clsI_byte (c : UInt8) : clsI c.toNat = (Np.cls c : Int) := by
  unfold clsI
  rw [show UInt8.ofNat c.toNat = c by simp]
/-- The table of classes. -/
def TabAt (bo : Nat) (w : World) : Prop := w.heap[bo]? = some (.cells (tabArr clsI) 110)
theorem TabAt.keep {bo B : Nat} {w w' : World} (h : TabAt bo w) (hb : Below B w w') (hB : bo < B) : TabAt bo w' := (hb.block _ hB).trans h
theorem TabAt.cell {bo : Nat} {w : World} (h : TabAt bo w) (c : UInt8) : w.cell? ⟨bo, c.toNat, none⟩ = some (.int .i64 (Np.cls c)) := by
  unfold World.cell?
  rw [h]
  simp only [Option.isSome_none, Bool.false_eq_true, ↓reduceIte]
  rw [tabArr_get _ _ (UInt8.toNat_lt c), clsI_byte]
theorem TabAt.lt {bo : Nat} {w : World} (h : TabAt bo w) : bo < w.heap.size := (Array.getElem?_eq_some_iff.1 h).1
/-- All that endings laid, and the table. -/
structure Ends (N bo : Nat) (s : ByteArray) (w : World) : Prop where
  at_ : EndsAt N s bo w
  tab : TabAt bo w
  lt : N + 1 + 1 + 1 < w.heap.size
theorem Ends.keep {N bo : Nat} {s : ByteArray} {w w' : World} (h : Ends N bo s w) (hb : Below w.heap.size w w') : Ends N bo s w' :=
  ⟨h.at_.keep hb h.lt, h.tab.keep hb h.tab.lt, Nat.lt_of_lt_of_le h.lt hb.size⟩
theorem runs_snoc {l : List UInt8} {p k : Nat} {c : UInt8} (hc : l[k]? = some c) (hp : p ≤ k) (h : ∀ j b, p ≤ j → j < k → l[j]? = some b → Np.isRun b = true) (hr : Np.isRun c = true) : ∀ j b, p ≤ j → j < k + 1 → l[j]? = some b → Np.isRun b = true := fun j b hj hj2 hb => by
  rcases Nat.lt_or_ge j k with h1 | h1
  · exact h j b hj h1 hb
  · obtain rfl : j = k := by omega
    rw [hc] at hb; cases hb; exact hr
theorem takeWhile_at {p : UInt8 → Bool} : ∀ {l : List UInt8} {k : Nat}, k ≤ l.length → (∀ j b, j < k → l[j]? = some b → p b = true) → (∀ b, l[k]? = some b → p b = false) → (l.takeWhile p).length = k
  | [], k, hk, _, _ => by simp at hk; subst hk; rfl
  | c :: l, 0, _, _, h2 => by simp [h2 c rfl]
  | c :: l, k + 1, hk, h1, h2 => by
    have := takeWhile_at (p := p) (l := l) (k := k) (by simpa using hk) (fun j b hj hb => h1 (j + 1) b (by omega) (by simpa using hb)) (fun b hb => h2 b (by simpa using hb))
    simp [h1 0 c (by omega) rfl, this]
theorem run_len {l : List UInt8} {p k : Nat} (hk : k ≤ l.length) (hp : p ≤ k) (h : ∀ j b, p ≤ j → j < k → l[j]? = some b → Np.isRun b = true) (hs : ∀ b, l[k]? = some b → Np.isRun b = false) : p + ((l.drop p).takeWhile Np.isRun).length = k := by
  rw [takeWhile_at (k := k - p) (by simp; omega) (fun j b hj hb => h (p + j) b (by omega) (by omega) (by simpa using hb)) (fun b hb => hs b (by rw [List.getElem?_drop] at hb; rwa [show p + (k - p) = k by omega] at hb))]
  omega
set_option maxRecDepth 100000 in
set_option maxHeartbeats 1000000 in
theorem run_any (N bo : Nat) (s : ByteArray) (hs : s.size ≤ 100000) (p : Nat) (hp : p ≤ s.size) (w : World) (hE : Ends N bo s w) :
    Calls Tryz.prog 111 #[.int .i64 p, .pointer (some ⟨N, 0, none⟩), .pointer (some ⟨N + 1, 0, none⟩)] w fun e w' => e = .returned (.int .i64 ((p + ((s.data.toList.drop p).takeWhile Np.isRun).length : Nat) : Int)) ∧ Below w.heap.size w w' := by
  have HE := Lib.hid hE
  clear hE
  go_enter Tryz.func111, Tryz.ntmps111
  go_wp2_with fail
  go_loopw [0, 5] (fun i _ wr => ∃ k : Nat, p ≤ k ∧ k ≤ s.size ∧ i = .int .i64 k ∧ Hid (Below w.heap.size w wr) ∧ Hid (∀ j b, p ≤ j → j < k → s.data.toList[j]? = some b → Np.isRun b = true)) (fun i _ _ => s.size - (intOf i).toNat)
  case atStart => exact ⟨p, Nat.le_refl _, hp, rfl, Lib.hid (Below.refl _ _), Lib.hid (fun j b h1 h2 => by omega)⟩
  case round =>
    obtain ⟨k, hpk, hk, rfl, HB, HA⟩ := hrel
    have hE := HE.out.keep HB.out
    have c0 : wr.cell? ⟨N, 0, none⟩ = some (.string s) := hE.at_.src
    have c1 : wr.cell? ⟨N + 1, 0, none⟩ = some (.pointer (some ⟨bo, 0, none⟩)) := hE.at_.tab
    by_cases hlt : k < s.size
    · have HS := Lib.hid (get_list s k hlt)
      have c2 : wr.cell? ⟨bo, (s[k]).toNat, none⟩ = some (.int .i64 (Np.cls s[k])) := hE.tab.cell s[k]
      have h256 : ((s[k]).toNat : Int) < 256 := by have := UInt8.toNat_lt s[k]; omega
      have h0 : (0 : Int) ≤ ((s[k]).toNat : Int) := by omega
      have hkI : (k : Int) < (s.size : Int) := by omega
      have hk0 : (0 : Int) ≤ (k : Int) := by omega
      clear hE
      go_wp2_with fail
      go_quiet (fail)
      by_cases hr : Np.isRun s[k] = true
      · have HR := Lib.hid hr
        have hrr : Np.cls s[k] = 3 ∨ Np.cls s[k] = 4 ∨ Np.cls s[k] = 5 := by simp [Np.isRun] at hr; omega
        clear hr
        rcases hrr with h | h | h
        all_goals
          rw [h]
          clear h
          go_wp2_with fail
          go_roundw
          case rel => exact ⟨k + 1, by omega, by omega, by go_num, Lib.hid (below_drewN HB.out _), Lib.hid (runs_snoc HS.out hpk HA.out HR.out)⟩
          case measure => simp [intOf] <;> omega
      · have HR := Lib.hid (show Np.isRun s[k] = false by simpa using hr)
        have hrr : ((Np.cls s[k] : Int) != 3) = true ∧ ((Np.cls s[k] : Int) != 4) = true ∧ ((Np.cls s[k] : Int) != 5) = true := by simp [Np.isRun] at hr; simp; omega
        obtain ⟨r3, r4, r5⟩ := hrr
        clear hr
        go_wp2_with fail
        go_ret
        exact ⟨ret_int (by rw [run_len (k := k) (by rw [size_list]; omega) hpk HA.out (fun b hb => by rw [HS.out] at hb; cases hb; exact HR.out)]), below_drewN HB.out _⟩
    · have : k = s.size := by omega
      subst this
      clear hE
      go_wp2_with fail
      go_ret
      exact ⟨ret_int (by rw [run_len (k := s.size) (by rw [size_list]; omega) hpk HA.out (fun b hb => by rw [List.getElem?_eq_none (by rw [size_list]; omega)] at hb; cases hb)]), HB.out⟩
theorem indexByte_take (l : List UInt8) : Lib.indexByte l 10 = if (l.takeWhile Np.notEnd).length = l.length then -1 else ((l.takeWhile Np.notEnd).length : Int) := by
  induction l with
  | nil => rfl
  | cons b l ih =>
    rw [Lib.indexByte]
    by_cases hb : b = 10
    · subst hb; simp [Np.notEnd]
    · have hb' : Np.notEnd b = true := by simp [Np.notEnd, hb]
      rw [if_neg (by simpa using hb), ih]
      have hle : (l.takeWhile Np.notEnd).length ≤ l.length := Np.takeWhile_le l
      simp only [List.takeWhile_cons, hb', List.length_cons, ↓reduceIte]
      by_cases e : (l.takeWhile Np.notEnd).length = l.length
      · simp [e]
      · simp [e]
set_option maxRecDepth 100000 in
set_option maxHeartbeats 1000000 in
theorem comment_any (N bo : Nat) (s : ByteArray) (hs : s.size ≤ 100000) (p : Nat) (hp : p ≤ s.size) (w : World) (hE : Ends N bo s w) :
    Calls Tryz.prog 114 #[.int .i64 p, .pointer (some ⟨N, 0, none⟩)] w fun e w' => e = .returned (.int .i64 ((p + ((s.data.toList.drop p).takeWhile Np.notEnd).length : Nat) : Int)) ∧ Below w.heap.size w w' := by
  have c0 : w.cell? ⟨N, 0, none⟩ = some (.string s) := hE.at_.src
  have hpI : (p : Int) ≤ (s.size : Int) := by omega
  have hl : ((s.data.toList.drop p).takeWhile Np.notEnd).length ≤ s.size - p := by
    have := Np.takeWhile_le (p := Np.notEnd) (s.data.toList.drop p)
    rw [List.length_drop, size_list] at this; exact this
  have HI : Hid (Lib.indexByte (s.extract p s.size).data.toList 10 = if ((s.data.toList.drop p).takeWhile Np.notEnd).length = s.size - p then -1 else (((s.data.toList.drop p).takeWhile Np.notEnd).length : Int)) := Lib.hid (by rw [ext_from, indexByte_take, List.length_drop, size_list])
  generalize ((s.data.toList.drop p).takeWhile Np.notEnd).length = n at *
  clear hE
  by_cases hn : n = s.size - p
  · have HN := Lib.hid (HI.out.trans (if_pos hn))
    have HQ := Lib.hid hn
    clear hn HI
    go_enter Tryz.func114, Tryz.ntmps114
    go_wp2_with (go_at_call 115; refine (Tryz.strings_IndexByte _ _ _).mono ?_; rintro e w' ⟨rfl, rfl⟩; rw [show Lib.indexByte (s.extract p s.size).data.toList (10 : Int).toNat.toUInt8 = -1 from HN.out])
    go_ret
    exact ⟨ret_int (by have := HQ.out; omega), Below.refl _ _⟩
  · have HN := Lib.hid (HI.out.trans (if_neg hn))
    clear hn HI
    go_enter Tryz.func114, Tryz.ntmps114
    go_wp2_with (go_at_call 115; refine (Tryz.strings_IndexByte _ _ _).mono ?_; rintro e w' ⟨rfl, rfl⟩; rw [show Lib.indexByte (s.extract p s.size).data.toList (10 : Int).toNat.toUInt8 = (n : Int) from HN.out])
    go_ret
    exact ⟨ret_int (by omega), Below.refl _ _⟩
theorem inText_eq (l : List UInt8) : (l.takeWhile fun c => !quoteEnd c) = l.takeWhile Np.inText := by
  congr 1
  funext c
  show (!(c == 34 || c == 10)) = (!(c == 34) && !(c == 10))
  cases c == 34 <;> cases c == 10 <;> rfl
set_option maxRecDepth 100000 in
set_option maxHeartbeats 1000000 in
theorem quote_any (N bo : Nat) (s : ByteArray) (hs : s.size ≤ 100000) (p : Nat) (hp : p < s.size) (w : World) (hE : Ends N bo s w) :
    Calls Tryz.prog 117 #[.int .i64 p, .pointer (some ⟨N, 0, none⟩)] w fun e w' => e = .returned (.int .i64 ((p + Np.quoteW (s.data.toList.drop (p + 1)) : Nat) : Int)) ∧ Below w.heap.size w w' := by
  have c0 : w.cell? ⟨N, 0, none⟩ = some (.string s) := hE.at_.src
  have hpI : (p : Int) + 1 ≤ (s.size : Int) := by omega
  have hl : ((s.data.toList.drop (p + 1)).takeWhile Np.inText).length ≤ s.size - (p + 1) := by
    have := Np.takeWhile_le (p := Np.inText) (s.data.toList.drop (p + 1))
    rw [List.length_drop, size_list] at this; exact this
  have HI : Hid (Lib.indexAny (s.extract (p + 1) s.size).data.toList [34, 10] = if ((s.data.toList.drop (p + 1)).takeWhile Np.inText).length = s.size - (p + 1) then -1 else (((s.data.toList.drop (p + 1)).takeWhile Np.inText).length : Int)) := Lib.hid (by rw [ext_from, indexAny_take, List.length_drop, size_list, inText_eq])
  have HQ : Hid (Np.quoteW (s.data.toList.drop (p + 1)) = if 1 ≤ ((s.data.toList.drop (p + 1)).takeWhile Np.inText).length ∧ s.data.toList[p + 1 + ((s.data.toList.drop (p + 1)).takeWhile Np.inText).length]? = some 34 then ((s.data.toList.drop (p + 1)).takeWhile Np.inText).length + 2 else 0) := Lib.hid (by unfold Np.quoteW; rw [List.getElem?_drop])
  generalize ((s.data.toList.drop (p + 1)).takeWhile Np.inText).length = n at *
  have HE := Lib.hid hE
  clear hE
  by_cases hn : n = s.size - (p + 1)
  · have HN := Lib.hid (HI.out.trans (if_pos hn))
    have HZ : Hid (Np.quoteW (s.data.toList.drop (p + 1)) = 0) := Lib.hid (HQ.out.trans (if_neg (fun h => by rw [List.getElem?_eq_none (by rw [size_list]; omega)] at h; cases h.2)))
    clear hn HI HQ
    go_enter Tryz.func117, Tryz.ntmps117
    go_wp2_with (go_at_call 118; refine (indexAny_q (s.extract (p + 1) s.size) (by rw [ByteArray.size_extract]; omega) _).mono ?_; rintro e w1 ⟨rfl, hb⟩; rw [HN.out]; have HB := Lib.hid hb; clear hb)
    go_ret
    exact ⟨ret_int (by rw [HZ.out]; omega), HB.out⟩
  · have HN := Lib.hid (HI.out.trans (if_neg hn))
    have hlt : p + 1 + n < s.size := by omega
    have HS := Lib.hid (get_list s (p + 1 + n) hlt)
    have hltI : (p : Int) + 1 + n < s.size := by omega
    clear hn HI
    by_cases hn1 : n < 1
    · have HZ : Hid (Np.quoteW (s.data.toList.drop (p + 1)) = 0) := Lib.hid (HQ.out.trans (if_neg (fun h => by omega)))
      go_enter Tryz.func117, Tryz.ntmps117
      go_wp2_with (go_at_call 118; refine (indexAny_q (s.extract (p + 1) s.size) (by rw [ByteArray.size_extract]; omega) _).mono ?_; rintro e w1 ⟨rfl, hb⟩; rw [HN.out]; obtain ⟨c1, f1⟩ := bcell hb; have HB := Lib.hid hb; clear hb)
      go_ret
      exact ⟨ret_int (by rw [HZ.out]; omega), HB.out⟩
    · have hnI : ¬ (n : Int) < 1 := by omega
      by_cases hq : s[p + 1 + n] = 34
      · have HZ : Hid (Np.quoteW (s.data.toList.drop (p + 1)) = n + 2) := Lib.hid (HQ.out.trans (if_pos ⟨by omega, by rw [HS.out, hq]⟩))
        have hqb : ((s[p + 1 + n].toNat : Int) != 34) = false := by rw [hq]; rfl
        clear hq
        go_enter Tryz.func117, Tryz.ntmps117
        go_wp2_with (go_at_call 118; refine (indexAny_q (s.extract (p + 1) s.size) (by rw [ByteArray.size_extract]; omega) _).mono ?_; rintro e w1 ⟨rfl, hb⟩; rw [HN.out]; have c1 : w1.cell? ⟨N, 0, none⟩ = some (.string s) := (HE.out.keep hb).at_.src; have HB := Lib.hid hb; clear hb)
        go_ret
        exact ⟨ret_int (by rw [HZ.out]; omega), HB.out⟩
      · have HZ : Hid (Np.quoteW (s.data.toList.drop (p + 1)) = 0) := Lib.hid (HQ.out.trans (if_neg (fun h => by rw [HS.out] at h; exact hq (Option.some.inj h.2))))
        have hqb : ((s[p + 1 + n].toNat : Int) != 34) = true := by
          simp only [bne_iff_ne, ne_eq]
          intro e
          have e2 : s[p + 1 + n].toNat = 34 := by omega
          exact hq (UInt8.toNat_inj.1 (by rw [e2]; rfl))
        clear hq
        go_enter Tryz.func117, Tryz.ntmps117
        go_wp2_with (go_at_call 118; refine (indexAny_q (s.extract (p + 1) s.size) (by rw [ByteArray.size_extract]; omega) _).mono ?_; rintro e w1 ⟨rfl, hb⟩; rw [HN.out]; have c1 : w1.cell? ⟨N, 0, none⟩ = some (.string s) := (HE.out.keep hb).at_.src; have HB := Lib.hid hb; clear hb)
        all_goals
          go_ret
          exact ⟨ret_int (by rw [HZ.out]; omega), HB.out⟩
set_option maxRecDepth 100000 in
set_option maxHeartbeats 1000000 in
theorem dot_any (N bo : Nat) (s : ByteArray) (hs : s.size ≤ 100000) (p : Nat) (hp : p < s.size) (w : World) (hE : Ends N bo s w) :
    Calls Tryz.prog 116 #[.int .i64 p, .pointer (some ⟨N + 1 + 1, 0, none⟩)] w fun e w' => e = .returned (.int .i64 ((p + (if ((s.data.toList.drop p).takeWhile Np.isRun).length = 1 then 1 else 0) : Nat) : Int)) ∧ Below w.heap.size w w' := by
  have c0 : w.cell? ⟨N + 1 + 1, 0, none⟩ = some (.func (.func 111) #[] #[.pointer (some ⟨N, 0, none⟩), .pointer (some ⟨N + 1, 0, none⟩)]) := hE.at_.run
  have hpI : (p : Int) ≤ (s.size : Int) := by omega
  have HE := Lib.hid hE
  have HR := Lib.hid (run_any N bo s hs p (by omega) w hE)
  generalize ((s.data.toList.drop p).takeWhile Np.isRun).length = n at *
  clear hE
  by_cases hn : n = 1
  · subst hn
    go_enter Tryz.func116, Tryz.ntmps116
    go_wp2_with (go_at_call 111; refine HR.out.mono ?_; rintro e w1 ⟨rfl, hb⟩; have HB := Lib.hid hb; clear hb)
    go_ret
    exact ⟨ret_int (by simp), HB.out⟩
  · have hnb : (((p + n : Nat) : Int) == (p : Int) + 1) = false := by simp; omega
    have hnb2 : ((p : Int) + (n : Int) == (p : Int) + 1) = false := by simp; omega
    have hX : (if n = 1 then 1 else 0) = 0 := if_neg hn
    generalize (if n = 1 then 1 else 0) = d at hX ⊢
    have HX := Lib.hid hX
    clear hn hX
    go_enter Tryz.func116, Tryz.ntmps116
    go_wp2_with (go_at_call 111; refine HR.out.mono ?_; rintro e w1 ⟨rfl, hb⟩; have HB := Lib.hid hb; clear hb)
    go_ret
    exact ⟨ret_int (by rw [HX.out]; simp), HB.out⟩
end Go.Proofs.YtnbolgdccdnjeaaGreatDoor
