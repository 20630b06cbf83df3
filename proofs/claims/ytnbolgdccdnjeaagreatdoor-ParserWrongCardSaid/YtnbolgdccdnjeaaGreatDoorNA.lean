/- Joined by program from: Name, Name2, Name3. No condition. -/
import Derived.Test.YtnbolgdccdnjeaaGreatDoorKA
import Derived.Test.YtnbolgdccdnjeaaGreatDoorPA
import Derived.Test.YtnbolgdccdnjeaaGreatDoorProg
import Derived.RangeFuncNested
import Derived.RangeFuncBound
import Derived.RangeFuncCalls
import Derived.RangeFuncLeaves
import Derived.Shelf.Abstract
import Derived.Shelf.RegionOpen
import Derived.OwnWalkIn
import Derived.TacticsInMore
import Derived.LoopNIn
import Derived.LoopIn
/- Contracts of packages name and record. -/
namespace Go.Proofs.YtnbolgdccdnjeaaGreatDoor
open Go.RowKit

theorem labelByte_eq (c : UInt8) : Np.labelByte c = decide ((97 ≤ (c.toNat : Int) ∧ (c.toNat : Int) ≤ 122) ∨ (48 ≤ (c.toNat : Int) ∧ (c.toNat : Int) ≤ 57) ∨ (c.toNat : Int) = 45) := by
  have h := u8_eq c 45 (by decide)
  unfold Np.labelByte Np.isLow Np.isDig
  rw [show (45 : UInt8) = UInt8.ofNat 45 from rfl, h, Bool.eq_iff_iff]
  simp [UInt8.le_iff_toNat_le]
  omega
theorem isLabel_1 (s : ByteArray) (h : (s.size : Int) < 1) : Np.isLabel s.data.toList = false := by
  have : ¬ 1 ≤ s.size := by omega
  simp [Np.isLabel, this]
theorem isLabel_2 (s : ByteArray) (h : 12 < (s.size : Int)) : Np.isLabel s.data.toList = false := by
  have : ¬ s.size ≤ 12 := by omega
  simp [Np.isLabel, this]
theorem isLabel_3 (s : ByteArray) (h0 : 0 < s.size) (h : (s[0].toNat : Int) = 45) : Np.isLabel s.data.toList = false := by
  have e := u8_eq s[0] 45 (by decide)
  rw [decide_eq_true (by simpa using h)] at e
  have e2 : s[0] = (45 : UInt8) := by simpa using e
  simp [Np.isLabel, head_list s h0, e2]
theorem isLabel_4 (s : ByteArray) (h0 : s.size - 1 < s.size) (h : (s[s.size - 1].toNat : Int) = 45) : Np.isLabel s.data.toList = false := by
  have e := u8_eq s[s.size - 1] 45 (by decide)
  rw [decide_eq_true (by simpa using h)] at e
  have e2 : s[s.size - 1] = (45 : UInt8) := by simpa using e
  simp [Np.isLabel, last_list s h0, e2]
theorem isLabel_5 (s : ByteArray) (k : Nat) (hk : k < s.size) (h : Np.labelByte s[k] = false) : Np.isLabel s.data.toList = false := by
  have : s.data.toList.all Np.labelByte = false := by
    rw [List.all_eq_false]
    exact ⟨s[k], by rw [← List.getElem?_eq_some_iff.1 (get_list s k hk) |>.2]; exact List.getElem_mem _, by simp [h]⟩
  simp [Np.isLabel, this]
theorem isLabel_6 (s : ByteArray) (h1 : 1 ≤ s.size) (h2 : s.size ≤ 12) (h3 : ¬ (s[0].toNat : Int) = 45) (h4 : ¬ (s[s.size - 1].toNat : Int) = 45) (h5 : s.data.toList.all Np.labelByte = true) : Np.isLabel s.data.toList = true := by
  have e := u8_eq s[0] 45 (by decide)
  have e' := u8_eq s[s.size - 1] 45 (by decide)
  rw [decide_eq_false (by simpa using h3)] at e
  rw [decide_eq_false (by simpa using h4)] at e'
  have e2 : ¬ s[0] = (45 : UInt8) := by simpa using e
  have e3 : ¬ s[s.size - 1] = (45 : UInt8) := by simpa using e'
  simp [Np.isLabel, last_list s (by omega), head_list s (by omega), e2, e3, h5, h1, h2]
theorem all_snoc (s : ByteArray) (k : Nat) (h : k < s.size) (p : UInt8 → Bool) (h1 : (s.data.toList.take k).all p = true) (h2 : p s[k] = true) : (s.data.toList.take (k + 1)).all p = true := by
  rw [take_snoc s k h, List.all_append, h1]; simp [h2]

set_option maxHeartbeats 1000000 in
theorem isLabel_any (s : ByteArray) (hs : s.size ≤ 140737488355328) (w : World) :
    Calls Tryz.prog 104 #[.string s] w fun e w' => e = .returned (.bool (Np.isLabel s.data.toList)) ∧ w = w' := by
  go_enter Tryz.func104, Tryz.ntmps104
  go_wp2
  · go_ret
    exact ⟨ret_bool (isLabel_1 s ‹_›).symm, rfl⟩
  · go_ret
    exact ⟨ret_bool (isLabel_2 s ‹_›).symm, rfl⟩
  · go_ret
    exact ⟨ret_bool (isLabel_3 s ‹_› ‹_›).symm, rfl⟩
  · have h : ((s[s.size - 1].toNat : Int) == 45) = true := by assumption
    go_ret
    exact ⟨ret_bool (isLabel_4 s (by omega) (by simpa using h)).symm, rfl⟩
  · have h1 : 1 ≤ (s.size : Int) := by assumption
    have h2 : (s.size : Int) ≤ 12 := by assumption
    have h3 : ¬ (s[0].toNat : Int) = 45 := by assumption
    have h4 : ((s[s.size - 1].toNat : Int) == 45) = false := by assumption
    have H4 := Lib.hid h4
    clear h4
    have H3 := Lib.hid h3
    go_loop [28] (fun i => ∃ k : Nat, k ≤ s.size ∧ i = .int .i64 k ∧ (s.data.toList.take k).all Np.labelByte = true) (fun i => s.size - (intOf i).toNat)
    case atStart => exact ⟨0, Nat.zero_le _, rfl, rfl⟩
    case round =>
      obtain ⟨k, hk, rfl, ha⟩ := hrel
      have HA := Lib.hid ha
      clear ha
      by_cases hlt : k < s.size
      · have hb := u8_bd s[k]
        go_wp2
        all_goals first
          | (have hne : ((s[k].toNat : Int) != 45) = true := by assumption
             have hne' := bne_iff_ne.1 hne
             go_ret
             exact ⟨ret_bool (isLabel_5 s k hlt (by rw [labelByte_eq]; exact decide_eq_false (by omega))).symm, rfl⟩)
          | (have hl : Np.labelByte s[k] = true := by
               rw [labelByte_eq]
               refine decide_eq_true ?_
               first
                 | omega
                 | (have hne : ((s[k].toNat : Int) != 45) = false := by assumption
                    have hne' : (s[k].toNat : Int) = 45 := by simpa using hne
                    omega)
             go_round
             case rel => exact ⟨k + 1, by omega, by go_num, all_snoc s k hlt _ HA.out hl⟩
             case measure => simp [intOf] <;> omega)
      · go_wp2
        go_ret
        exact ⟨ret_bool (isLabel_6 s (by omega) (by omega) H3.out (by simpa using H4.out) (by have := HA.out; rwa [take_all s k (by omega)] at this)).symm, rfl⟩

/-! ### The last index of a byte -/
theorem u8_of (c : Int) (h0 : 0 ≤ c) (h1 : c ≤ 255) (x : UInt8) : x = UInt8.ofNat c.toNat ↔ (x.toNat : Int) = c := by
  have h := u8_eq x c.toNat (by omega)
  rw [Bool.eq_iff_iff] at h
  simp only [beq_iff_eq, decide_eq_true_eq] at h
  rw [h]; omega
theorem lastAt_none (s : ByteArray) (c : UInt8) (h : c ∉ s.data.toList.drop 0) : Np.LastAt s.data.toList c (-1) := .inl ⟨rfl, by simpa using h⟩
theorem lastAt_some (s : ByteArray) (c : UInt8) (k : Nat) (hk : k < s.size) (h : c ∉ s.data.toList.drop (k + 1)) (hc : s[k] = c) : Np.LastAt s.data.toList c (k : Int) := by
  refine .inr ⟨s.data.toList.take k, s.data.toList.drop (k + 1), ?_, h, ?_⟩
  · subst hc
    rw [show s[k] = s.data.toList[k]'(by rw [size_list]; exact hk) from rfl, ← List.drop_eq_getElem_cons, List.take_append_drop]
  · simp; have := size_list s; simp at this; omega
theorem drop_step (s : ByteArray) (c : UInt8) (k : Nat) (hk : k < s.size) (h : c ∉ s.data.toList.drop (k + 1)) (hc : ¬ s[k] = c) : c ∉ s.data.toList.drop k := by
  rw [List.drop_eq_getElem_cons (by rw [size_list]; exact hk)]
  intro hm
  rcases List.mem_cons.1 hm with e | e
  · exact hc e.symm
  · exact h e

def GivesLast (s : ByteArray) (c : UInt8) (w : World) (e : Ending) (w' : World) : Prop := ∃ r : Int, Np.LastAt s.data.toList c r ∧ e = .returned (.int .i64 r) ∧ w = w'

set_option maxHeartbeats 1000000 in
theorem lastIndexByteString_any (s : ByteArray) (hs : s.size ≤ 140737488355328) (c : Int) (h0 : 0 ≤ c) (h1 : c ≤ 255) (w : World) :
    Calls Tryz.prog 174 #[.string s, .int .u8 c] w (GivesLast s (UInt8.ofNat c.toNat) w) := by
  go_enter Tryz.func174, Tryz.ntmps174
  go_wp2
  go_loop [5] (fun i => ∃ k : Int, -1 ≤ k ∧ k < s.size ∧ i = .int .i64 k ∧ Hid (UInt8.ofNat c.toNat ∉ s.data.toList.drop (k + 1).toNat)) (fun i => (intOf i + 1).toNat)
  case atStart => exact ⟨_, by omega, by omega, rfl, Lib.hid (by rw [List.drop_eq_nil_of_le (by rw [size_list]; omega)]; simp)⟩
  case round =>
    obtain ⟨k, hk0, hk1, rfl, H⟩ := hrel
    by_cases hlt : 0 ≤ k
    · obtain ⟨j, rfl⟩ := Int.eq_ofNat_of_zero_le hlt
      have hj : j < s.size := by omega
      have hb := u8_bd s[j]
      have hd := u8_of c h0 h1 s[j]
      have HD := Lib.hid hd
      clear hd
      go_wp2
      all_goals first
        | (have he : ((s[j].toNat : Int) == c) = true := by assumption
           go_ret
           exact ⟨j, lastAt_some s _ j hj (by simpa using H.out) (HD.out.2 (by simpa using he)), rfl, rfl⟩)
        | (have he : ((s[j].toNat : Int) == c) = false := by assumption
           go_round
           case rel => exact ⟨(j : Int) - 1, by omega, by omega, rfl, Lib.hid (by have := drop_step s _ j hj (by simpa using H.out) (fun e => by have := HD.out.1 e; simp [this] at he); simpa using this)⟩
           case measure => simp [intOf] <;> omega)
    · obtain rfl : k = -1 := by omega
      go_wp2
      go_ret
      exact ⟨-1, lastAt_none s _ (by simpa using H.out), rfl, rfl⟩

theorem lastIndexByte_any (s : ByteArray) (hs : s.size ≤ 140737488355328) (c : Int) (h0 : 0 ≤ c) (h1 : c ≤ 255) (w : World) :
    Calls Tryz.prog 143 #[.string s, .int .u8 c] w (GivesLast s (UInt8.ofNat c.toNat) w) := by
  go_enter Tryz.func143, Tryz.ntmps143
  go_wp2_with (go_at_call 174; refine (lastIndexByteString_any _ hs _ h0 h1 _).mono ?_; rintro e w' ⟨r, hr, rfl, rfl⟩)
  go_ret
  exact ⟨r, hr, rfl, rfl⟩
end Go.Proofs.YtnbolgdccdnjeaaGreatDoor
/- Contracts of package name: the labels of a text from the last one on; which texts are names. -/
namespace Go.Proofs.YtnbolgdccdnjeaaGreatDoor
open Go.RowKit Go.Shelf
attribute [local go_sem] Oper.semAt_some

abbrev strs (l : List UInt8) : Value := .string ⟨l.toArray⟩

def strLen : Value → Nat
  | .string s => s.size
  | _ => 0
def BackRel (t : ByteArray) (J : List (List UInt8) → (Nat → Prop) → World → Prop) (S : Nat → Prop) (W : World) (v : Value) (wr : World) : Prop :=
  ∃ (pre : List (List UInt8)) (r : ByteArray) (S1 : Nat → Prop), v = .string r ∧ r.size ≤ 140737488355328 ∧ Np.back t.data.toList = pre ++ (Np.splitDots r.data.toList).reverse ∧
    J pre S1 wr ∧ (∀ k, S1 k → k < wr.heap.size) ∧ W.heap.size ≤ wr.heap.size ∧ (∀ k, S1 k → S k ∨ W.heap.size ≤ k)

set_option maxHeartbeats 1000000 in
theorem backwards_iter (t : ByteArray) (ht : t.size ≤ 140737488355328) (n₀ : Nat) (w : World) :
    Iter Tryz.prog 103 (fun y => #[.string t, y]) (fun x : List UInt8 => #[strs x]) (Np.back t.data.toList) n₀ w := by
  intro l J Jx S W hW hJ hJx hY hS hS' h0
  refine callsIn_of_wp Tryz.func103 rfl trivial ?_ rfl
  simp only [Tryz.ntmps103, List.size_toArray, List.length_cons, List.length_nil, Nat.reduceAdd, Nat.reduceSub, Array.replicate_succ, Array.replicate_zero, List.push_toArray, List.append_toArray, List.nil_append, List.cons_append]
  gi_wp2_with fail
  · have he : (t.toList == [46]) = true := by assumption
    have he2 : t.data.toList = [46] := by rw [← ByteArray.toList_eq]; simpa using he
    have hb : Np.back t.data.toList = [] := by simp [Np.back, he2]
    refine bodyPost_ret (results_none rfl _ _ _) rfl ?_
    exact ⟨⟨_, rfl⟩, .inl ⟨S, by rw [hb]; exact h0, fun k e => .inl e⟩⟩
  · have he : (t.toList == [46]) = false := by assumption
    have hne : ¬ t.data.toList = [46] := by rw [← ByteArray.toList_eq]; simpa using he
    have hb : Np.back t.data.toList = (Np.splitDots t.data.toList).reverse := by simp [Np.back, hne]
    have HB := Lib.hid hb
    clear hb
    gi_loopw [4] (fun v wr => BackRel t J S W v wr) (fun v _ => strLen v)
    case atStart => exact ⟨[], t, S, rfl, ht, by simpa using HB.out, h0, hS', Nat.le_refl _, fun _ e => .inl e⟩
    case round =>
      obtain ⟨pre, r, S1, rfl, hr, hpre, hj, hlt, hsz, hsub⟩ := hrel
      have HP := Lib.hid hpre
      clear hpre
      gi_wp2_with fail
      refine ⟨trivial, rfl, ?_⟩
      refine (callsIn_wide.2 (lastIndexByte_any _ hr _ (by decide) (by decide) _)).mono ?_
      rintro e w' ⟨q, hq, rfl, rfl⟩
      rcases hq with ⟨rfl, hno⟩ | ⟨a, b, hab, hnb, rfl⟩
      · have hs1 : Np.splitDots r.data.toList = [r.data.toList] := Np.splitDots_none hno
        have hx : pre ++ [r.data.toList] <+: Np.back t.data.toList := by rw [HP.out, hs1]; exact List.prefix_refl _
        obtain ⟨fn, tmps, assign, body, hy, hR⟩ := hY pre r.data.toList S1 wr hx hj hlt hsz
        have hy2 : Sem.run Tryz.prog (Instr.yield l #[.string r]) wr = .ok (.round l fn tmps assign body) wr := hy
        clear hy
        have HX := Lib.hid hx
        clear hx
        have HS := Lib.hid hs1
        clear hs1 hno
        gi_wp2_with fail
        refine ⟨rfl, hR.mono ?_⟩
        rintro e W3 ⟨S3, hrd, hsub3, hlt3, (⟨rfl, hJ3⟩ | ⟨rfl, hJx3⟩)⟩
        all_goals
          gi_wp2_with fail
          refine bodyPost_ret (results_none rfl _ _ _) rfl ?_
        · refine ⟨⟨_, rfl⟩, .inl ⟨S3, ?_, fun k e => ?_⟩⟩
          · rw [HP.out, HS.out]; exact hJ3
          · rcases hsub3 k e with e | e
            · exact hsub k e
            · right; omega
        · refine ⟨⟨_, rfl⟩, .inr ⟨_, S3, HX.out, hJx3, fun k e => ?_⟩⟩
          rcases hsub3 k e with e | e
          · exact hsub k e
          · right; omega
      · have hsz2 : a.length + 1 + b.length = r.size := by rw [← size_list, hab]; simp; omega
        have hs1 : Np.splitDots r.data.toList = Np.splitDots a ++ [b] := by rw [hab]; exact (Np.splitDots_app a b).trans (by rw [Np.splitDots_none hnb])
        have hx : pre ++ [b] <+: Np.back t.data.toList := by rw [HP.out, hs1]; simp
        have hxb : (r.extract (a.length + 1) r.size).data.toList = b := by rw [ext_from, hab]; simp
        have hxa : (r.extract 0 a.length).data.toList = a := by rw [ext_to, hab]; simp
        have hsa : (r.extract 0 a.length).size = a.length := by rw [← size_list, hxa]
        obtain ⟨fn, tmps, assign, body, hy, hR⟩ := hY pre b S1 wr hx hj hlt hsz
        have hy2 : Sem.run Tryz.prog (Instr.yield l #[.string (r.extract (a.length + 1) r.size)]) wr = .ok (.round l fn tmps assign body) wr := by
          have : strs b = .string (r.extract (a.length + 1) r.size) := by show Value.string _ = _; congr 1; exact str_ext (by rw [hxb])
          simp only [this] at hy
          exact hy
        clear hy
        have HX := Lib.hid hx
        have HS := Lib.hid hs1
        have HA := Lib.hid hxa
        have HSA := Lib.hid hsa
        clear hx hs1 hxb hxa hsa hab hnb
        have hal : a.length ≤ 140737488355328 := by omega
        have hal2 : a.length + 1 ≤ r.size := by omega
        have H2 := Lib.hid hsz2
        clear hsz2
        gi_wp2_with fail
        refine ⟨rfl, hR.mono ?_⟩
        rintro e W3 ⟨S3, hrd, hsub3, hlt3, (⟨rfl, hJ3⟩ | ⟨rfl, hJx3⟩)⟩
        · have hrs := hrd.size
          gi_wp2_with fail
          go_roundw
          case rel =>
            refine ⟨pre ++ [b], r.extract 0 a.length, S3, rfl, by rw [HSA.out]; exact hal, ?_, hJ3, hlt3, by omega, fun k e => ?_⟩
            · rw [HP.out, HS.out, HA.out]; simp
            · rcases hsub3 k e with e | e
              · exact hsub k e
              · right; omega
          case measure => show (r.extract 0 a.length).size < r.size; rw [HSA.out]; omega
        · gi_wp2_with fail
          refine bodyPost_ret (results_none rfl _ _ _) rfl ?_
          refine ⟨⟨_, rfl⟩, .inr ⟨_, S3, HX.out, hJx3, fun k e => ?_⟩⟩
          rcases hsub3 k e with e | e
          · exact hsub k e
          · right; omega
end Go.Proofs.YtnbolgdccdnjeaaGreatDoor
/- Contracts of package name: which texts are names. -/
namespace Go.Proofs.YtnbolgdccdnjeaaGreatDoor
open Go.RowKit Go.Shelf
attribute [local go_sem] Oper.semAt_some


def wildOf (pre : List (List UInt8)) : Bool := pre.getLast? == some [42]

def ValI (w : World) (xs : List (List UInt8)) (pre : List (List UInt8)) (S : Nat → Prop) (W : World) : Prop :=
  (∀ k, S k ↔ k = w.heap.size ∨ k = w.heap.size + 1 ∨ k = w.heap.size + 1 + 1) ∧ Boxed W w.heap.size 4 (.bool false) ∧ Boxed W (w.heap.size + 1) 3 (.int .i64 pre.length) ∧ Boxed W (w.heap.size + 1 + 1) 4 (.bool (wildOf pre)) ∧
  (pre.length ≤ 8 ∧ ∀ rest, xs = pre ++ rest → Np.goodFrom xs 0 false = Np.goodFrom rest pre.length (wildOf pre)) ∧ Below w.heap.size w W
def ValX (w : World) (xs : List (List UInt8)) (c : Code) (_ : List (List UInt8)) (S : Nat → Prop) (W : World) : Prop :=
  c = .ret ∧ (∀ k, S k ↔ k = w.heap.size ∨ k = w.heap.size + 1 ∨ k = w.heap.size + 1 + 1) ∧ Boxed W w.heap.size 4 (.bool false) ∧ Np.goodFrom xs 0 false = false ∧ Below w.heap.size w W

theorem valI_stable (w : World) (xs : List (List UInt8)) (B : Nat) (hB : w.heap.size ≤ B) : StableAt B (ValI w xs) := by
  rintro s S W W' ⟨hS, h1, h2, h3, h4, h5⟩ hst
  exact ⟨hS, boxed_it h1 hst ((hS _).2 (.inl rfl)), boxed_it h2 hst ((hS _).2 (.inr (.inl rfl))), boxed_it h3 hst ((hS _).2 (.inr (.inr rfl))), h4, below_it h5 hst hB (Nat.le_refl _)⟩
theorem valX_stable (w : World) (xs : List (List UInt8)) (B : Nat) (hB : w.heap.size ≤ B) (c : Code) : StableAt B (ValX w xs c) := by
  rintro s S W W' ⟨hc, hS, h1, h4, h5⟩ hst
  exact ⟨hc, hS, boxed_it h1 hst ((hS _).2 (.inl rfl)), h4, below_it h5 hst hB (Nat.le_refl _)⟩

theorem val_ret {w : World} {xs pre : List (List UInt8)} {S : Nat → Prop} {W W3 : World} {a : Act} (hS : ∀ k, S k ↔ k = w.heap.size ∨ k = w.heap.size + 1 ∨ k = w.heap.size + 1 + 1)
    (hr : RdStep S W W3) (hlt : ∀ k, S k → k < W.heap.size) (c0 : Boxed W3 w.heap.size 4 (.bool false)) (hB : Below w.heap.size w W3) (hg : Np.goodFrom xs 0 false = false) :
    bodyTo (ValI w xs) (ValX w xs) pre S W .ret a (W3.setCell ⟨w.heap.size, 0, none⟩ (.bool false)) :=
  ⟨S, hr.setCell (.inl ((hS _).2 (.inl rfl))) _, fun _ e => .inl e, fun k e => by have := hlt k e; have := hr.size; simp [World.setCell]; omega, rfl, hS, c0.set _, hg, hB.setCell (Nat.le_refl _) _⟩
theorem val_go {w : World} {xs pre rest : List (List UInt8)} {x : List UInt8} {S : Nat → Prop} {W W3 : World} {a : Act} (hS : ∀ k, S k ↔ k = w.heap.size ∨ k = w.heap.size + 1 ∨ k = w.heap.size + 1 + 1)
    (hr : RdStep S W W3) (hlt : ∀ k, S k → k < W.heap.size) (c0 : Boxed W3 w.heap.size 4 (.bool false)) (c1 : Boxed W3 (w.heap.size + 1) 3 (.int .i64 (pre.length + 1))) (c2 : Boxed W3 (w.heap.size + 1 + 1) 4 (.bool (x == [42])))
    (hB : Below w.heap.size w W3) (hrest : pre ++ [x] ++ rest = xs) (hl : pre.length + 1 ≤ 8) (hg : Np.goodFrom xs 0 false = Np.goodFrom rest (pre.length + 1) (x == [42])) :
    bodyTo (ValI w xs) (ValX w xs) (pre ++ [x]) S W .normal a W3 := by
  have hw : wildOf (pre ++ [x]) = (x == [42]) := by simp [wildOf]
  refine ⟨S, hr, fun _ e => .inl e, fun k e => by have := hlt k e; have := hr.size; omega, hS, c0, by simpa using c1, by rw [hw]; exact c2, ⟨by simpa using hl, fun r h => ?_⟩, hB⟩
  have : r = rest := List.append_cancel_left (h.symm.trans hrest.symm)
  rw [hg, this, hw]; simp

set_option maxHeartbeats 1000000 in
theorem valid_any (t : ByteArray) (ht : t.size ≤ 140737488355328) (w : World) :
    Calls Tryz.prog 59 #[.string t] w fun e w' => e = .returned (.bool (Np.validName t.data.toList)) ∧ Below w.heap.size w w' := by
  refine (callsIn_wide (n := 0)).1 ?_
  refine callsIn_of_wp_marks Tryz.func59 rfl trivial ?_ rfl
  simp only [Tryz.ntmps59, List.size_toArray, List.length_cons, List.length_nil, Nat.reduceAdd, Nat.reduceSub, Array.replicate_succ, Array.replicate_zero, List.push_toArray, List.append_toArray, List.nil_append, List.cons_append]
  gi_wp2_with fail
  · have he : (t.toList == [46]) = true := by assumption
    have he2 : t.data.toList = [46] := by rw [← ByteArray.toList_eq]; simpa using he
    exact endM0 (v := .bool true) (by simp [results, Tryz.results59, go_sem]) ⟨by rw [Np.validName, if_pos he2], (Below.refl _ _).alloc (Nat.le_refl _) _⟩
  · have he : (t.toList == [46]) = false := by assumption
    have he2 : ¬ t.data.toList = [46] := by rw [← ByteArray.toList_eq]; simpa using he
    have hl : 60 < (t.size : Int) := by assumption
    exact endM0 (v := .bool false) (by simp [results, Tryz.results59, go_sem]) ⟨by rw [Np.validName, if_neg he2, if_pos (by rw [size_list]; omega)], (Below.refl _ _).alloc (Nat.le_refl _) _⟩
  · have he : (t.toList == [46]) = false := by assumption
    have he2 : ¬ t.data.toList = [46] := by rw [← ByteArray.toList_eq]; simpa using he
    have hl : (t.size : Int) ≤ 60 := by assumption
    have hv : Np.validName t.data.toList = Np.goodFrom (Np.back t.data.toList) 0 false := by
      rw [Np.validName, if_neg he2, if_neg (by rw [size_list]; omega), Np.back, if_neg he2]
    have HV := Lib.hid hv
    clear hv
    have b0 := Boxed.new w 4 (.bool false)
    have b1 := Boxed.new (w.alloc (.cells #[.bool false] 4)) 3 (.int .i64 0)
    have b2 := Boxed.new ((w.alloc (.cells #[.bool false] 4)).alloc (.cells #[.int .i64 0] 3)) 4 (.bool false)
    simp only [World.size_alloc] at b1 b2
    refine wpIn_range' (n₀ := w.heap.size) (w0 := w) (first := #[.string t]) (captured := #[]) (gf := 103) rfl (enters_of Tryz.func103 (by kernel_rfl) rfl) (mk := fun y => #[.string t, y]) (fun _ => rfl)
      (backwards_iter t ht _ w) ((((Below.refl _ w).alloc (Nat.le_refl _) _).alloc (by simp) _).alloc (by simp; omega) _) (by simp; omega) (fun _ => rfl) (ValI w (Np.back t.data.toList)) (ValX w (Np.back t.data.toList))
      (valI_stable _ _ _ (by simp; omega)) (fun c => valX_stable _ _ _ (by simp; omega) c)
      (fun k => k = w.heap.size ∨ k = w.heap.size + 1 ∨ k = w.heap.size + 1 + 1) (by intro k h; omega) (by intro k h; simp; omega)
      ⟨fun _ => Iff.rfl, (b0.alloc _).alloc _, b1.alloc _, b2, ⟨by simp, fun rest h => by rw [h]; rfl⟩, (((Below.refl _ w).alloc (Nat.le_refl _) _).alloc (by simp) _).alloc (by simp; omega) _⟩ ?round ?done ?stop
    case round =>
      rintro l0 pre x S W hpx hI hSlt
      gi_wp2
      refine ⟨S, RdStep.refl _ _, fun k e => .inl e, hSlt, ?_⟩
      intro l W₂ hst
      obtain ⟨hS, c0, c1, c2, hg, hB⟩ := valI_stable w _ _ (by simp; omega) pre S W W₂ hI hst
      have c0c := c0.cell
      have c1c := c1.cell
      have c2c := c2.cell
      have c0f := c0.frozen
      have c1f := c1.frozen
      have c2f := c2.frozen
      have hlen := hg.1
      have hx : x ∈ Np.back t.data.toList := hpx.subset (by simp)
      have hxl : x.length ≤ 60 := by have := Np.back_len hx; rw [size_list] at this; omega
      have hxs : (⟨x.toArray⟩ : ByteArray).size ≤ 140737488355328 := by rw [← size_list]; simp; omega
      obtain ⟨rest, hrest⟩ := hpx
      have hgo : Np.goodFrom (Np.back t.data.toList) 0 false = Np.goodFrom (x :: rest) pre.length (wildOf pre) := hg.2 _ (by rw [← hrest]; simp)
      have HR := Lib.hid hrest
      have HG := Lib.hid hgo
      have hbelow : ∀ (b : Nat) (u : Value), w.heap.size ≤ b → Below w.heap.size w (W₂.setCell ⟨b, 0, none⟩ u) := fun b u hb => hB.setCell (p := ⟨b, 0, none⟩) hb u
      have hSlt2 : ∀ k, S k → k < W₂.heap.size := fun k e => Nat.lt_of_lt_of_le (hSlt k e) hst.size
      clear hrest hgo hg hx
      gi_wp2_with (refine ⟨trivial, rfl, ?_⟩; gi_at_call 104; refine (CallsIn.inRound l (callsIn_wide.2 (isLabel_any _ hxs _))).mono ?_; rintro e w' ⟨rfl, rfl⟩)
      · exact val_ret hS (RdStep.setCell (RdStep.refl S W₂) (p := ⟨w.heap.size + 1, 0, none⟩) (.inl ((hS _).2 (.inr (.inl rfl)))) _) hSlt2 (boxed_far c0 (p := ⟨w.heap.size + 1, 0, none⟩) (by simp) _) (hbelow _ _ (by omega))
          (by rw [HG.out]; have : wildOf pre = true := by assumption
              simp [Np.goodFrom, this])
      · exact val_ret hS (RdStep.setCell (RdStep.refl S W₂) (p := ⟨w.heap.size + 1, 0, none⟩) (.inl ((hS _).2 (.inr (.inl rfl)))) _) hSlt2 (boxed_far c0 (p := ⟨w.heap.size + 1, 0, none⟩) (by simp) _) (hbelow _ _ (by omega))
          (by rw [HG.out]; have : 8 < pre.length + 1 := by omega
              simp [Np.goodFrom, this])
      · have hx1 : x = [42] := by assumption
        have e : (x == [42]) = true := by simp [hx1]
        have hle : (pre.length : Int) + 1 ≤ 8 := by assumption
        have h1 : ¬ wildOf pre = true := by assumption
        have h2 : ¬ 8 < pre.length + 1 := by omega
        refine ⟨trivial, ?_⟩
        gi_wp2
        exact val_go hS (RdStep.setCell (RdStep.setCell (RdStep.refl S W₂) (p := ⟨w.heap.size + 1, 0, none⟩) (.inl ((hS _).2 (.inr (.inl rfl)))) _) (p := ⟨w.heap.size + 1 + 1, 0, none⟩) (.inl ((hS _).2 (.inr (.inr rfl)))) _) hSlt2
          (boxed_far (boxed_far c0 (p := ⟨w.heap.size + 1, 0, none⟩) (by simp) _) (p := ⟨w.heap.size + 1 + 1, 0, none⟩) (by simp <;> omega) _)
          (boxed_far (c1.set _) (p := ⟨w.heap.size + 1 + 1, 0, none⟩) (by simp <;> omega) _) (by rw [e]; exact (boxed_far c2 (p := ⟨w.heap.size + 1, 0, none⟩) (by simp) _).set _)
          ((hbelow _ _ (by omega)).setCell (p := ⟨w.heap.size + 1 + 1, 0, none⟩) (by simp; omega) _) HR.out (by omega) (by rw [HG.out]; simp [Np.goodFrom, h1, h2, hx1])
      · have hl : (!x == [42]) = true ∧ (!Np.isLabel x) = true := by assumption
        have hx1 : ¬ x = [42] := by assumption
        exact val_ret hS (RdStep.setCell (RdStep.setCell (RdStep.refl S W₂) (p := ⟨w.heap.size + 1, 0, none⟩) (.inl ((hS _).2 (.inr (.inl rfl)))) _) (p := ⟨w.heap.size + 1 + 1, 0, none⟩) (.inl ((hS _).2 (.inr (.inr rfl)))) _) hSlt2
          (boxed_far (boxed_far c0 (p := ⟨w.heap.size + 1, 0, none⟩) (by simp) _) (p := ⟨w.heap.size + 1 + 1, 0, none⟩) (by simp <;> omega) _)
          ((hbelow _ _ (by omega)).setCell (p := ⟨w.heap.size + 1 + 1, 0, none⟩) (by simp; omega) _)
          (by rw [HG.out]; have h2 : Np.isLabel x = false := by simpa using hl.2
              simp [Np.goodFrom, hx1, h2])
      · have hl : (!x == [42]) = false ∨ (!Np.isLabel x) = false := by assumption
        have hx1 : ¬ x = [42] := by assumption
        have e : (x == [42]) = false := by simp [hx1]
        have hle : (pre.length : Int) + 1 ≤ 8 := by assumption
        have h1 : ¬ wildOf pre = true := by assumption
        have h2 : ¬ 8 < pre.length + 1 := by omega
        have h3 : Np.isLabel x = true := by simpa [e] using hl
        exact val_go hS (RdStep.setCell (RdStep.setCell (RdStep.refl S W₂) (p := ⟨w.heap.size + 1, 0, none⟩) (.inl ((hS _).2 (.inr (.inl rfl)))) _) (p := ⟨w.heap.size + 1 + 1, 0, none⟩) (.inl ((hS _).2 (.inr (.inr rfl)))) _) hSlt2
          (boxed_far (boxed_far c0 (p := ⟨w.heap.size + 1, 0, none⟩) (by simp) _) (p := ⟨w.heap.size + 1 + 1, 0, none⟩) (by simp <;> omega) _)
          (boxed_far (c1.set _) (p := ⟨w.heap.size + 1 + 1, 0, none⟩) (by simp <;> omega) _) ((boxed_far c2 (p := ⟨w.heap.size + 1, 0, none⟩) (by simp) _).set _)
          ((hbelow _ _ (by omega)).setCell (p := ⟨w.heap.size + 1 + 1, 0, none⟩) (by simp; omega) _) HR.out (by omega) (by rw [HG.out]; simp [Np.goodFrom, h1, h2, hx1, h3, e])
    case done =>
      rintro D S W hD hSD hsub ⟨hS, c0, c1, c2, hg, hB⟩ hK
      have c0c := c0.cell
      have c0f := c0.frozen
      have hend : Np.goodFrom (Np.back t.data.toList) 0 false = true := by rw [hg.2 [] (by simp)]; rfl
      have hDne : w.heap.size ≠ D := fun e => hSD ((hS _).2 (.inl e.symm))
      clear hg
      have HE := Lib.hid hend
      clear hend
      gi_wp2
      have hK' : (W.setCell ⟨w.heap.size, 0, none⟩ (.bool true)).heap[D]? = some (.deferred (some [])) := (Below.heap_setCell _ _ _ _ (by simpa using hDne.symm)).trans hK
      have c5 := (boxed_putObj (c0.set (.bool true)) hDne (.deferred none)).cell
      exact endM1 hK' (v := .bool true) (by simp [results, Tryz.results59, go_sem, c5]) ⟨by rw [HV.out, HE.out], below_putObj (hB.setCell (Nat.le_refl _) _) (by simp at hD; omega) _⟩
    case stop =>
      rintro D c pre S W hD hSD hsub hpre ⟨rfl, hS, c0, hg, hB⟩ hK
      have hDne : w.heap.size ≠ D := fun e => hSD ((hS _).2 (.inl e.symm))
      have HE := Lib.hid hg
      clear hg
      gi_wp2
      have c5 := (boxed_putObj c0 hDne (.deferred none)).cell
      exact endM1 hK (v := .bool false) (by simp [results, Tryz.results59, go_sem, c5]) ⟨by rw [HV.out, HE.out], below_putObj hB (by simp at hD; omega) _⟩

theorem nameValid_any (t : ByteArray) (ht : t.size ≤ 140737488355328) (w : World) :
    Calls Tryz.prog 24 #[.string t] w fun e w' => e = .returned (.bool (Np.validName t.data.toList)) ∧ Below w.heap.size w w' := by
  go_enter Tryz.func24, Tryz.ntmps24
  go_wp2_with (go_at_call 59; refine (valid_any _ ht _).mono ?_; rintro e w' ⟨rfl, hb⟩)
  go_ret
  exact ⟨rfl, hb⟩
end Go.Proofs.YtnbolgdccdnjeaaGreatDoor
