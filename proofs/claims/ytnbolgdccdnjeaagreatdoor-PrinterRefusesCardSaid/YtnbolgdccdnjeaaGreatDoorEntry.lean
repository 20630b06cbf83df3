/- Contracts of package printer: the words of a line. -/
import Derived.Test.YtnbolgdccdnjeaaGreatDoorBld2
import Derived.Test.YtnbolgdccdnjeaaGreatDoorPrintBd
import Derived.Test.YtnbolgdccdnjeaaGreatDoorShape
import Derived.Test.YtnbolgdccdnjeaaGreatDoorShelf5
import Derived.Deep.DeepCutAuto
import Derived.Lib.AppendIntMem
namespace Go.Proofs.YtnbolgdccdnjeaaGreatDoor
open Go.RowKit
/-- The table of powers of ten lies in memory. -/
def PowIn (w : World) : Prop := Lib.TabIs Tryz.prog w "internal/strconv.uint64pow10" .u64 Lib.pow10Tab
theorem gPow : Tryz.prog.globalNamed "internal/strconv.uint64pow10" = some 7 := by kernel_rfl
theorem PowIn.keep {w w' : World} (h : PowIn w) (hb : Below w.heap.size w w') : PowIn w' := by
  unfold PowIn Lib.TabIs World.var? at h ⊢
  rw [gPow] at h ⊢
  simp only [Option.bind_some] at h ⊢
  have hg : 7 < w.heap.size := by
    cases hh : w.heap[7]? with
    | none => rw [hh] at h; cases h
    | some o => exact (Array.getElem?_eq_some_iff.1 hh).1
  rw [hb.block _ hg]; exact h
theorem PowIn.lt {w : World} (h : PowIn w) : 7 < w.heap.size := by
  unfold PowIn Lib.TabIs World.var? at h
  rw [gPow] at h
  simp only [Option.bind_some] at h
  cases hh : w.heap[7]? with
  | none => rw [hh] at h; cases h
  | some o => exact (Array.getElem?_eq_some_iff.1 hh).1
theorem PowIn.keepAt {w w' : World} {n : Nat} (h : PowIn w) (hb : Below n w w') (hn : 7 < n) : PowIn w' := by
  unfold PowIn Lib.TabIs World.var? at h ⊢
  rw [gPow] at h ⊢
  simp only [Option.bind_some] at h ⊢
  rw [hb.block _ hn]; exact h
/-- The table of words lies in memory, below B. -/
def WordsIn (w : World) (B : Nat) : Prop := 2 < B ∧ ∀ k : Nat, k < 9 → w.cell? ⟨2, k, none⟩ = some (strs (Np.wordOf k))
theorem WordsIn.keep {w w' : World} {B : Nat} (h : WordsIn w B) (hb : Below B w w') : WordsIn w' B := ⟨h.1, fun k hk => (hb.cell (p := ⟨2, k, none⟩) h.1).trans (h.2 k hk)⟩
theorem WordsIn.more {w : World} {B B' : Nat} (h : WordsIn w B) (hB : B ≤ B') : WordsIn w B' := ⟨Nat.lt_of_lt_of_le h.1 hB, h.2⟩
theorem decDigits_eq : ∀ n : Nat, Lib.decDigits n = Np.decimal n := by
  intro n
  induction n using Nat.strongRecOn with
  | ind n ih =>
    rw [Lib.decDigits, Np.decimal]
    split
    · rfl
    · rw [ih (n / 10) (by omega)]
theorem itoa_any (n : Int) (h0 : 0 ≤ n) (h1 : n ≤ 1000000000) (w : World) (hP : PowIn w) :
    Calls Tryz.prog 126 #[.int .i64 n] w fun e w' => e = .returned (strs (Np.decimal n.toNat)) ∧ Below w.heap.size w w' :=
  (Tryz.strconv_Itoa n (by omega) (by omega) w hP).mono fun e w' ⟨he, k, os, hw⟩ => by
    refine ⟨?_, ?_⟩
    · rw [he, Lib.itoa, if_neg (by omega), decDigits_eq]
    · rw [hw]; exact Lib.below_grow _ w (Nat.le_refl _) k os
theorem str_eta (s : ByteArray) : Value.string s = strs s.data.toList := by cases s; rfl
theorem arr_app (a b : List UInt8) : (⟨(a ++ b).toArray⟩ : ByteArray) = ⟨a.toArray⟩ ++ ⟨b.toArray⟩ := by
  apply str_ext
  rw [ByteArray.data_append, Array.toList_append]
theorem strs_app (a b : List UInt8) : Value.string ((⟨a.toArray⟩ : ByteArray) ++ ⟨b.toArray⟩) = strs (a ++ b) := congrArg _ (arr_app a b).symm
theorem strs_app3 (a b c : List UInt8) : Value.string ((⟨a.toArray⟩ : ByteArray) ++ ⟨b.toArray⟩ ++ ⟨c.toArray⟩) = strs (a ++ b ++ c) := by
  rw [← arr_app a b]; exact strs_app _ _
set_option maxRecDepth 100000 in
set_option maxHeartbeats 2000000 in
theorem datumP_any (t : Int) (h1 : 1 ≤ t) (h7 : t ≤ 7) (x : List UInt8) (hx : x.length ≤ 1000) (n m : Int) (n0 : 0 ≤ n) (n1 : n ≤ 1000000) (m0 : 0 ≤ m) (m1 : m ≤ 1000000) (w : World) (hP : PowIn w) :
    Calls Tryz.prog 127 #[.int .i64 t, .agg #[strs x, .int .i64 n, .int .i64 m]] w fun e w' => e = .returned (strs (Np.datumText t ⟨x, n, m⟩)) ∧ Below w.heap.size w w' := by
  have HP := Lib.hid hP
  clear hP
  have HW : Hid (∀ o, Below w.heap.size w (w.alloc o)) := Lib.hid (fun o => (Below.refl _ w).alloc (Nat.le_refl _) _)
  have ht : t = 1 ∨ (t = 2 ∨ t = 3) ∨ t = 5 ∨ (t = 4 ∨ t = 6 ∨ t = 7) := by omega
  rcases ht with rfl | ht | rfl | ht
  · go_enter Tryz.func127, Tryz.ntmps127
    go_wp2_with fail
    refine (itoa_any n n0 (by omega) _ (HP.out.keep (HW.out _))).mono ?_
    rintro e w1 ⟨rfl, hb⟩
    have HB := Lib.hid ((HW.out _).trans (hb.mono (by simp)))
    clear hb
    go_wp2_with fail
    go_ret
    exact ⟨rfl, HB.out⟩
  · have hd : Np.datumText t ⟨x, n, m⟩ = x := by rcases ht with rfl | rfl <;> rfl
    rw [hd]
    clear hd
    rcases ht with rfl | rfl
    all_goals
      go_enter Tryz.func127, Tryz.ntmps127
      go_wp2_with fail
      go_ret
      exact ⟨rfl, HW.out _⟩
  · have hs1 : ¬ 9223372036854775807 < 1 + x.length := by omega
    have hs2 : ¬ 9223372036854775807 < 1 + x.length + 1 := by omega
    go_enter Tryz.func127, Tryz.ntmps127
    go_wp2_with fail
    go_ret
    refine ⟨?_, HW.out _⟩
    exact congrArg _ (strs_app3 [34] x [34])
  · have hd : Np.datumText t ⟨x, n, m⟩ = Np.decimal n.toNat ++ [32] ++ Np.decimal m.toNat := by rcases ht with rfl | rfl | rfl <;> simp [Np.datumText]
    rw [hd]
    have l1 := Np.decimal_bd 6 n.toNat (by omega)
    have l2 := Np.decimal_bd 6 m.toNat (by omega)
    generalize hA : Np.decimal n.toNat = A
    generalize hB : Np.decimal m.toNat = B
    rw [hA] at l1
    rw [hB] at l2
    have HA := Lib.hid hA
    have HBB := Lib.hid hB
    clear hA hB hd
    have hs1 : ¬ 9223372036854775807 < A.length + 1 := by omega
    have hs2 : ¬ 9223372036854775807 < A.length + 1 + B.length := by omega
    rcases ht with rfl | rfl | rfl
    all_goals
      go_enter Tryz.func127, Tryz.ntmps127
      go_wp2_with fail
      have hb1 := HW.out (.cells #[strs x, .int .i64 n, .int .i64 m] 43)
      have p0 := World.cell?_alloc_new w #[strs x, .int .i64 n, .int .i64 m] 43 0
      have p1 := World.cell?_alloc_new w #[strs x, .int .i64 n, .int .i64 m] 43 1
      have p2 := World.cell?_alloc_new w #[strs x, .int .i64 n, .int .i64 m] 43 2
      have hz : w.heap.size < (w.alloc (.cells #[strs x, .int .i64 n, .int .i64 m] 43)).heap.size := by simp
      generalize w.alloc (.cells #[strs x, .int .i64 n, .int .i64 m] 43) = wa at hb1 p0 p1 p2 hz ⊢
      have HBA := Lib.hid hb1
      clear hb1 p0
      have hgc : ∀ (g : Grow wa) (p : Addr), p.block < wa.heap.size → g.w.cell? p = wa.cell? p := fun g p h => g.cell p h
      have hcall : ∀ g : Grow wa, Calls Tryz.prog 126 #[.int .i64 n] g.w fun e w' => e = .returned (strs A) ∧ Below g.w.heap.size g.w w' := fun g => by
        rw [← HA.out]; exact itoa_any n n0 (by omega) _ ((HP.out.keep HBA.out).keep g.below)
      have hcall2 : ∀ g : Grow wa, Calls Tryz.prog 126 #[.int .i64 m] g.w fun e w' => e = .returned (strs B) ∧ Below g.w.heap.size g.w w' := fun g => by
        rw [← HBB.out]; exact itoa_any m m0 (by omega) _ ((HP.out.keep HBA.out).keep g.below)
      have HC1 := Lib.hid hcall
      have HC2 := Lib.hid hcall2
      clear hcall hcall2
      refine wp_region_grow (by kernel_rfl) (by kernel_rfl) ?_
      go_big_quiet_step (fail)
      go_big_quiet_step (fail)
      go_big_quiet_step ((exact Calls.grow_of (HC1.out _)))
      go_big_quiet_step (fail)
      go_big_quiet_step (fail)
      go_big_quiet_step (fail)
      go_big_quiet_step ((exact Calls.grow_of (HC2.out _)))
      go_big_quiet_step (fail)
      go_big_quiet_step (fail)
      refine wpQuiet_nil ?_
      rintro _ ⟨g, rfl⟩
      go_wp2_with fail
      go_ret
      exact ⟨show Ending.returned (Value.string ((⟨A.toArray⟩ : ByteArray) ++ ⟨#[32]⟩ ++ ⟨B.toArray⟩)) = _ from congrArg _ (strs_app3 A [32] B), HBA.out.trans (g.below.mono (by omega))⟩
end Go.Proofs.YtnbolgdccdnjeaaGreatDoor
