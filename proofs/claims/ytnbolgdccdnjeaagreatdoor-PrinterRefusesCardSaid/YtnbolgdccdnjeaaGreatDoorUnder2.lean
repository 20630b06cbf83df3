/- Contracts of packages name and record: a name under another one; the order of sets. -/
import Derived.Test.YtnbolgdccdnjeaaGreatDoorCmp
import Derived.Test.YtnbolgdccdnjeaaGreatDoorRec3
namespace Go.Proofs.YtnbolgdccdnjeaaGreatDoor
open Go.RowKit
theorem ret_under {a b : Bool} (h : a = b) : Ending.returned (.tuple #[.bool a, .int .i64 0]) = .returned (.tuple #[.bool b, .int .i64 0]) := by rw [h]
/-- The suffix, in the model's words. -/
def Np.suffix (s z : ByteArray) : Bool := decide (z.size ≤ s.size) && ((s.extract (s.size - z.size) s.size).toList == z.toList)
def Np.under (s z : ByteArray) : Bool := (s.toList == z.toList) || (z.toList == [46]) || (decide (z.size < s.size) && Np.suffix s z && ((s.data.toList[s.size - z.size - 1]?).map UInt8.toNat == some 46))
theorem suffix_eq (s z : ByteArray) (h : z.size ≤ s.size) : Np.suffix s z = (s.data.toList.drop (s.data.toList.length - z.data.toList.length) == z.data.toList) := by
  unfold Np.suffix
  rw [decide_eq_true h, Bool.true_and, ByteArray.toList_eq, ByteArray.toList_eq, ext_from, size_list, size_list]
theorem under_eq (s z : ByteArray) : Np.under s z = Np.underL s.data.toList z.data.toList := by
  unfold Np.under Np.underL
  rw [ByteArray.toList_eq, ByteArray.toList_eq, size_list, size_list]
  congr 1
  by_cases h : z.size < s.size
  · rw [suffix_eq s z (by omega), size_list, size_list, decide_eq_true h]
    congr 1
    have e : s.data.toList[s.size - z.size - 1]? = some (s[s.size - z.size - 1]'(by omega)) := get_list s _ (by omega)
    rw [e]
    simp only [Option.map_some]
    rw [Bool.eq_iff_iff]
    simp only [beq_iff_eq, Option.some.injEq]
    constructor
    · intro h; apply UInt8.toNat_inj.1; rw [h]; rfl
    · intro h; rw [h]; rfl
  · rw [decide_eq_false h]; rfl
set_option maxRecDepth 100000 in
set_option maxHeartbeats 1000000 in
theorem hasSuffix_lite (s z : ByteArray) (hs : s.size ≤ 140737488355328) (hz : z.size ≤ 140737488355328) (w : World) :
    Calls Tryz.prog 55 #[.string s, .string z] w fun e w' => e = .returned (.bool (Np.suffix s z)) ∧ w' = w := by
  go_enter Tryz.func55, Tryz.ntmps55
  go_wp2_with fail
  all_goals
    go_ret
    refine ⟨ret_bool ?_, rfl⟩
    simp_all [Np.suffix] <;> (intros; omega)
theorem hasSuffix_any (s z : ByteArray) (hs : s.size ≤ 140737488355328) (hz : z.size ≤ 140737488355328) (w : World) :
    Calls Tryz.prog 21 #[.string s, .string z] w fun e w' => e = .returned (.bool (Np.suffix s z)) ∧ w' = w := by
  go_enter Tryz.func21, Tryz.ntmps21
  go_wp2_with (go_at_call 55; refine (hasSuffix_lite s z hs hz _).mono ?_; rintro e w' ⟨rfl, rfl⟩)
  go_ret
  exact ⟨rfl, rfl⟩
set_option maxRecDepth 100000 in
set_option maxHeartbeats 1000000 in
theorem under_yes (s z : ByteArray) (hs : s.size ≤ 140737488355328) (hz : z.size ≤ 140737488355328) (w : World) (v1 : Np.validName s.data.toList = true) (v2 : Np.validName z.data.toList = true) :
    Calls Tryz.prog 26 #[.string s, .string z] w fun e w' => e = .returned (.tuple #[.bool (Np.underL s.data.toList z.data.toList), .int .i64 0]) ∧ Below w.heap.size w w' := by
  rw [← under_eq]
  have V1 := Lib.hid v1
  have V2 := Lib.hid v2
  clear v1 v2
  go_enter Tryz.func26, Tryz.ntmps26
  go_wp2_with (first
    | (go_at_call 59; have v1 := V1.out; clear V1; refine (valid_any s hs _).mono ?_; rintro e w1 ⟨rfl, hb⟩; rw [v1]; clear v1; have HB1 := Lib.hid hb; clear hb)
    | (go_at_call 59; have v2 := V2.out; clear V2; refine (valid_any z hz _).mono ?_; rintro e w2 ⟨rfl, hb⟩; rw [v2]; clear v2; have HB2 := Lib.hid hb; clear hb)
    | (go_at_call 21; refine (hasSuffix_any s z hs hz _).mono ?_; rintro e w3 ⟨rfl, rfl⟩))
  all_goals
    go_ret2
    refine ⟨ret_under ?_, HB1.out.trans (HB2.out.mono HB1.out.size)⟩
    simp_all [Np.under, ByteArray.toList_eq]
  · rename_i _ h1 h2 h3 _
    have e1 : (s.data == z.data) = false := by simpa using h1
    have e2 : (z.data.toList == [46]) = false := by simpa using h2
    have e3 : s.data[s.size - z.size - 1]? = some s[s.size - z.size - 1] := Array.getElem?_eq_getElem (by simp; omega)
    rw [e1, e2, e3, Bool.eq_iff_iff]
    simp
    omega
  · intros; omega
theorem under_no (s z : ByteArray) (hs : s.size ≤ 140737488355328) (w : World) (v1 : Np.validName s.data.toList = false) :
    Calls Tryz.prog 26 #[.string s, .string z] w fun e w' => e = .returned (.tuple #[.bool false, .int .i64 11]) ∧ Below w.heap.size w w' := by
  have V1 := Lib.hid v1
  clear v1
  go_enter Tryz.func26, Tryz.ntmps26
  go_wp2_with fail
  refine (valid_any s hs _).mono ?_
  rintro e w1 ⟨rfl, hb⟩
  rw [V1.out]
  have HB1 := Lib.hid hb
  clear hb
  go_wp2_with fail
  go_ret2
  exact ⟨rfl, HB1.out⟩
set_option maxRecDepth 100000 in
set_option maxHeartbeats 1000000 in
theorem comparePlaces_any (s1 s2 : ByteArray) (hs1 : s1.size ≤ 140737488355328) (hs2 : s2.size ≤ 140737488355328) (t1 l1 t2 l2 : Int) (v1 v2 : Value) (d1 d2 : List Np.Datum) (n1 : Np.validName s1.data.toList = true) (n2 : Np.validName s2.data.toList = true) (w : World) :
    Calls Tryz.prog 65 #[.agg #[.string s1, .int .i64 t1, .int .i64 l1, v1], .agg #[.string s2, .int .i64 t2, .int .i64 l2, v2]] w
      fun e w' => e = .returned (.int .i64 (Np.cmpSet ⟨s1.data.toList, t1, l1, d1⟩ ⟨s2.data.toList, t2, l2, d2⟩)) ∧ Below w.heap.size w w' := by
  have hw : ∀ o o', Below w.heap.size w ((w.alloc o).alloc o') := fun o o' => ((Below.refl _ w).alloc (Nat.le_refl _) _).alloc (by simp) _
  have HW := Lib.hid hw
  clear hw
  have hv : cmpVal s1.data.toList s2.data.toList = .tuple #[.int .i64 (Np.cmpName s1.data.toList s2.data.toList), .int .i64 0] := by rw [cmpVal, n1, n2]; rfl
  have HV := Lib.hid hv
  clear hv n1 n2
  by_cases h : s1.data.toList = s2.data.toList
  · have he : (!s1.toList == s2.toList) = false := by rw [ByteArray.toList_eq, ByteArray.toList_eq, h]; simp
    have hc : Np.cmpSet ⟨s1.data.toList, t1, l1, d1⟩ ⟨s2.data.toList, t2, l2, d2⟩ = Np.cmpI t1 t2 := by unfold Np.cmpSet; rw [if_neg (fun e => e h)]
    rw [hc]
    clear hc h
    go_enter Tryz.func65, Tryz.ntmps65
    go_wp2_with (go_at_call 108; refine (cmpI_any _ _ _).mono ?_; rintro e w' ⟨rfl, rfl⟩)
    go_ret
    exact ⟨rfl, HW.out _ _⟩
  · have he : (!s1.toList == s2.toList) = true := by rw [ByteArray.toList_eq, ByteArray.toList_eq]; simpa using h
    have hc : Np.cmpSet ⟨s1.data.toList, t1, l1, d1⟩ ⟨s2.data.toList, t2, l2, d2⟩ = Np.cmpName s1.data.toList s2.data.toList := by unfold Np.cmpSet; rw [if_pos h]
    rw [hc]
    clear hc h
    go_enter Tryz.func65, Tryz.ntmps65
    go_wp2_with fail
    refine (compare_any s1 s2 hs1 hs2 _).mono ?_
    rintro e w1 ⟨rfl, hb⟩
    rw [HV.out]
    have HB := Lib.hid ((HW.out _ _).trans (hb.mono (by simp; omega)))
    clear hb
    go_wp2_with fail
    go_ret
    exact ⟨rfl, HB.out⟩
/-- What record.Compare hands back. -/
def cmpSetVal (a b : Np.DSet) : Value := if Np.validSet a && Np.validSet b then .tuple #[.int .i64 (Np.cmpSet a b), .int .i64 0] else .tuple #[.int .i64 0, .int .i64 1]
theorem valid_name {s : Np.DSet} (h : Np.validSet s = true) : Np.validName s.name = true := by
  unfold Np.validSet at h
  simp only [Bool.and_eq_true] at h
  exact h.1.1.1.1.1.1
set_option maxRecDepth 100000 in
set_option maxHeartbeats 1000000 in
theorem recCompare_any (s1 s2 : ByteArray) (hs1 : s1.size ≤ 140737488355328) (hs2 : s2.size ≤ 140737488355328) (t1 l1 t2 l2 : Int) (v1 v2 : Value) (d1 d2 : List Np.Datum) (w : World) (hR : RulesIn w w.heap.size) (hd1 : SlR RDatum 3 w w.heap.size v1 d1) (hd2 : SlR RDatum 3 w w.heap.size v2 d2) :
    Calls Tryz.prog 28 #[.agg #[.string s1, .int .i64 t1, .int .i64 l1, v1], .agg #[.string s2, .int .i64 t2, .int .i64 l2, v2]] w
      fun e w' => e = .returned (cmpSetVal ⟨s1.data.toList, t1, l1, d1⟩ ⟨s2.data.toList, t2, l2, d2⟩) ∧ Below w.heap.size w w' := by
  have hw : ∀ o o', Below w.heap.size w ((w.alloc o).alloc o') := fun o o' => ((Below.refl _ w).alloc (Nat.le_refl _) _).alloc (by simp) _
  have HW := Lib.hid hw
  have HR := Lib.hid hR
  have HD1 := Lib.hid hd1
  have HD2 := Lib.hid hd2
  obtain ⟨A1, c1, rfl, -, -, -⟩ := hd1
  obtain ⟨A2, c2, rfl, -, -, -⟩ := hd2
  clear hw hR
  go_enter Tryz.func28, Tryz.ntmps28
  go_wp2_with fail
  refine (recValid_any s1 hs1 t1 l1 _ d1 _ ((HR.out.keep (HW.out _ _)).more (by simp; omega)) ((HD1.out.keep rdatum_kept (HW.out _ _)).more rdatum_more (by simp; omega))).mono ?_
  rintro e w1 ⟨rfl, hb1⟩
  obtain ⟨hc1, hf1⟩ := bcell hb1
  have hz1 : w.heap.size + 1 < w1.heap.size := by have := hb1.size; simp at this; omega
  have hz0 : w.heap.size < w1.heap.size := by omega
  have HB1 := Lib.hid ((HW.out _ _).trans (hb1.mono (by simp; omega)))
  clear hb1
  cases q1 : Np.validSet ⟨s1.data.toList, t1, l1, d1⟩ with
  | false =>
    have HQ := Lib.hid q1
    clear q1
    go_wp2_with fail
    go_ret2
    exact ⟨by rw [cmpSetVal, HQ.out]; rfl, HB1.out⟩
  | true =>
    have HQ := Lib.hid q1
    clear q1
    go_wp2_with fail
    refine (recValid_any s2 hs2 t2 l2 _ d2 _ ((HR.out.keep HB1.out).more HB1.out.size) ((HD2.out.keep rdatum_kept HB1.out).more rdatum_more HB1.out.size)).mono ?_
    rintro e w2 ⟨rfl, hb2⟩
    obtain ⟨hc2, hf2⟩ := bcell hb2
    have hz2 : w.heap.size + 1 < w2.heap.size := by have := hb2.size; omega
    have HB2 := Lib.hid (HB1.out.trans (hb2.mono HB1.out.size))
    clear hb2
    cases q2 : Np.validSet ⟨s2.data.toList, t2, l2, d2⟩ with
    | false =>
      have HQ2 := Lib.hid q2
      clear q2
      go_wp2_with fail
      go_ret2
      exact ⟨by rw [cmpSetVal, HQ.out, HQ2.out]; rfl, HB2.out⟩
    | true =>
      have HQ2 := Lib.hid q2
      clear q2
      go_wp2_with fail
      refine (comparePlaces_any s1 s2 hs1 hs2 t1 l1 t2 l2 _ _ d1 d2 (valid_name HQ.out) (valid_name HQ2.out) _).mono ?_
      rintro e w3 ⟨rfl, hb3⟩
      have HB3 := Lib.hid (HB2.out.trans (hb3.mono HB2.out.size))
      clear hb3
      go_wp2_with fail
      go_ret2
      exact ⟨by rw [cmpSetVal, HQ.out, HQ2.out]; rfl, HB3.out⟩
end Go.Proofs.YtnbolgdccdnjeaaGreatDoor
