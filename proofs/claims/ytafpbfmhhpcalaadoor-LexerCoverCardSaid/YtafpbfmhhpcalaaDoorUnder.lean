/- name.Under. -/
import Derived.Test.YtafpbfmhhpcalaaDoorSign2
namespace Go.Proofs.YtafpbfmhhpcalaaDoor
open Go.RowKit
theorem ret_under {a b : Bool} (h : a = b) : Ending.returned (.tuple #[.bool a, .int .i64 0]) = .returned (.tuple #[.bool b, .int .i64 0]) := by rw [h]
/-- The suffix, in the model's words. -/
def Np.suffix (s z : ByteArray) : Bool := decide (z.size ≤ s.size) && ((s.extract (s.size - z.size) s.size).toList == z.toList)
def Np.under (s z : ByteArray) : Bool := (s.toList == z.toList) || (z.toList == [46]) || (decide (z.size < s.size) && Np.suffix s z && ((s.data.toList[s.size - z.size - 1]?).map UInt8.toNat == some 46))
set_option maxRecDepth 100000 in
set_option maxHeartbeats 1000000 in
theorem hasSuffix_lite (s z : ByteArray) (hs : s.size ≤ 140737488355328) (hz : z.size ≤ 140737488355328) (w : World) :
    Calls Tryd.prog 114 #[.string s, .string z] w fun e w' => e = .returned (.bool (Np.suffix s z)) ∧ w' = w := by
  go_enter Tryd.func114, Tryd.ntmps114
  go_wp2_with fail
  all_goals
    go_ret
    refine ⟨ret_bool ?_, rfl⟩
    simp_all [Np.suffix] <;> (intros; omega)
theorem hasSuffix_any (s z : ByteArray) (hs : s.size ≤ 140737488355328) (hz : z.size ≤ 140737488355328) (w : World) :
    Calls Tryd.prog 73 #[.string s, .string z] w fun e w' => e = .returned (.bool (Np.suffix s z)) ∧ w' = w := by
  go_enter Tryd.func73, Tryd.ntmps73
  go_wp2_with (go_at_call 114; refine (hasSuffix_lite s z hs hz _).mono ?_; rintro e w' ⟨rfl, rfl⟩)
  go_ret
  exact ⟨rfl, rfl⟩
set_option maxRecDepth 100000 in
set_option maxHeartbeats 1000000 in
theorem under_any (s z : ByteArray) (hs : s.size ≤ 140737488355328) (hz : z.size ≤ 140737488355328) (w : World) (v1 : Np.validName s.data.toList = true) (v2 : Np.validName z.data.toList = true) :
    Calls Tryd.prog 39 #[.string s, .string z] w fun e w' => e = .returned (.tuple #[.bool (Np.under s z), .int .i64 0]) ∧ Below w.heap.size w w' := by
  have V1 := Lib.hid v1
  have V2 := Lib.hid v2
  clear v1 v2
  go_enter Tryd.func39, Tryd.ntmps39
  go_wp2_with (first
    | (go_at_call 69; have v1 := V1.out; clear V1; refine (valid_any s hs _).mono ?_; rintro e w1 ⟨rfl, hb⟩; rw [v1]; clear v1; have HB1 := Lib.hid hb; clear hb)
    | (go_at_call 69; have v2 := V2.out; clear V2; refine (valid_any z hz _).mono ?_; rintro e w2 ⟨rfl, hb⟩; rw [v2]; clear v2; have HB2 := Lib.hid hb; clear hb)
    | (go_at_call 73; refine (hasSuffix_any s z hs hz _).mono ?_; rintro e w3 ⟨rfl, rfl⟩))
  all_goals
    go_ret2
    refine ⟨ret_under ?_, HB1.out.trans (HB2.out.mono HB1.out.size)⟩
    simp_all [Np.under, ByteArray.toList_eq]
  · rename_i _ h1 h2 h3 _
    have e1 : (s.data == z.data) = false := by simpa using h1
    have e2 : (z.data.toList == [46]) = false := by simpa using h2
    have e3 : s.data[s.size - z.size - 1]? = some s[s.size - z.size - 1] := Array.getElem?_eq_getElem (by simp; omega)
    rw [e1, e2, e3, Bool.eq_iff_iff]
    simp
    omega
  · intros; omega
end Go.Proofs.YtafpbfmhhpcalaaDoor
