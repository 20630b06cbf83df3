/- record.Bytes of a set that is not valid; trust.validTime. -/
import Derived.Test.YtafpbfmhhpcalaaDoorSign
namespace Go.Proofs.YtafpbfmhhpcalaaDoor
open Go.RowKit
def Np.validTime (a d : Int) : Bool := decide (0 ≤ a) && decide (a ≤ 10000000) && decide (0 ≤ d) && decide (d ≤ 1000)
set_option maxRecDepth 100000 in
set_option maxHeartbeats 1000000 in
theorem validTime_any (a d : Int) (w : World) :
    Calls Tryd.prog 44 #[.int .i64 a, .int .i64 d] w fun e w' => e = .returned (.bool (Np.validTime a d)) ∧ w' = w := by
  go_enter Tryd.func44, Tryd.ntmps44
  go_wp2_with fail
  all_goals
    go_ret
    go_light
    refine ⟨ret_bool ?_, rfl⟩
    simp_all [Np.validTime] <;> omega
set_option maxRecDepth 100000 in
set_option maxHeartbeats 1000000 in
theorem recBytes_bad (s : ByteArray) (hs : s.size ≤ 140737488355328) (ty life : Int) (v : Value) (ds : List Np.Datum) (w : World) (hR : RulesIn w w.heap.size) (hd : SlR RDatum 3 w w.heap.size v ds) (hval : Np.validSet ⟨s.data.toList, ty, life, ds⟩ = false) :
    Calls Tryd.prog 38 #[.agg #[.string s, .int .i64 ty, .int .i64 life, v]] w
      fun e w' => Below w.heap.size w w' ∧ ∃ k : Int, k ≠ 0 ∧ e = .returned (.tuple #[.slice none 0 0, .int .i64 k]) := by
  have HR := Lib.hid hR
  have HD := Lib.hid hd
  have HV := Lib.hid hval
  obtain ⟨A, c, rfl, hc1, hl1, he1⟩ := hd
  clear hR he1 hval
  go_enter Tryd.func38, Tryd.ntmps38
  go_wp2_with (go_at_call 70; refine (recValid_any s hs ty life _ ds _ ((HR.out.keep (below_new w _)).more (by simp)) ((HD.out.keep rdatum_kept (below_new w _)).more rdatum_more (by simp))).mono ?_; rintro e w1 ⟨rfl, hb1⟩; rw [HV.out]; have HB1 := Lib.hid hb1; clear hb1)
  go_ret2
  exact ⟨(below_new w _).trans (HB1.out.mono (by simp)), _, by decide, rfl⟩
end Go.Proofs.YtafpbfmhhpcalaaDoor
