/- sign: the small ones; record.Bytes of any set. -/
import Derived.Test.YtafpbfmhhpcalaaDoorRecB2
namespace Go.Proofs.YtafpbfmhhpcalaaDoor
open Go.RowKit
def Np.validKey (n a : Int) : Bool := decide (1 ≤ n) && decide (n ≤ 1000000) && (decide (1 ≤ a) && decide (a ≤ 3))
def Np.validWindow (f u : Int) : Bool := decide (0 ≤ f) && decide (f ≤ u) && decide (u ≤ 20000000)
set_option maxRecDepth 100000 in
set_option maxHeartbeats 1000000 in
theorem validWindow_any (f u : Int) (w : World) :
    Calls Tryd.prog 36 #[.int .i64 f, .int .i64 u] w fun e w' => e = .returned (.bool (Np.validWindow f u)) ∧ w' = w := by
  by_cases h1 : 0 ≤ f <;> by_cases h2 : f ≤ u <;> by_cases h3 : u ≤ 20000000
  all_goals
    go_enter Tryd.func36, Tryd.ntmps36
    go_wp2_with fail
    go_ret
    exact ⟨by simp_all [Np.validWindow], rfl⟩
set_option maxRecDepth 100000 in
set_option maxHeartbeats 1000000 in
theorem validKey_any (n a : Int) (w : World) :
    Calls Tryd.prog 35 #[.agg #[.int .i64 n, .int .i64 a]] w fun e w' => e = .returned (.bool (Np.validKey n a)) ∧ Below w.heap.size w w' := by
  go_enter Tryd.func35, Tryd.ntmps35
  go_wp2_with fail
  all_goals
    go_ret
    go_light
    refine ⟨ret_bool ?_, below_new _ _⟩
    simp_all [Np.validKey] <;> omega
end Go.Proofs.YtafpbfmhhpcalaaDoor
