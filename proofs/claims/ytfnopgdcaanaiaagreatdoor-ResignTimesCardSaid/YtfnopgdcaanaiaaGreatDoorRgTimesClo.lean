/- The closed facts of the row. No condition. -/
import Derived.Test.YtfnopgdcaanaiaaGreatDoorCards
import Derived.Test.YtfnopgdcaanaiaaGreatDoorTie
set_option linter.all false
namespace Go.Proofs.YtfnopgdcaanaiaaGreatDoor.resignTimes
set_option maxHeartbeats 0 in
theorem closed:joinedFacts Tryz.pinned.checked.prog 11 Tryz.f11 (OpenSpec.ofChange Rows.resignTimesSpec).bare Rows.resignTimesRow=true:=by
 simp only[joinedFacts,Bool.and_eq_true]
 repeat' apply And.intro
 all_goals as_aux_lemma=>kernel_rfl
end Go.Proofs.YtfnopgdcaanaiaaGreatDoor.resignTimes
