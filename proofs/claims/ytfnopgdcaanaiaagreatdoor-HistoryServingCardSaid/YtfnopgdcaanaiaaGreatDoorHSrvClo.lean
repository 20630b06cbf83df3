/- The closed facts of the row. No condition. -/
import Derived.Test.YtfnopgdcaanaiaaGreatDoorCards
import Derived.Test.YtfnopgdcaanaiaaGreatDoorTie
set_option linter.all false
namespace Go.Proofs.YtfnopgdcaanaiaaGreatDoor.historyServing
set_option maxHeartbeats 0 in
theorem closed:joinedFacts Tryz.pinned.checked.prog 12 Tryz.f12 (OpenSpec.ofChange Rows.historyServingSpec).bare Rows.historyServingRow=true:=by
 simp only[joinedFacts,Bool.and_eq_true]
 repeat' apply And.intro
 all_goals as_aux_lemma=>kernel_rfl
end Go.Proofs.YtfnopgdcaanaiaaGreatDoor.historyServing
