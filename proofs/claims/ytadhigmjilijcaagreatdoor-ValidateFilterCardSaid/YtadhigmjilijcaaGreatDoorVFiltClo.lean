/- The closed facts of the row. No condition. -/
import Derived.Test.YtadhigmjilijcaaGreatDoorCards
import Derived.Test.YtadhigmjilijcaaGreatDoorTie
set_option linter.all false
namespace Go.Proofs.YtadhigmjilijcaaGreatDoor.validateFilter
set_option maxHeartbeats 0 in
theorem closed:joinedFacts Tryz.pinned.checked.prog 7 Tryz.f7 (OpenSpec.ofChange Rows.validateFilterSpec).bare Rows.validateFilterRow=true:=by
 simp only[joinedFacts,Bool.and_eq_true]
 repeat' apply And.intro
 all_goals as_aux_lemma=>kernel_rfl
end Go.Proofs.YtadhigmjilijcaaGreatDoor.validateFilter
