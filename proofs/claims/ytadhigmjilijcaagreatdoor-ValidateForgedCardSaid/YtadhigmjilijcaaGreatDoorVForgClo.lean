/- The closed facts of the row. No condition. -/
import Derived.Test.YtadhigmjilijcaaGreatDoorCards
import Derived.Test.YtadhigmjilijcaaGreatDoorTie
set_option linter.all false
namespace Go.Proofs.YtadhigmjilijcaaGreatDoor.validateForged
set_option maxHeartbeats 0 in
theorem closed:joinedFacts Tryz.pinned.checked.prog 5 Tryz.f5 (OpenSpec.ofChange Rows.validateForgedSpec).bare Rows.validateForgedRow=true:=by
 simp only[joinedFacts,Bool.and_eq_true]
 repeat' apply And.intro
 all_goals as_aux_lemma=>kernel_rfl
end Go.Proofs.YtadhigmjilijcaaGreatDoor.validateForged
