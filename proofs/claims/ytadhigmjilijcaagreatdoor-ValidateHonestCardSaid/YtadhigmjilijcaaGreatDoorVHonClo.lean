/- The closed facts of the row. No condition. -/
import Derived.Test.YtadhigmjilijcaaGreatDoorCards
import Derived.Test.YtadhigmjilijcaaGreatDoorTie
set_option linter.all false
namespace Go.Proofs.YtadhigmjilijcaaGreatDoor.validateHonest
set_option maxHeartbeats 0 in
theorem closed:joinedFacts Tryz.pinned.checked.prog 8 Tryz.f8 (OpenSpec.ofChange Rows.validateHonestSpec).bare Rows.validateHonestRow=true:=by
 simp only[joinedFacts,Bool.and_eq_true]
 repeat' apply And.intro
 all_goals as_aux_lemma=>kernel_rfl
end Go.Proofs.YtadhigmjilijcaaGreatDoor.validateHonest
