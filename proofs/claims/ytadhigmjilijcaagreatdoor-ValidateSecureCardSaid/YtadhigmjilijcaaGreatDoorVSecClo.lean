/- The closed facts of the row. No condition. -/
import Derived.Test.YtadhigmjilijcaaGreatDoorCards
import Derived.Test.YtadhigmjilijcaaGreatDoorTie
set_option linter.all false
namespace Go.Proofs.YtadhigmjilijcaaGreatDoor.validateSecure
set_option maxHeartbeats 0 in
theorem closed:joinedFacts Tryz.pinned.checked.prog 4 Tryz.f4 (OpenSpec.ofChange Rows.validateSecureSpec).bare Rows.validateSecureRow=true:=by
 simp only[joinedFacts,Bool.and_eq_true]
 repeat' apply And.intro
 all_goals as_aux_lemma=>kernel_rfl
end Go.Proofs.YtadhigmjilijcaaGreatDoor.validateSecure
