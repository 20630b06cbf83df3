/- Parts of the proof. No condition. -/
import Derived.Test.YtfnopgdcaanaiaaGreatDoorT21
import Derived.Test.YtfnopgdcaanaiaaGreatDoorT22
set_option linter.all false
set_option maxRecDepth 100000
set_option maxHeartbeats 8000000
namespace Go.Proofs.YtfnopgdcaanaiaaGreatDoor
section
open Go.RowKit Go.Shelf
attribute [local go_sem] Oper.semAt_some
attribute [local go_sem] CV.cells
theorem av.formN{base n:Nat}{w:World}{v:Value}{ps:List Np.Span}(h:av base w v ps)(hn:ps.length=n):∃ A c,v = .slice A n c:=by subst hn;exact h.form
end
end Go.Proofs.YtfnopgdcaanaiaaGreatDoor
