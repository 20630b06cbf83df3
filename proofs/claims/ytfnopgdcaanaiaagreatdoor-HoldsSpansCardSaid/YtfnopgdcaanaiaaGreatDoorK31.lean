/- Parts of the proof. No condition. -/
import Derived.Test.YtfnopgdcaanaiaaGreatDoorK29
set_option linter.all false
set_option maxRecDepth 100000
set_option maxHeartbeats 8000000
namespace Go.Proofs.YtfnopgdcaanaiaaGreatDoor
open Go.Proofs.Tryz
section
open Go.RowKit Go.Shelf
theorem Qg{base n:Nat}{w:World}{v:Value}{ps:List Np.Span}(h:aK base w v ps)(hn:ps.length=n):∃ A c,v = .slice A n c:=by subst hn;exact h.form
theorem Tryz.infoHeldA:(prog.info? 57).map (λi=>(i.zero,i.size,i.bytes))=some (some (.agg #[.string ⟨#[]⟩,.string ⟨#[]⟩,.int .i64 0,.int .i64 0,.slice none 0 0,.slice none 0 0,.slice none 0 0,.slice none 0 0]),8,144):=by kernel_rfl
end
end Go.Proofs.YtfnopgdcaanaiaaGreatDoor
