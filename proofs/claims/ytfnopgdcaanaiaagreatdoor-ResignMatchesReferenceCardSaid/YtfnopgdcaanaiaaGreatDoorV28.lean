/- Parts of the proof. No condition. -/
import Derived.Test.YtfnopgdcaanaiaaGreatDoorV22
set_option linter.all false
set_option maxRecDepth 100000
set_option maxHeartbeats 8000000
namespace Go.Proofs.YtfnopgdcaanaiaaGreatDoor
section
open Go.RowKit
theorem QF{W:World}{B:Nat}{r:List Value}{x:Np.Held}{v:Value}{ps:List Np.Span}(h:cM W B r x)(hv:SlR bA 2 W B v ps):cM W B (r.set 7 v) ⟨x.zone,x.signed,x.fresh,ps⟩:=by
 obtain⟨z,s,dv,sv,fv,pv,rfl,h1,h2,h3,h4,h5,h6,h7,h8⟩:=h;exact⟨z,s,dv,sv,fv,v,rfl,h1,h2,h3,h4,h5,h6,h7,hv⟩
end
end Go.Proofs.YtfnopgdcaanaiaaGreatDoor
