/- Parts of the proof. No condition. -/
import Derived.Test.YtfnopgdcaanaiaaGreatDoorK31
set_option linter.all false
set_option maxRecDepth 100000
set_option maxHeartbeats 8000000
namespace Go.Proofs.YtfnopgdcaanaiaaGreatDoor
open Go.Proofs.Tryz
section
open Go.RowKit
def Np.uU(h:Np.Hist)(z:List UInt8):Prop:=Np.VHist h/\Np.aG z=true
def Np.xT(h:Np.Hist)(z:List UInt8):Prop:=∃ c∈h.copies,c.zone.apex=z
theorem aqQ(e:List Value)(h:Np.Hist)(hf:Np.xi h)(w:World)(hh:fo w w.heap.size e h) :
 Calls prog 44 #[.agg e.toArray] w λe w'=>e = .returned (.bool (Np.yes (Np.VHist h)))/\Below w.heap.size w w':=by
 obtain⟨hv,cv,s,dv,cE,rfl,h1,h2,h3,h4,h5,h6⟩:=hh;obtain⟨hosts,copies,⟨name,ty,life,data⟩,hints,drift,stop⟩:=h;dsimp only at h1 h3 h4 h5 h6;subst h1;exact aqZ _ hosts _ copies s h2 ty life _ data _ hints drift stop hf.1 hf.2 _ h3 h4 h5 h6
end
end Go.Proofs.YtfnopgdcaanaiaaGreatDoor
