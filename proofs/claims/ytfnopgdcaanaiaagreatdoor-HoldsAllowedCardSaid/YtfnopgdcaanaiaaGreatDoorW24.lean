/- Parts of the proof. No condition. -/
import Derived.Test.YtfnopgdcaanaiaaGreatDoorW20
set_option linter.all false
set_option maxRecDepth 100000
set_option maxHeartbeats 8000000
namespace Go.Proofs.YtfnopgdcaanaiaaGreatDoor
open Go.Proofs.Tryz
section
open Go.RowKit Go.Shelf
theorem Ph{base n:Nat}{w:World}{v:Value}{ps:List Np.Span}(h:aN base w v ps)(hn:ps.length=n):∃ A c,v = .slice A n c:=by subst hn;exact h.form
theorem Tryz.infoHeldA:(prog.info? 57).map (λi=>(i.zero,i.size,i.bytes))=some (some (.agg #[.string ⟨#[]⟩,.string ⟨#[]⟩,.int .i64 0,.int .i64 0,.slice none 0 0,.slice none 0 0,.slice none 0 0,.slice none 0 0]),8,144):=by kernel_rfl
end
section
open Go.RowKit
def Np.uH(h:Np.Hist)(z:List UInt8):Prop:=Np.VHist h/\Np.aA z=true
def Np.xC(h:Np.Hist)(z:List UInt8):Prop:=∃ c∈h.copies,c.zone.apex=z
theorem afZ(e:List Value)(h:Np.Hist)(hf:Np.yM h)(w:World)(hh:iz w w.heap.size e h) :
 Calls prog 44 #[.agg e.toArray] w (aFQ w.heap.size w (.bool (Np.yes (Np.VHist h)))):=by
 obtain⟨hv,cv,s,dv,dV,rfl,h1,h2,h3,h4,h5,h6⟩:=hh;obtain⟨hosts,copies,⟨name,ty,life,data⟩,hints,drift,stop⟩:=h;dsimp only at h1 h3 h4 h5 h6;subst h1;exact afJ _ hosts _ copies s h2 ty life _ data _ hints drift stop hf.1 hf.2 _ h3 h4 h5 h6
end
end Go.Proofs.YtfnopgdcaanaiaaGreatDoor
