/- Parts of the proof. No condition. -/
import Derived.Test.YtfnopgdcaanaiaaGreatDoorU22
set_option linter.all false
set_option maxRecDepth 100000
set_option maxHeartbeats 8000000
namespace Go.Proofs.YtfnopgdcaanaiaaGreatDoor
open Go.Proofs.Tryz
section
open Go.RowKit Go.Shelf
theorem MZ{base n:Nat}{w:World}{v:Value}{ps:List Np.Span}(h:aG base w v ps)(hn:ps.length=n):∃ A c,v = .slice A n c:=by subst hn;exact h.form
theorem Tryz.infoHeldA:(prog.info? 57).map (λi=>(i.zero,i.size,i.bytes))=some (some (.agg #[.string ⟨#[]⟩,.string ⟨#[]⟩,.int .i64 0,.int .i64 0,.slice none 0 0,.slice none 0 0,.slice none 0 0,.slice none 0 0]),8,144):=by kernel_rfl
end
section
open Go.RowKit
def Np.sW(h:Np.Hist)(z:List UInt8):Prop:=Np.VHist h/\Np.aD z=true
def Np.uD(h:Np.Hist)(z:List UInt8):Prop:=∃ c∈h.copies,c.zone.apex=z
theorem X6(e:List Value)(h:Np.Hist)(hf:Np.ww h)(w:World)(hh:jg w w.heap.size e h) :
 Calls prog 44 #[.agg e.toArray] w (aeJ w.heap.size w (.bool (Np.yes (Np.VHist h)))):=by
 obtain⟨hv,cv,s,dv,cX,rfl,h1,h2,h3,h4,h5,h6⟩:=hh;obtain⟨hosts,copies,⟨name,ty,life,data⟩,hints,drift,stop⟩:=h;dsimp only at h1 h3 h4 h5 h6;subst h1;exact X7 _ hosts _ copies s h2 ty life _ data _ hints drift stop hf.1 hf.2 _ h3 h4 h5 h6
end
end Go.Proofs.YtfnopgdcaanaiaaGreatDoor
