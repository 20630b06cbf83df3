/- Parts of the proof. No condition. -/
import Derived.Test.YtfnopgdcaanaiaaGreatDoorK44
set_option linter.all false
set_option maxRecDepth 100000
set_option maxHeartbeats 8000000
namespace Go.Proofs.YtfnopgdcaanaiaaGreatDoor
section
open Go.RowKit
structure OutK(B O:Nat)(w0:World)(wc:Value->Array Value)(w:World)(ov:Value)(xs:List Np.Copy):Prop where
 rd:RdStep (λk=>k=O) w0 w
 obj:w.heap[O]?=some (.cells (wc ov) 29)
 own:bE jR 5 46 w0.heap.size (λk=>B<=k) w ov xs
section
variable {B O:Nat} {w0 w:World} {wc:Value->Array Value} {ov:Value} {xs:List Np.Copy}
theorem OutK.keep(h:OutK B O w0 wc w ov xs){w':World}(hb:Below w.heap.size w w'):OutK B O w0 wc w' ov xs:=
 ⟨h.rd.then_below hb,(hb.block O (eQ.1 h.obj).1).trans h.obj,h.own.keep kk QC r9 hb⟩
theorem OutK.below(h:OutK B O w0 wc w ov xs)(hB:B<=O)(hO:O<w0.heap.size):Below B w0 w:=h.rd.below (by omega) (λk e=>by omega)
theorem OutK.push(h:OutK B O w0 wc w ov xs)(hB:B<=O)(hO:O<w0.heap.size)(qh:∀ v v',(wc v).setIfInBounds 1 v'=wc v'){x:Np.Copy}{v':Value}{w':World}(ho:bE jR 5 46 w0.heap.size (λk=>B<=k\/v'.ownBlock=some k) w' v' (xs ++ [x]))(hg:w.grownBy w' ov.ownBlock) :
 OutK B O w0 wc (w'.setCell ⟨O,1,none⟩ v') v' (xs ++ [x]):=by
 have h1:∀ k,ov.ownBlock=some k->w0.heap.size<=k:=λk e=>(h.own.lt k e).1;have WM:=(eQ.1 h.obj).1;have nX:w'.heap[O]?=some (.cells (wc ov) 29):=(hg.block O WM (λe=>by have:=h1 O e.symm;omega)).trans h.obj;refine⟨((h.rd.grown hg (λk e=>.inr (h1 k e))).setCell (.inl rfl) _),?_,?_⟩
 ·rw[<-qh ov v'];simp[World.setCell,Array.getElem?_modify,nX]
 ·exact ho.leaves kk QC r9 ((Leaves'.setCell _ w' (.inl hB) v').more (λk e=>.inl (.inl e))) (λg hg=>⟨wQ _ _ _ g (λe=>by have:=(ho.lt g hg).1;have e':g=O:=e;omega),by have:=(ho.lt g hg).1;omega⟩)
end
end
end Go.Proofs.YtfnopgdcaanaiaaGreatDoor
