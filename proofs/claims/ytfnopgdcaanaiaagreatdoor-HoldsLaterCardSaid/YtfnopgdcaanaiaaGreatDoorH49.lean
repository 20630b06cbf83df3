/- Parts of the proof. No condition. -/
import Derived.Test.YtfnopgdcaanaiaaGreatDoorH48
set_option linter.all false
set_option maxRecDepth 100000
set_option maxHeartbeats 8000000
namespace Go.Proofs.YtfnopgdcaanaiaaGreatDoor
open Go.Proofs.Tryz
section
open Go.RowKit
theorem Tryz.infoCopyH:(prog.info? 46).map (λi=>(i.zero,i.size,i.bytes))=some (some (.agg #[.int .i64 0,.int .i64 0,.int .i64 0,.string ⟨#[]⟩,.slice none 0 0]),5,64):=by kernel_rfl
theorem XH:∀ (w:World) (B:Nat) (r:List Value) (y:Np.Copy),fU w B r y->∀ u∈r,u.oneCell'=true:=λw B r y ⟨s,v,_,_,h3,h5⟩ u hu=>by
 obtain⟨A,c,rfl,_⟩:=al h3;rw[h5] at hu;simp only[List.mem_cons,Qh,or_false] at hu;rcases hu with rfl | rfl | rfl | rfl | rfl <;> rfl
structure OutK(B O:Nat)(w0:World)(wc:Value->Array Value)(w:World)(ov:Value)(xs:List Np.Copy):Prop where
 rd:RdStep (λk=>k=O) w0 w
 obj:w.heap[O]?=some (.cells (wc ov) 29)
 own:br fU 5 46 w0.heap.size (λk=>B<=k) w ov xs
section
variable {B O:Nat} {w0 w:World} {wc:Value->Array Value} {ov:Value} {xs:List Np.Copy}
theorem OutK.keep(h:OutK B O w0 wc w ov xs){w':World}(hb:Below w.heap.size w w'):OutK B O w0 wc w' ov xs:=
 ⟨h.rd.then_below hb,(hb.block O (eQ.1 h.obj).1).trans h.obj,h.own.keep g8 zr ma hb⟩
theorem OutK.below(h:OutK B O w0 wc w ov xs)(hB:B<=O)(hO:O<w0.heap.size):Below B w0 w:=h.rd.below (by omega) (λk e=>by omega)
theorem OutK.push(h:OutK B O w0 wc w ov xs)(hB:B<=O)(hO:O<w0.heap.size)(lp:∀ v v',(wc v).setIfInBounds 1 v'=wc v'){x:Np.Copy}{v':Value}{w':World}(ho:br fU 5 46 w0.heap.size (λk=>B<=k\/v'.ownBlock=some k) w' v' (xs ++ [x]))(hg:w.grownBy w' ov.ownBlock) :
 OutK B O w0 wc (w'.setCell ⟨O,1,none⟩ v') v' (xs ++ [x]):=by
 have h1:∀ k,ov.ownBlock=some k->w0.heap.size<=k:=λk e=>(h.own.lt k e).1;have S8:=(eQ.1 h.obj).1;have UC:w'.heap[O]?=some (.cells (wc ov) 29):=(hg.block O S8 (λe=>by have:=h1 O e.symm;omega)).trans h.obj;refine⟨((h.rd.grown hg (λk e=>.inr (h1 k e))).setCell (.inl rfl) _),?_,?_⟩
 ·rw[<-lp ov v'];simp[World.setCell,Array.getElem?_modify,UC]
 ·exact ho.leaves g8 zr ma ((Leaves'.setCell _ w' (.inl hB) v').more (λk e=>.inl (.inl e))) (λg hg=>⟨wQ _ _ _ g (λe=>by have:=(ho.lt g hg).1;have e':g=O:=e;omega),by have:=(ho.lt g hg).1;omega⟩)
theorem OutK.rhist(k:OutK B O w0 wc w ov xs){A1 A2 A3 A4:Option Addr}{n1 c1 n2 c2 n3 c3 n4 c4:Nat}{s:ByteArray}{ty lf dr st:Int}{h:Np.Hist}(hh:ed w w.heap.size [.slice A1 n1 c1,.slice A2 n2 c2,.string s,.int .i64 ty,.int .i64 lf,.slice A3 n3 c3,.slice A4 n4 c4,.int .i64 dr,.int .i64 st] h)(hl:xs.length<=1000):ed w w.heap.size [.slice A1 n1 c1,ov,.string s,.int .i64 ty,.int .i64 lf,.slice A3 n3 c3,.slice A4 n4 c4,.int .i64 dr,.int .i64 st] (Np.withC h xs):=by
 obtain⟨hv,cv,s',dv,cN,he,h1,h2,h3,h4,h5,h6⟩:=hh;simp only[List.cons.injEq,Value.string.injEq,Value.int.injEq,true_and,and_true] at he;obtain⟨rfl,rfl,rfl,rfl,rfl,rfl,rfl,rfl,rfl⟩:=he;exact⟨_,_,_,_,_,rfl,h1,h2,h3,(k.own.slr_sans (M':=λ_=>False) zr ma (λ_ e=>e.elim) (by omega)).all zr,h5,h6⟩
end
theorem RR{B b:Nat}{w wX:World}{host frm til:Int}{sc:ByteArray}{sv:Value}{x:Np.Copy}(ay:sc.data.toList=x.zone.apex)(j8:sc.size<=140737488355328)(aM:SlR bh 5 w B sv x.zone.sets)(hb:Below B w wX)(hB:B<=wX.heap.size)(hh:x.host=host/\x.frm=frm/\x.til=til)(hc:ag wX b 0 [.int .i64 host,.int .i64 frm,.int .i64 til,.string sc,sv]):qH fU 5 (λk=>B<=k) wX (some ⟨b,0,none⟩) [x]:=by
 obtain⟨rfl,rfl,rfl⟩:=hh;exact Gy rfl ⟨sc,sv,ay,j8,(aM.keep aX hb).around aX cj (λk e=>e) hB,rfl⟩ hc
end
end Go.Proofs.YtfnopgdcaanaiaaGreatDoor
