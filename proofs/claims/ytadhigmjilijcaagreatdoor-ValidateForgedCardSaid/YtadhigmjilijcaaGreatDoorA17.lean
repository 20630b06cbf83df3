/- No condition. -/
import Derived.Test.YtadhigmjilijcaaGreatDoorA11
import Derived.Test.YtadhigmjilijcaaGreatDoorA12
set_option linter.all false
set_option maxRecDepth 100000
set_option maxHeartbeats 8000000
namespace Go.Proofs.YtadhigmjilijcaaGreatDoor
section
open Go.RowKit



def sm(w:World)(B:Nat)(xs:List Value):Prop:=∀ j x,xs[j]?=some x->w.cell? ⟨B,j,none⟩=some x/\w.frozen? ⟨B,j,none⟩=false
theorem sm.keep{w w':World}{B n:Nat}{xs:List Value}(h:sm w B xs)(hb:Below n w w')(hB:B<n):sm w' B xs:=λj x hx=>by
 obtain⟨h3,h4⟩:=h j x hx;exact⟨(hb.cell (p:=⟨B,j,none⟩) hB).trans h3,(hb.frozen (p:=⟨B,j,none⟩) hB).trans h4⟩
theorem sm.store{w:World}{B:Nat}{xs:List Value}(h:sm w B xs){k:Nat}(hk:k<xs.length)(u:Value):sm (w.setCell ⟨B,k,none⟩ u) B (xs.set k u):=λj x hx=>by
 rw[List.getElem?_set] at hx;by_cases sX:k=j
 ·subst sX;rw[QbQ rfl,QbQ hk] at hx
  cases hx
  obtain⟨h3,h4⟩:=h k _ (aQ hk);exact⟨by simp[World.cell?_setCell_same,h3],(World.frozen?_setCell _ _ _ _).trans h4⟩
 ·rw[Qc sX] at hx;obtain⟨h3,h4⟩:=h j x hx;exact⟨by rw[xQ _ _ _ _ (by simp<;>omega)];exact h3,(World.frozen?_setCell _ _ _ _).trans h4⟩
def VF(_:World)(_:Nat)(e:List Value)(x:Bool):Prop:=e = [.bool x]
theorem sm.slr{w:World}{B:Nat}{xs:List Bool}(h:sm w B (xs.map Value.bool))(hB:B<w.heap.size)(hl:xs.length<=140737488355328):SlR VF 1 w w.heap.size (.slice (some ⟨B,0,none⟩) xs.length xs.length) xs:=
 ⟨_,_,rfl,bQ _,hl,λj x hx=>by
  obtain⟨h3,_⟩:=h j (.bool x) (by rw[List.getElem?_map,hx];rfl);refine⟨B,0,[.bool x],rfl,hB,rfl,λi v hv=>?_,rfl⟩
  match i,hv with
  | 0,hv=>cases hv;simpa using h3⟩
end
end Go.Proofs.YtadhigmjilijcaaGreatDoor
