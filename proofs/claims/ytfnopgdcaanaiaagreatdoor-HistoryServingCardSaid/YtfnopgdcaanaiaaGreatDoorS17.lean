/- No condition. -/
import Derived.Deep.RegionHeld3
import Derived.Test.YtfnopgdcaanaiaaGreatDoorS12
import Derived.Test.YtfnopgdcaanaiaaGreatDoorS15
set_option linter.all false
set_option maxRecDepth 100000
set_option maxHeartbeats 8000000
namespace Go.Proofs.YtfnopgdcaanaiaaGreatDoor
section
open Go.RowKit
theorem tz.weaken{w:World}{base b:Nat}{v:Value}{bs:List UInt8}(h:tz w base v bs)(hb:b<=base):tz w b v bs:=by
 refine⟨h.1,?_⟩;rcases h.2 with h1 | ⟨g,cap,cur,h1,h2,h3⟩
 ·exact .inl h1
 ·exact .inr ⟨g,cap,cur,h1,yQ hb h2,h3⟩
theorem L6.step{base:Nat}{v:Value}{bs bs':List UInt8}{w w':World}{e:Ending}(h:L6 base v bs' w e w')(ho:tz w base v bs)(hb:base<=w.heap.size):∃ A c b',e = .returned (.slice A (List.length b') c)/\Hid (b'=bs')/\tz w' base (.slice A (List.length b') c) b'/\Below base w w':=by
 obtain⟨v',rfl,h1,h2⟩:=h;obtain⟨A,c,rfl⟩:=oN h1;exact⟨A,c,bs',rfl,jq rfl,h1,h2.below ho (bQ _) hb⟩




end
section
open Go.RowKit Go.Shelf
attribute [local go_sem] Oper.semAt_some
end
section
open Go.RowKit Go.Shelf
attribute [local go_sem] Oper.semAt_some
end
end Go.Proofs.YtfnopgdcaanaiaaGreatDoor
