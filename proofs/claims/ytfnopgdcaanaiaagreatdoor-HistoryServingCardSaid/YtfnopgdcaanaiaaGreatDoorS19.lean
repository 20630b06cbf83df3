/- No condition. -/
import Derived.Test.YtfnopgdcaanaiaaGreatDoorS12
set_option linter.all false
set_option maxRecDepth 100000
set_option maxHeartbeats 8000000
namespace Go.Proofs.YtfnopgdcaanaiaaGreatDoor
section
open Go.RowKit
theorem Np.TT:∀ (l:List Np.Span) (p:Option Int),Np.ApartS l->(∀ s∈l,0<=s.frm/\s.til<=20000000)->(∀ u,p=some u->∀ s∈l,u<s.frm)->Np.nU p l=true
 | [],_,_,_,_=>by unfold Np.nU;rfl
 | s::r,p,ha,hb,hp=>by
   have h1:=hb s (List.mem_cons_self ..);have h2:=ha.full s (List.mem_cons_self ..);have ih:=Np.TT r (some s.til) ha.tail (λx hx=>hb x (mQ _ hx)) (λu hu x hx=>by cases hu;exact (List.pairwise_cons.1 ha.apart).1 x hx);unfold Np.nU;rw[ih,Bool.and_true]
   cases p with
   | none=>simp[Np.kF,h1,h2]
   | some u=>simp[Np.kF,h1,h2,hp u rfl s (List.mem_cons_self ..)]
end
end Go.Proofs.YtfnopgdcaanaiaaGreatDoor
