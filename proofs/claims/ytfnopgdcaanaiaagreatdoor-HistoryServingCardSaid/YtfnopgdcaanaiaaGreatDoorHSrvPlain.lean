/- The card. For every input the law returns true. -/
import Derived.Test.YtfnopgdcaanaiaaGreatDoorCards
import Derived.Test.YtfnopgdcaanaiaaGreatDoorTie
import Derived.Test.YtfnopgdcaanaiaaGreatDoorHSrvClo
import Derived.Test.YtfnopgdcaanaiaaGreatDoorS22
set_option linter.all false
namespace Go.Proofs.YtfnopgdcaanaiaaGreatDoor.historyServing
open Go.ChangeShapes Go.WideShapes Go.ChangeAt Go.RowKit
theorem plain(f:FuncId)(fn:Func)(hf:Tryz.pinned.checked.prog.funcNamed "nameplan/nameplanlaw21.HistoryServing" = some f)(oC:Tryz.pinned.checked.prog.funcs[f]?=some fn) :
 false=Tryz.pinned.checked.prog.looks []/\∀ (j:Nat) t,fn.params[j]?=some t->Tryz.pinned.checked.prog.wantsStandIn t=false:=by
 obtain rfl:f=12:=Option.some.inj ((show Tryz.prog.funcNamed "nameplan/nameplanlaw21.HistoryServing" = some 12 by kernel_rfl).symm.trans hf) |>.symm;obtain rfl:fn=Tryz.f12:=(Option.some.inj (Tryz.func12.symm.trans oC)).symm;refine⟨by kernel_rfl,λj t ht=>?_⟩;rw[Tryz.params12] at ht;have hm:=Array.mem_of_getElem? ht;simp only[List.mem_toArray,List.mem_cons,Qh,or_false] at hm;rcases hm with rfl | rfl | rfl | rfl
 ·exact (show Tryz.prog.wantsStandIn 29=false by kernel_rfl)
 ·exact (show Tryz.prog.wantsStandIn 9=false by kernel_rfl)
 ·exact (show Tryz.prog.wantsStandIn 5=false by kernel_rfl)
 ·exact (show Tryz.prog.wantsStandIn 3=false by kernel_rfl)
end Go.Proofs.YtfnopgdcaanaiaaGreatDoor.historyServing
