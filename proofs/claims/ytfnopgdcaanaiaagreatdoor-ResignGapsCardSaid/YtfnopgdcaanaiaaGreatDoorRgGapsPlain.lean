/- The card. For every input the law returns true. -/
import Derived.Test.YtfnopgdcaanaiaaGreatDoorCards
import Derived.Test.YtfnopgdcaanaiaaGreatDoorTie
import Derived.Test.YtfnopgdcaanaiaaGreatDoorRgGapsClo
import Derived.Test.YtfnopgdcaanaiaaGreatDoorU30
import Derived.Test.YtfnopgdcaanaiaaGreatDoorU31
set_option linter.all false
namespace Go.Proofs.YtfnopgdcaanaiaaGreatDoor.resignGaps
open Go.ChangeShapes Go.WideShapes Go.ChangeAt Go.RowKit
theorem plain(f:FuncId)(fn:Func)(hf:Tryz.pinned.checked.prog.funcNamed "nameplan/nameplanlaw25.ResignGaps" = some f)(gT:Tryz.pinned.checked.prog.funcs[f]?=some fn) :
 false=Tryz.pinned.checked.prog.looks []/\∀ (j:Nat) t,fn.params[j]?=some t->Tryz.pinned.checked.prog.wantsStandIn t=false:=by
 obtain rfl:f=10:=Option.some.inj ((show Tryz.prog.funcNamed "nameplan/nameplanlaw25.ResignGaps" = some 10 by kernel_rfl).symm.trans hf) |>.symm;obtain rfl:fn=Tryz.f10:=(Option.some.inj (Tryz.func10.symm.trans gT)).symm;refine⟨by kernel_rfl,λj t ht=>?_⟩;rw[Tryz.params10] at ht;have hm:=Array.mem_of_getElem? ht;simp only[List.mem_toArray,List.mem_cons,Qh,or_false] at hm;rcases hm with rfl | rfl | rfl
 ·exact (show Tryz.prog.wantsStandIn 29=false by kernel_rfl)
 ·exact (show Tryz.prog.wantsStandIn 65=false by kernel_rfl)
 ·exact (show Tryz.prog.wantsStandIn 92=false by kernel_rfl)
end Go.Proofs.YtfnopgdcaanaiaaGreatDoor.resignGaps
