/- The card. For every input the law returns true. -/
import Derived.Test.YtadhigmjilijcaaGreatDoorCards
import Derived.Test.YtadhigmjilijcaaGreatDoorTie
import Derived.Test.YtadhigmjilijcaaGreatDoorVHonClo
import Derived.Test.YtadhigmjilijcaaGreatDoorH31
set_option linter.all false
namespace Go.Proofs.YtadhigmjilijcaaGreatDoor.validateHonest
open Go.ChangeShapes Go.WideShapes Go.ChangeAt Go.RowKit
theorem plain(f:FuncId)(fn:Func)(hf:Tryz.pinned.checked.prog.funcNamed "nameplan/nameplanlaw30.ValidateHonest" = some f)(tB:Tryz.pinned.checked.prog.funcs[f]?=some fn) :
 false=Tryz.pinned.checked.prog.looks []/\∀ (j:Nat) t,fn.params[j]?=some t->Tryz.pinned.checked.prog.wantsStandIn t=false:=by
 obtain rfl:f=8:=Option.some.inj ((show Tryz.prog.funcNamed "nameplan/nameplanlaw30.ValidateHonest" = some 8 by kernel_rfl).symm.trans hf) |>.symm;obtain rfl:fn=Tryz.f8:=(Option.some.inj (Tryz.func8.symm.trans tB)).symm;refine⟨by kernel_rfl,λj t ht=>?_⟩;rw[Tryz.params8] at ht;have hm:=Array.mem_of_getElem? ht;simp only[List.mem_toArray,List.mem_cons,Qh,or_false] at hm;rcases hm with rfl | rfl
 ·exact (show Tryz.prog.wantsStandIn 66=false by kernel_rfl)
 ·exact (show Tryz.prog.wantsStandIn 27=false by kernel_rfl)
end Go.Proofs.YtadhigmjilijcaaGreatDoor.validateHonest
