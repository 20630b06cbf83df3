/- Parts of the proof. No condition. -/
import Derived.Stop.LaidErr
import Derived.Test.YtfnopgdcaanaiaaGreatDoorT30
import Derived.Test.YtfnopgdcaanaiaaGreatDoorT31
set_option linter.all false
set_option maxRecDepth 100000
set_option maxHeartbeats 8000000
namespace Go.Proofs.YtfnopgdcaanaiaaGreatDoor
open Go.Proofs.Tryz
section
open Go.RowKit Go.Shelf
theorem XE{α:Type}{l:List α}{k:Nat}{x:α}(hx:l[k]?=some x):l.take (k+1)=l.take k ++ [x]:=by
 obtain⟨hl,he⟩:=cQ.1 hx;rw[fQ hl,he]
end
section
open Go.ChangeShapes Go.WideShapes Go.ChangeAt Go.RowKit Go.Shelf
theorem Q9:(prog.globals[1]?).map (·.type)=some 368:=by kernel_rfl
theorem UO:(Rows.laid_internal_strconv_uint64pow10:DataW Unit)=Lib.tabData .u64 Lib.pow10Tab:=by rfl
theorem Wc{W:World}{r:List (String×DataW Unit)}(h:laidMet prog (("internal/strconv.uint64pow10",Rows.laid_internal_strconv_uint64pow10)::r) W):fG W:=by
 rw[UO] at h;exact Lib.tabIs_of_head Do Q9 underlying368 underlying48 (by kernel_rfl) (by kernel_rfl) h
abbrev KA:List (String×DataW Unit):=[("math/bits.deBruijn32tab",Rows.laid_math_bits_deBruijn32tab),("math/bits.deBruijn64tab",Rows.laid_math_bits_deBruijn64tab),("internal/strconv.uint64pow10",Rows.laid_internal_strconv_uint64pow10),("nameplan/record.rules",Rows.laid_nameplan_record_rules)]
theorem TJ{W:World}(h:laidMet prog KA W):i6 W.heap.size W:=by
 have hp:=Wc (laidMet.tail (laidMet.tail h));exact⟨WR (laidMet.tail (laidMet.tail (laidMet.tail h))),hp,hp.lt⟩
def C6:DataW Unit->Value
 | .lit (.int k n)=>.int k n
 | .lit (.bool b)=>.bool b
 | .lit (.string s)=>.string ⟨s.toArray⟩
 | _=>undef
def QW:DataW Unit->List Value
 | .agg m=>m.map C6
 | d=>[C6 d]
def zl:DataW Unit->List Value
 | .agg l=>l.flatMap QW
 | d=>[C6 d]
noncomputable def AS(os:Os):World:=
 let w0:=World.holding prog os ⟨#[],#[],[]⟩
 let put (h:Array Obj) (g:Nat) (cs:Array Value):Array Obj:=h.modify g fun
  | .cells _ t frozen=>.cells cs t frozen
  | o=>o
 let h5:=put w0.heap 1 (zl Rows.laid_internal_strconv_uint64pow10).toArray
 let h6:=put h5 3 (zl Rows.laid_math_bits_deBruijn32tab).toArray
 let h7:=put h6 4 (zl Rows.laid_math_bits_deBruijn64tab).toArray
 let h8:=put h7 0 (zl Rows.laid_nameplan_record_rules).toArray
 { w0 with heap:=h8 }
theorem UN(os:Os)(args:Array Value):laidMet prog KA ((AS os).forCall (λ_ _=>0) ⟨#[],args,[]⟩).memory:=
 laidMet_of_run' 8 (by kernel_rfl) (by kernel_rfl)
end
end Go.Proofs.YtfnopgdcaanaiaaGreatDoor
