/- Parts of the proof. No condition. -/
import Derived.Stop.LaidErr
import Derived.Test.YtfnopgdcaanaiaaGreatDoorM28
set_option linter.all false
set_option maxRecDepth 100000
set_option maxHeartbeats 8000000
namespace Go.Proofs.YtfnopgdcaanaiaaGreatDoor
open Go.Proofs.Tryz
section
open Go.RowKit
theorem aDX(n:ByteArray)(hn:n.size<=140737488355328)(ty:Int)(w:World) :
 Calls prog 15 #[.agg #[.string n,.int .i64 ty]] w λe w'=>e = .returned (.bool (Np.aD n.data.toList&&(decide (1<=ty)&&decide (ty<=8))))/\Below w.heap.size w w':=by
 obtain⟨X,hX⟩:=acJ w.heap.size;obtain⟨w1,ah⟩:=acJ (w.alloc (.cells #[.string n,.int .i64 ty] 31));have hb:Below w.heap.size w w1:=by rw[<-ah];exact (vQ _ _).alloc (bQ _) _
 have bd:w1.heap.size=X+1:=by rw[<-ah,<-hX];simp
 have av:=jq hb;have k0:w1.cell? ⟨X,0,none⟩=some (.string n):=by rw[<-ah,<-hX];simp[go_sem]
 have k1:w1.cell? ⟨X,1,none⟩=some (.int .i64 ty):=by rw[<-ah,<-hX];simp[go_sem]
 clear hb;go_enter func15,ntmps15;go_wp2_with fail
 try clear ah
 refine (tk n hn w1).mono ?_;rintro e w2 ⟨rfl,hb⟩;replace k1:=aaJ hb k1;have ai:=acZ av hb;clear hb k0;obtain⟨r,hr⟩:=acJ (Np.aD n.data.toList);have HR:=jq hr;rw[hr];clear hr
 cases r with
 | false=>
  go_wp2_with fail;exact bodyPost_ret (v:=.bool false) (by simp[results,results15,go_sem]) rfl ⟨by rw[HR.out];rfl,ai.out⟩
 | true=>
  by_cases h1:1<=ty
  ·have jJ:decide (1<=ty)=true:=uQ h1;go_wp2_with fail;exact bodyPost_ret (v:=.bool (decide (ty<=8))) (by simp[results,results15,go_sem]) rfl ⟨by rw[HR.out,jJ];rfl,ai.out⟩
  ·have jJ:decide (1<=ty)=false:=tQ h1;go_wp2_with fail;exact bodyPost_ret (v:=.bool false) (by simp[results,results15,go_sem]) rfl ⟨by rw[HR.out,jJ];rfl,ai.out⟩
theorem aDY(n:ByteArray)(hn:n.size<=140737488355328)(ty:Int)(w:World) :
 Calls prog 15 #[.agg #[.string n,.int .i64 ty]] w (a0X w.heap.size w (.bool (Np.yes (Np.QOk n.data.toList ty)))):=
 (aDX n hn ty w).mono λe w' ⟨he,hb⟩=>⟨by rw[he];congr 2;rw[Bool.eq_iff_iff,Np.fq];unfold Np.QOk;simp only[Bool.and_eq_true,Qa],hb⟩
theorem R3(t:Int)(w:World):Calls prog 16 #[.int .i64 t] w (a0X w.heap.size w (.bool (Np.yes (Np.wd t)))):=by
 obtain⟨r,hr⟩:=acJ (Np.yes (Np.wd t));have HR:Hid ((decide (0<=t)&&decide (t<=20000000))=r):=jq (by rw[Bool.eq_iff_iff,<-hr,Np.fq];unfold Np.wd;simp only[Bool.and_eq_true,Qa]);rw[hr];clear hr;by_cases h1:0<=t
 ·have jJ:decide (0<=t)=true:=uQ h1;go_enter func16,ntmps16;go_wp2_with fail;exact bodyPost_ret (v:=.bool (decide (t<=20000000))) (by simp[results,results16,go_sem]) rfl ⟨by rw[<-HR.out,jJ];rfl,vQ _ _⟩
 ·have jJ:decide (0<=t)=false:=tQ h1;go_enter func16,ntmps16;go_wp2_with fail;exact bodyPost_ret (v:=.bool false) (by simp[results,results16,go_sem]) rfl ⟨by rw[<-HR.out,jJ];rfl,vQ _ _⟩
end
section
open Go.ChangeShapes Go.WideShapes Go.ChangeAt Go.RowKit Go.Shelf
theorem XF:(prog.globals[1]?).map (·.type)=some 368:=by kernel_rfl
theorem aiX:(Rows.laid_internal_strconv_uint64pow10:DataW Unit)=Lib.tabData .u64 Lib.pow10Tab:=by rfl
theorem asJ{W:World}{r:List (String×DataW Unit)}(h:laidMet prog (("internal/strconv.uint64pow10",Rows.laid_internal_strconv_uint64pow10)::r) W):go W:=by
 rw[aiX] at h;exact Lib.tabIs_of_head I2 XF underlying368 underlying48 (by kernel_rfl) (by kernel_rfl) h
abbrev Re:List (String×DataW Unit):=[("math/bits.deBruijn32tab",Rows.laid_math_bits_deBruijn32tab),("math/bits.deBruijn64tab",Rows.laid_math_bits_deBruijn64tab),("internal/strconv.uint64pow10",Rows.laid_internal_strconv_uint64pow10),("nameplan/record.rules",Rows.laid_nameplan_record_rules)]
theorem Z8{W:World}(h:laidMet prog Re W):jF W.heap.size W:=by
 have hp:=asJ (laidMet.tail (laidMet.tail h));exact⟨aGY (laidMet.tail (laidMet.tail (laidMet.tail h))),hp,hp.lt⟩
def IN:DataW Unit->Value
 | .lit (.int k n)=>.int k n
 | .lit (.bool b)=>.bool b
 | .lit (.string s)=>.string ⟨s.toArray⟩
 | _=>undef
def Xt:DataW Unit->List Value
 | .agg m=>m.map IN
 | d=>[IN d]
def Ed:DataW Unit->List Value
 | .agg l=>l.flatMap Xt
 | d=>[IN d]
noncomputable def Fp(os:Os):World:=
 let w0:=World.holding prog os ⟨#[],#[],[]⟩
 let put (h:Array Obj) (g:Nat) (cs:Array Value):Array Obj:=h.modify g fun
  | .cells _ t frozen=>.cells cs t frozen
  | o=>o
 let h5:=put w0.heap 1 (Ed Rows.laid_internal_strconv_uint64pow10).toArray
 let h6:=put h5 3 (Ed Rows.laid_math_bits_deBruijn32tab).toArray
 let h7:=put h6 4 (Ed Rows.laid_math_bits_deBruijn64tab).toArray
 let h8:=put h7 0 (Ed Rows.laid_nameplan_record_rules).toArray
 { w0 with heap:=h8 }
theorem aiK(os:Os)(args:Array Value):laidMet prog Re ((Fp os).forCall (λ_ _=>0) ⟨#[],args,[]⟩).memory:=
 laidMet_of_run' 8 (by kernel_rfl) (by kernel_rfl)
end
end Go.Proofs.YtfnopgdcaanaiaaGreatDoor
