/- The card. For every input the law returns true. -/
import Derived.Test.YtfnopgdcaanaiaaGreatDoorCards
import Derived.Test.YtfnopgdcaanaiaaGreatDoorTie
import Derived.Test.YtfnopgdcaanaiaaGreatDoorHoLaterClo
import Derived.Test.YtfnopgdcaanaiaaGreatDoorH43
import Derived.Test.YtfnopgdcaanaiaaGreatDoorH50
set_option linter.all false
namespace Go.Proofs.YtfnopgdcaanaiaaGreatDoor.holdsLater
open Go.ChangeShapes Go.WideShapes Go.ChangeAt Go.RowKit
open Go.ChangeMaps (open_string shut_string)
theorem own:ownKnob Tryz.prog.godebug=none:=by kernel_rfl
theorem rows:∀ t∈Tryz.f5.params.toList,Tryz.prog.readableRec t=true/\t<Tryz.prog.types.size:=by
 rw[Tryz.params5];intro t ht;simp only[List.mem_cons,Qh,or_false] at ht;rcases ht with rfl | rfl | rfl | rfl
 ·exact⟨by kernel_rfl,of_decide_eq_true (by kernel_rfl)⟩
 ·exact⟨by kernel_rfl,of_decide_eq_true (by kernel_rfl)⟩
 ·exact⟨by kernel_rfl,of_decide_eq_true (by kernel_rfl)⟩
 ·exact⟨by kernel_rfl,of_decide_eq_true (by kernel_rfl)⟩
set_option maxRecDepth 100000 in
theorem contract(H:Type)(enc:TypeId×Value->H)(W:World)(base:Nat)(args:Array Value)(ds gs:List (DataW H))(before:List MemPlace)
 (hval:∀ (j:Nat) t v,Tryz.f5.params[j]?=some t->args[j]?=some v->Value.okWide Tryz.prog W .any base t v)
 (hW:DataW.Whole enc Tryz.prog Tryz.f5.params.toList Rows.holdsLaterSpec.vars false W args.toList ds gs before)
 (hz:(DataW.weightsEach Tryz.prog (Tryz.f5.params.toList++(OpenSpec.ofChange Rows.holdsLaterSpec).bare.plain.varTypes Tryz.prog) (ds++gs)).all (·<=reachBytes)=true) (hL:laidMetH Tryz.prog Rows.holdsLaterRow.laid W) :
 Calls Tryz.prog 5 args W λe W'=>∃ v,e = .returned v/\Rows.holdsLaterSpec.post enc Tryz.prog Tryz.f5 false true false false W args v W':=by
 have hW':=hW;obtain⟨p,q,xN,hV,rfl,q9,oz⟩:=hW;have hA:DataW.TrodAll enc Tryz.prog W 0 (λ_=>true) true Tryz.f5.params.toList args.toList ds p:=xN;rw[Tryz.params5] at hA hval hz;obtain⟨v0,vs0,d0,ds0,p0,q0,yc,rfl,rfl,h0,r0⟩:=trodAll_cons hA;obtain⟨v1,vs1,d1,ds1,p1,q1,rfl,rfl,rfl,h1,r1⟩:=trodAll_cons r0;obtain⟨v2,vs2,d2,ds2,p2,q2,rfl,rfl,rfl,h2,r2⟩:=trodAll_cons r1;obtain⟨v3,vs3,d3,ds3,p3,q3,rfl,rfl,rfl,h3,r3⟩:=trodAll_cons r2;obtain⟨rfl,rfl,rfl⟩:=trodAll_nil r3;obtain rfl:args = #[v0,v1,v2,v3]:=Array.toList_inj.1 yc;obtain⟨rfl,rfl⟩:=trodVars_none hV;have z0:=tT hz (j:=0) (t:=29) (d:=d0) rfl rfl;have z1:=tT hz (j:=1) (t:=31) (d:=d1) rfl rfl;have z2:=tT hz (j:=2) (t:=3) (d:=d2) rfl rfl;have z3:=tT hz (j:=3) (t:=3) (d:=d3) rfl rfl;obtain⟨cs0,x0,rfl,dX⟩:=AK Tryz.underlying29 M3 (hval 0 29 v0 rfl rfl) h0 z0;obtain⟨lX,fP⟩:=dX;obtain⟨cs1,x1,rfl,cU⟩:=AK Tryz.underlying31 M4 (hval 1 31 v1 rfl rfl) h1 z1;obtain⟨⟨qq1,qt1⟩,kE⟩:∃ y,x1=y:=⟨_,rfl⟩;subst kE;obtain⟨FK,rfl⟩:=cU;obtain⟨x2,rfl,rfl,rfl,wx2⟩:=open_int Tryz.underlying3 (hval 2 3 v2 rfl rfl) h2;have bx2:=bounds_i64 wx2;obtain⟨x3,rfl,rfl,rfl,wx3⟩:=open_int Tryz.underlying3 (hval 3 3 v3 rfl rfl) h3;have bx3:=bounds_i64 wx3;clear xN;simp only[List.append_nil] at hW';have hI:=LH hL;refine (Wm cs0 x0 qq1 FK qt1 x2 x3 W hI lX fP).mono λe W' ⟨he,hb⟩=>?_;subst he;exact⟨_,rfl,Ml lo rows rfl hW' hb (λ_ _ _=>trodAll_cons_mk (shut_bool Tryz.underlying4 _) trodAll_mk0) rfl rfl⟩
theorem laid_met(os:Os):laidMet Tryz.prog Rows.holdsLaterRow.laid ((tH os).forCall (λ_ _=>0) ⟨#[],#[.agg #[.slice none 0 0,.slice none 0 0,.string ⟨#[]⟩,.int .i64 0,.int .i64 0,.slice none 0 0,.slice none 0 0,.int .i64 0,.int .i64 0],.agg #[.string ⟨#[]⟩,.int .i64 0],.int .i64 0,.int .i64 0],[]⟩).memory:=
 Mj os _
theorem reads(os:Os){H:Type}(enc:TypeId×Value->H):∃ places,DataW.whole enc Tryz.prog ((tH os).forCall (λ_ _=>0) ⟨#[],#[.agg #[.slice none 0 0,.slice none 0 0,.string ⟨#[]⟩,.int .i64 0,.int .i64 0,.slice none 0 0,.slice none 0 0,.int .i64 0,.int .i64 0],.agg #[.string ⟨#[]⟩,.int .i64 0],.int .i64 0,.int .i64 0],[]⟩).memory Tryz.f5.params.toList Rows.holdsLaterSpec.vars false (#[.agg #[.slice none 0 0,.slice none 0 0,.string ⟨#[]⟩,.int .i64 0,.int .i64 0,.slice none 0 0,.slice none 0 0,.int .i64 0,.int .i64 0],.agg #[.string ⟨#[]⟩,.int .i64 0],.int .i64 0,.int .i64 0]:Array Value).toList 8=some ([.agg [.nil,.nil,.agg [.lit (.string []),.lit (.int .i64 0),.lit (.int .i64 0),.nil],.nil,.lit (.int .i64 0),.lit (.int .i64 0)],.agg [.lit (.string []),.lit (.int .i64 0)],.lit (.int .i64 0),.lit (.int .i64 0)],[],places):=
 ⟨[],by kernel_rfl⟩
set_option maxRecDepth 100000 in
theorem lifted(os:Os)(started:os.Started)(H:Type)(enc:TypeId×Value->H)(F:Stop.Interp) :
 ReturnsInHanded {} Tryz.checked os 5 .any ((OpenSpec.ofChange Rows.holdsLaterSpec).preRow enc Tryz.prog Tryz.f5 Rows.holdsLaterRow.domain false Rows.holdsLaterRow.laid) (((OpenSpec.ofChange Rows.holdsLaterSpec).at F).post enc Tryz.prog Tryz.f5 false true false false):=by
 obtain⟨places,hx⟩:=reads os enc;refine returnsInHanded_of_row (C:=Tryz.checked) (s:=OpenSpec.ofChange Rows.holdsLaterSpec) own started (by kernel_rfl) Tryz.func5
  (witness_row_at (enc:=enc) (C:=Tryz.checked) false (tH os) #[.agg #[.slice none 0 0,.slice none 0 0,.string ⟨#[]⟩,.int .i64 0,.int .i64 0,.slice none 0 0,.slice none 0 0,.int .i64 0,.int .i64 0],.agg #[.string ⟨#[]⟩,.int .i64 0],.int .i64 0,.int .i64 0] rfl (by kernel_rfl) (by kernel_rfl) (by kernel_rfl)
    (OpenSpec.preRow_of_cond 8 hx (by kernel_rfl) (λk hk=>by cases hk) (by kernel_rfl) (laid_met os))) ?_
 intro W base args ds gs before hval hW _ _ hz hL _ _;exact contract H enc W base args ds gs before hval hW hz hL
theorem said:Rows.HoldsLaterSaid:=
 OpenClaim.holds_of_cond 5 Tryz.f5 rfl rfl rfl rfl rfl rfl rfl ⟨rfl,rfl,rfl,rfl,rfl⟩ rfl rfl rfl rfl rfl (by kernel_rfl) Tryz.func5 closed
  (of_decide_eq_true (by kernel_rfl)) (by unfold Func.isWrapper;first | (rw[Qb (by decide +kernel)];kernel_rfl) | (rw[Qc (by decide +kernel)];exact⟨rfl,rfl⟩))
  (λos started H enc _ F=>by rw[OpenClaim.pre_eq_preRow];exact lifted os started H enc F)
theorem plain(f:FuncId)(fn:Func)(hf:Tryz.pinned.checked.prog.funcNamed "nameplan/nameplanlaw23.HoldsLater" = some f)(im:Tryz.pinned.checked.prog.funcs[f]?=some fn) :
 false=Tryz.pinned.checked.prog.looks []/\∀ (j:Nat) t,fn.params[j]?=some t->Tryz.pinned.checked.prog.wantsStandIn t=false:=by
 obtain rfl:f=5:=Option.some.inj ((show Tryz.prog.funcNamed "nameplan/nameplanlaw23.HoldsLater" = some 5 by kernel_rfl).symm.trans hf) |>.symm;obtain rfl:fn=Tryz.f5:=(Option.some.inj (Tryz.func5.symm.trans im)).symm;refine⟨by kernel_rfl,λj t ht=>?_⟩;rw[Tryz.params5] at ht;have hm:=Array.mem_of_getElem? ht;simp only[List.mem_toArray,List.mem_cons,Qh,or_false] at hm;rcases hm with rfl | rfl | rfl | rfl
 ·exact (show Tryz.prog.wantsStandIn 29=false by kernel_rfl)
 ·exact (show Tryz.prog.wantsStandIn 31=false by kernel_rfl)
 ·exact (show Tryz.prog.wantsStandIn 3=false by kernel_rfl)
 ·exact (show Tryz.prog.wantsStandIn 3=false by kernel_rfl)
end Go.Proofs.YtfnopgdcaanaiaaGreatDoor.holdsLater
