/- The card. For every input the law returns true. -/
import Derived.Test.YtfnopgdcaanaiaaGreatDoorCards
import Derived.Test.YtfnopgdcaanaiaaGreatDoorTie
import Derived.Test.YtfnopgdcaanaiaaGreatDoorHSrvClo
import Derived.Test.YtfnopgdcaanaiaaGreatDoorS22
set_option linter.all false
namespace Go.Proofs.YtfnopgdcaanaiaaGreatDoor.historyServing
open Go.ChangeShapes Go.WideShapes Go.ChangeAt Go.RowKit
open Go.ChangeMaps (open_string shut_string)
theorem own:ownKnob Tryz.prog.godebug=none:=by kernel_rfl
theorem rows:∀ t∈Tryz.f12.params.toList,Tryz.prog.readableRec t=true/\t<Tryz.prog.types.size:=by
 rw[Tryz.params12];intro t ht;simp only[List.mem_cons,Qh,or_false] at ht;rcases ht with rfl | rfl | rfl | rfl
 ·exact⟨by kernel_rfl,of_decide_eq_true (by kernel_rfl)⟩
 ·exact⟨by kernel_rfl,of_decide_eq_true (by kernel_rfl)⟩
 ·exact⟨by kernel_rfl,of_decide_eq_true (by kernel_rfl)⟩
 ·exact⟨by kernel_rfl,of_decide_eq_true (by kernel_rfl)⟩
set_option maxRecDepth 100000 in
theorem contract(H:Type)(enc:TypeId×Value->H)(W:World)(base:Nat)(args:Array Value)(ds gs:List (DataW H))(before:List MemPlace)
 (hval:∀ (j:Nat) t v,Tryz.f12.params[j]?=some t->args[j]?=some v->Value.okWide Tryz.prog W .any base t v)
 (hW:DataW.Whole enc Tryz.prog Tryz.f12.params.toList Rows.historyServingSpec.vars false W args.toList ds gs before)
 (hz:(DataW.weightsEach Tryz.prog (Tryz.f12.params.toList++(OpenSpec.ofChange Rows.historyServingSpec).bare.plain.varTypes Tryz.prog) (ds++gs)).all (·<=reachBytes)=true) (hL:laidMetH Tryz.prog Rows.historyServingRow.laid W) :
 Calls Tryz.prog 12 args W λe W'=>∃ v,e = .returned v/\Rows.historyServingSpec.post enc Tryz.prog Tryz.f12 false true false false W args v W':=by
 have hW':=hW;obtain⟨p,q,Pw,hV,rfl,vY,sw⟩:=hW;have hA:DataW.TrodAll enc Tryz.prog W 0 (λ_=>true) true Tryz.f12.params.toList args.toList ds p:=Pw;rw[Tryz.params12] at hA hval hz;obtain⟨v0,vs0,d0,ds0,p0,q0,JI,rfl,rfl,h0,r0⟩:=trodAll_cons hA;obtain⟨v1,vs1,d1,ds1,p1,q1,rfl,rfl,rfl,h1,r1⟩:=trodAll_cons r0;obtain⟨v2,vs2,d2,ds2,p2,q2,rfl,rfl,rfl,h2,r2⟩:=trodAll_cons r1;obtain⟨v3,vs3,d3,ds3,p3,q3,rfl,rfl,rfl,h3,r3⟩:=trodAll_cons r2;obtain⟨rfl,rfl,rfl⟩:=trodAll_nil r3;obtain rfl:args = #[v0,v1,v2,v3]:=Array.toList_inj.1 JI;obtain⟨rfl,rfl⟩:=trodVars_none hV;have z0:=Ga hz (j:=0) (t:=29) (d:=d0) rfl rfl;have z1:=Ga hz (j:=1) (t:=9) (d:=d1) rfl rfl;have z2:=Ga hz (j:=2) (t:=5) (d:=d2) rfl rfl;have z3:=Ga hz (j:=3) (t:=3) (d:=d3) rfl rfl;obtain⟨cs0,x0,rfl,eG⟩:=Ys Tryz.underlying29 a1J (hval 0 29 v0 rfl rfl) h0 z0;obtain⟨nI,iR⟩:=eG;obtain⟨x1,rfl,rfl,rfl,wx1⟩:=open_string Tryz.underlying9 (hval 1 9 v1 rfl rfl) h1;have dO:x1.size<=140737488355328:=by have:=z1 x1.data.toList.length (by simp[DataW.weights]);have h2:=reachBytes_lt;rw[bj] at this;omega
 obtain⟨x2,rfl,rfl,rfl,wx2⟩:=open_int Tryz.underlying5 (hval 2 5 v2 rfl rfl) h2;have bx2:=bounds_u8 wx2;obtain⟨x3,rfl,rfl,rfl,wx3⟩:=open_int Tryz.underlying3 (hval 3 3 v3 rfl rfl) h3;have bx3:=bounds_i64 wx3;clear Pw;simp only[List.append_nil] at hW';have hI:=aEZ hL;refine (bdY cs0 x0 x1 dO x2 x3 bx2.1 (by omega) W hI nI iR).mono λe W' ⟨he,hb⟩=>?_;subst he;exact⟨_,rfl,aNY lo rows rfl hW' hb (λ_ _ _=>trodAll_cons_mk (shut_bool Tryz.underlying4 _) trodAll_mk0) rfl rfl⟩
theorem laid_met(os:Os):laidMet Tryz.prog Rows.historyServingRow.laid ((Fu os).forCall (λ_ _=>0) ⟨#[],#[.agg #[.slice none 0 0,.slice none 0 0,.string ⟨#[]⟩,.int .i64 0,.int .i64 0,.slice none 0 0,.slice none 0 0,.int .i64 0,.int .i64 0],.string ⟨#[]⟩,.int .u8 0,.int .i64 0],[]⟩).memory:=
 aMJ os _
theorem reads(os:Os){H:Type}(enc:TypeId×Value->H):∃ places,DataW.whole enc Tryz.prog ((Fu os).forCall (λ_ _=>0) ⟨#[],#[.agg #[.slice none 0 0,.slice none 0 0,.string ⟨#[]⟩,.int .i64 0,.int .i64 0,.slice none 0 0,.slice none 0 0,.int .i64 0,.int .i64 0],.string ⟨#[]⟩,.int .u8 0,.int .i64 0],[]⟩).memory Tryz.f12.params.toList Rows.historyServingSpec.vars false (#[.agg #[.slice none 0 0,.slice none 0 0,.string ⟨#[]⟩,.int .i64 0,.int .i64 0,.slice none 0 0,.slice none 0 0,.int .i64 0,.int .i64 0],.string ⟨#[]⟩,.int .u8 0,.int .i64 0]:Array Value).toList 8=some ([.agg [.nil,.nil,.agg [.lit (.string []),.lit (.int .i64 0),.lit (.int .i64 0),.nil],.nil,.lit (.int .i64 0),.lit (.int .i64 0)],.lit (.string []),.lit (.int .u8 0),.lit (.int .i64 0)],[],places):=
 ⟨[],by kernel_rfl⟩
set_option maxRecDepth 100000 in
theorem lifted(os:Os)(started:os.Started)(H:Type)(enc:TypeId×Value->H)(F:Stop.Interp) :
 ReturnsInHanded {} Tryz.checked os 12 .any ((OpenSpec.ofChange Rows.historyServingSpec).preRow enc Tryz.prog Tryz.f12 Rows.historyServingRow.domain false Rows.historyServingRow.laid) (((OpenSpec.ofChange Rows.historyServingSpec).at F).post enc Tryz.prog Tryz.f12 false true false false):=by
 obtain⟨places,hx⟩:=reads os enc;refine returnsInHanded_of_row (C:=Tryz.checked) (s:=OpenSpec.ofChange Rows.historyServingSpec) own started (by kernel_rfl) Tryz.func12
  (witness_row_at (enc:=enc) (C:=Tryz.checked) false (Fu os) #[.agg #[.slice none 0 0,.slice none 0 0,.string ⟨#[]⟩,.int .i64 0,.int .i64 0,.slice none 0 0,.slice none 0 0,.int .i64 0,.int .i64 0],.string ⟨#[]⟩,.int .u8 0,.int .i64 0] rfl (by kernel_rfl) (by kernel_rfl) (by kernel_rfl)
    (OpenSpec.preRow_of_cond 8 hx (by kernel_rfl) (λk hk=>by cases hk) (by kernel_rfl) (laid_met os))) ?_
 intro W base args ds gs before hval hW _ _ hz hL _ _;exact contract H enc W base args ds gs before hval hW hz hL
theorem said:Rows.HistoryServingSaid:=
 OpenClaim.holds_of_cond 12 Tryz.f12 rfl rfl rfl rfl rfl rfl rfl ⟨rfl,rfl,rfl,rfl,rfl⟩ rfl rfl rfl rfl rfl (by kernel_rfl) Tryz.func12 closed
  (of_decide_eq_true (by kernel_rfl)) (by unfold Func.isWrapper;first | (rw[Qb (by decide +kernel)];kernel_rfl) | (rw[Qc (by decide +kernel)];exact⟨rfl,rfl⟩))
  (λos started H enc _ F=>by rw[OpenClaim.pre_eq_preRow];exact lifted os started H enc F)
end Go.Proofs.YtfnopgdcaanaiaaGreatDoor.historyServing
