/- The card. For every input the law returns true. -/
import Derived.Test.YtfnopgdcaanaiaaGreatDoorCards
import Derived.Test.YtfnopgdcaanaiaaGreatDoorTie
import Derived.Test.YtfnopgdcaanaiaaGreatDoorRgTimesClo
import Derived.Test.YtfnopgdcaanaiaaGreatDoorT38
set_option linter.all false
namespace Go.Proofs.YtfnopgdcaanaiaaGreatDoor.resignTimes
open Go.ChangeShapes Go.WideShapes Go.ChangeAt Go.RowKit
open Go.ChangeMaps (open_string shut_string)
theorem own:ownKnob Tryz.prog.godebug=none:=by kernel_rfl
theorem rows:∀ t∈Tryz.f11.params.toList,Tryz.prog.readableRec t=true/\t<Tryz.prog.types.size:=by
 rw[Tryz.params11];intro t ht;simp only[List.mem_cons,Qh,or_false] at ht;rcases ht with rfl | rfl | rfl | rfl | rfl | rfl
 ·exact⟨by kernel_rfl,of_decide_eq_true (by kernel_rfl)⟩
 ·exact⟨by kernel_rfl,of_decide_eq_true (by kernel_rfl)⟩
 ·exact⟨by kernel_rfl,of_decide_eq_true (by kernel_rfl)⟩
 ·exact⟨by kernel_rfl,of_decide_eq_true (by kernel_rfl)⟩
 ·exact⟨by kernel_rfl,of_decide_eq_true (by kernel_rfl)⟩
 ·exact⟨by kernel_rfl,of_decide_eq_true (by kernel_rfl)⟩
set_option maxRecDepth 100000 in
theorem contract(H:Type)(enc:TypeId×Value->H)(W:World)(base:Nat)(args:Array Value)(ds gs:List (DataW H))(before:List MemPlace)
 (hval:∀ (j:Nat) t v,Tryz.f11.params[j]?=some t->args[j]?=some v->Value.okWide Tryz.prog W .any base t v)
 (hW:DataW.Whole enc Tryz.prog Tryz.f11.params.toList Rows.resignTimesSpec.vars false W args.toList ds gs before)
 (hz:(DataW.weightsEach Tryz.prog (Tryz.f11.params.toList++(OpenSpec.ofChange Rows.resignTimesSpec).bare.plain.varTypes Tryz.prog) (ds++gs)).all (·<=reachBytes)=true) (hL:laidMetH Tryz.prog Rows.resignTimesRow.laid W) :
 Calls Tryz.prog 11 args W λe W'=>∃ v,e = .returned v/\Rows.resignTimesSpec.post enc Tryz.prog Tryz.f11 false true false false W args v W':=by
 have hW':=hW;obtain⟨p,q,IH,hV,rfl,qN,Au⟩:=hW;have hA:DataW.TrodAll enc Tryz.prog W 0 (λ_=>true) true Tryz.f11.params.toList args.toList ds p:=IH;rw[Tryz.params11] at hA hval hz;obtain⟨v0,vs0,d0,ds0,p0,q0,DS,rfl,rfl,h0,r0⟩:=trodAll_cons hA;obtain⟨v1,vs1,d1,ds1,p1,q1,rfl,rfl,rfl,h1,r1⟩:=trodAll_cons r0;obtain⟨v2,vs2,d2,ds2,p2,q2,rfl,rfl,rfl,h2,r2⟩:=trodAll_cons r1;obtain⟨v3,vs3,d3,ds3,p3,q3,rfl,rfl,rfl,h3,r3⟩:=trodAll_cons r2;obtain⟨v4,vs4,d4,ds4,p4,q4,rfl,rfl,rfl,h4,r4⟩:=trodAll_cons r3;obtain⟨v5,vs5,d5,ds5,p5,q5,rfl,rfl,rfl,h5,r5⟩:=trodAll_cons r4;obtain⟨rfl,rfl,rfl⟩:=trodAll_nil r5;obtain rfl:args = #[v0,v1,v2,v3,v4,v5]:=Array.toList_inj.1 DS;obtain⟨rfl,rfl⟩:=trodVars_none hV;have z0:=tD hz (j:=0) (t:=3) (d:=d0) rfl rfl;have z1:=tD hz (j:=1) (t:=3) (d:=d1) rfl rfl;have z2:=tD hz (j:=2) (t:=3) (d:=d2) rfl rfl;have z3:=tD hz (j:=3) (t:=3) (d:=d3) rfl rfl;have z4:=tD hz (j:=4) (t:=3) (d:=d4) rfl rfl;have z5:=tD hz (j:=5) (t:=5) (d:=d5) rfl rfl;obtain⟨x0,rfl,rfl,rfl,wx0⟩:=open_int Tryz.underlying3 (hval 0 3 v0 rfl rfl) h0;have bx0:=bounds_i64 wx0;obtain⟨x1,rfl,rfl,rfl,wx1⟩:=open_int Tryz.underlying3 (hval 1 3 v1 rfl rfl) h1;have bx1:=bounds_i64 wx1;obtain⟨x2,rfl,rfl,rfl,wx2⟩:=open_int Tryz.underlying3 (hval 2 3 v2 rfl rfl) h2;have bx2:=bounds_i64 wx2;obtain⟨x3,rfl,rfl,rfl,wx3⟩:=open_int Tryz.underlying3 (hval 3 3 v3 rfl rfl) h3;have bx3:=bounds_i64 wx3;obtain⟨x4,rfl,rfl,rfl,wx4⟩:=open_int Tryz.underlying3 (hval 4 3 v4 rfl rfl) h4;have bx4:=bounds_i64 wx4;obtain⟨x5,rfl,rfl,rfl,wx5⟩:=open_int Tryz.underlying5 (hval 5 5 v5 rfl rfl) h5;have bx5:=bounds_u8 wx5;clear IH;simp only[List.append_nil] at hW';have hI:=TJ hL;refine (XI x0 x1 x2 x3 x4 x5 (by omega) W hI).mono λe W' ⟨he,hb⟩=>?_;subst he;exact⟨_,rfl,UX lo rows rfl hW' hb (λ_ _ _=>trodAll_cons_mk (shut_bool Tryz.underlying4 _) trodAll_mk0) rfl rfl⟩
theorem laid_met(os:Os):laidMet Tryz.prog Rows.resignTimesRow.laid ((AS os).forCall (λ_ _=>0) ⟨#[],#[.int .i64 0,.int .i64 0,.int .i64 0,.int .i64 0,.int .i64 0,.int .u8 0],[]⟩).memory:=
 UN os _
theorem reads(os:Os){H:Type}(enc:TypeId×Value->H):∃ places,DataW.whole enc Tryz.prog ((AS os).forCall (λ_ _=>0) ⟨#[],#[.int .i64 0,.int .i64 0,.int .i64 0,.int .i64 0,.int .i64 0,.int .u8 0],[]⟩).memory Tryz.f11.params.toList Rows.resignTimesSpec.vars false (#[.int .i64 0,.int .i64 0,.int .i64 0,.int .i64 0,.int .i64 0,.int .u8 0]:Array Value).toList 8=some ([.lit (.int .i64 0),.lit (.int .i64 0),.lit (.int .i64 0),.lit (.int .i64 0),.lit (.int .i64 0),.lit (.int .u8 0)],[],places):=
 ⟨[],by kernel_rfl⟩
set_option maxRecDepth 100000 in
theorem lifted(os:Os)(started:os.Started)(H:Type)(enc:TypeId×Value->H)(F:Stop.Interp) :
 ReturnsInHanded {} Tryz.checked os 11 .any ((OpenSpec.ofChange Rows.resignTimesSpec).preRow enc Tryz.prog Tryz.f11 Rows.resignTimesRow.domain false Rows.resignTimesRow.laid) (((OpenSpec.ofChange Rows.resignTimesSpec).at F).post enc Tryz.prog Tryz.f11 false true false false):=by
 obtain⟨places,hx⟩:=reads os enc;refine returnsInHanded_of_row (C:=Tryz.checked) (s:=OpenSpec.ofChange Rows.resignTimesSpec) own started (by kernel_rfl) Tryz.func11
  (witness_row_at (enc:=enc) (C:=Tryz.checked) false (AS os) #[.int .i64 0,.int .i64 0,.int .i64 0,.int .i64 0,.int .i64 0,.int .u8 0] rfl (by kernel_rfl) (by kernel_rfl) (by kernel_rfl)
    (OpenSpec.preRow_of_cond 8 hx (by kernel_rfl) (λk hk=>by cases hk) (by kernel_rfl) (laid_met os))) ?_
 intro W base args ds gs before hval hW _ _ hz hL _ _;exact contract H enc W base args ds gs before hval hW hz hL
theorem said:Rows.ResignTimesSaid:=
 OpenClaim.holds_of_cond 11 Tryz.f11 rfl rfl rfl rfl rfl rfl rfl ⟨rfl,rfl,rfl,rfl,rfl⟩ rfl rfl rfl rfl rfl (by kernel_rfl) Tryz.func11 closed
  (of_decide_eq_true (by kernel_rfl)) (by unfold Func.isWrapper;first | (rw[Qb (by decide +kernel)];kernel_rfl) | (rw[Qc (by decide +kernel)];exact⟨rfl,rfl⟩))
  (λos started H enc _ F=>by rw[OpenClaim.pre_eq_preRow];exact lifted os started H enc F)
end Go.Proofs.YtfnopgdcaanaiaaGreatDoor.resignTimes
