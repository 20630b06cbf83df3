/- The card. For every input the law returns true. -/
import Derived.Test.YtadhigmjilijcaaGreatDoorCards
import Derived.Test.YtadhigmjilijcaaGreatDoorTie
import Derived.Test.YtadhigmjilijcaaGreatDoorVSecClo
import Derived.Test.YtadhigmjilijcaaGreatDoorA30
set_option linter.all false
namespace Go.Proofs.YtadhigmjilijcaaGreatDoor.validateSecure
open Go.ChangeShapes Go.WideShapes Go.ChangeAt Go.RowKit
open Go.ChangeMaps (open_string shut_string)
theorem own:ownKnob Tryz.prog.godebug=none:=by kernel_rfl
theorem rows:∀ t∈Tryz.f4.params.toList,Tryz.prog.readableRec t=true/\t<Tryz.prog.types.size:=by
 rw[Tryz.params4];intro t ht;simp only[List.mem_cons,Qh,or_false] at ht;rcases ht with rfl | rfl | rfl | rfl | rfl
 ·exact⟨by kernel_rfl,of_decide_eq_true (by kernel_rfl)⟩
 ·exact⟨by kernel_rfl,of_decide_eq_true (by kernel_rfl)⟩
 ·exact⟨by kernel_rfl,of_decide_eq_true (by kernel_rfl)⟩
 ·exact⟨by kernel_rfl,of_decide_eq_true (by kernel_rfl)⟩
 ·exact⟨by kernel_rfl,of_decide_eq_true (by kernel_rfl)⟩
set_option maxRecDepth 100000 in
theorem contract(H:Type)(enc:TypeId×Value->H)(W:World)(base:Nat)(args:Array Value)(ds gs:List (DataW H))(before:List MemPlace)
 (hval:∀ (j:Nat) t v,Tryz.f4.params[j]?=some t->args[j]?=some v->Value.okWide Tryz.prog W .any base t v)
 (hW:DataW.Whole enc Tryz.prog Tryz.f4.params.toList Rows.validateSecureSpec.vars false W args.toList ds gs before)
 (hz:(DataW.weightsEach Tryz.prog (Tryz.f4.params.toList++(OpenSpec.ofChange Rows.validateSecureSpec).bare.plain.varTypes Tryz.prog) (ds++gs)).all (·<=reachBytes)=true) (hL:laidMetH Tryz.prog Rows.validateSecureRow.laid W) :
 Calls Tryz.prog 4 args W λe W'=>∃ v,e = .returned v/\Rows.validateSecureSpec.post enc Tryz.prog Tryz.f4 false true false false W args v W':=by
 have hW':=hW;obtain⟨p,q,jU,hV,rfl,wO,OC⟩:=hW;have hA:DataW.TrodAll enc Tryz.prog W 0 (λ_=>true) true Tryz.f4.params.toList args.toList ds p:=jU;rw[Tryz.params4] at hA hval hz;obtain⟨v0,vs0,d0,ds0,p0,q0,uu,rfl,rfl,h0,r0⟩:=trodAll_cons hA;obtain⟨v1,vs1,d1,ds1,p1,q1,rfl,rfl,rfl,h1,r1⟩:=trodAll_cons r0;obtain⟨v2,vs2,d2,ds2,p2,q2,rfl,rfl,rfl,h2,r2⟩:=trodAll_cons r1;obtain⟨v3,vs3,d3,ds3,p3,q3,rfl,rfl,rfl,h3,r3⟩:=trodAll_cons r2;obtain⟨v4,vs4,d4,ds4,p4,q4,rfl,rfl,rfl,h4,r4⟩:=trodAll_cons r3;obtain⟨rfl,rfl,rfl⟩:=trodAll_nil r4;obtain rfl:args = #[v0,v1,v2,v3,v4]:=Array.toList_inj.1 uu;obtain⟨rfl,rfl⟩:=trodVars_none hV;have z0:=nd hz (j:=0) (t:=22) (d:=d0) rfl rfl;have z1:=nd hz (j:=1) (t:=25) (d:=d1) rfl rfl;have z2:=nd hz (j:=2) (t:=27) (d:=d2) rfl rfl;have z3:=nd hz (j:=3) (t:=3) (d:=d3) rfl rfl;have z4:=nd hz (j:=4) (t:=3) (d:=d4) rfl rfl;obtain⟨x0,eO⟩:=LX Tryz.underlying22 In (hval 0 22 v0 rfl rfl) h0 z0;obtain⟨cs1,x1,rfl,d6⟩:=vX Tryz.underlying25 Im (hval 1 25 v1 rfl rfl) h1 z1;obtain⟨s1,u1,bp,bx,fw,rfl⟩:=d6;obtain⟨cs2,x2,rfl,my⟩:=vX Tryz.underlying27 Il (hval 2 27 v2 rfl rfl) h2 z2;obtain⟨⟨qq2,qt2⟩,fH⟩:∃ y,x2=y:=⟨_,rfl⟩;subst fH;obtain⟨Ae,rfl⟩:=my;obtain⟨x3,rfl,rfl,rfl,wx3⟩:=open_int Tryz.underlying3 (hval 3 3 v3 rfl rfl) h3;have bx3:=bounds_i64 wx3;obtain⟨x4,rfl,rfl,rfl,wx4⟩:=open_int Tryz.underlying3 (hval 4 3 v4 rfl rfl) h4;have bx4:=bounds_i64 wx4;clear jU;simp only[List.append_nil] at hW';have hR:bL W W.heap.size:=Iu hL;refine (aiY v0 x0 s1 qq2 x1 bp bx u1 qt2 x3 x4 Ae W hR eO fw).mono λe W' ⟨he,hb⟩=>?_;subst he;exact⟨_,rfl,Hx lo rows rfl hW' hb (λ_ _ _=>trodAll_cons_mk (shut_bool Tryz.underlying4 _) trodAll_mk0) rfl rfl⟩
noncomputable def oV(os:Os):World:=
 { World.holding Tryz.prog os ⟨#[],#[],[]⟩ with heap:=(World.holding Tryz.prog os ⟨#[],#[],[]⟩).heap.modify 0 fun
  | .cells _ t frozen=>.cells #[.int .i64 0,.int .i64 0,.int .i64 0,.int .i64 0,.int .i64 0,.bool false,.bool false,.bool false,.int .i64 0,.int .i64 1,.int .i64 1000000,.int .i64 0,.int .i64 0,.bool false,.bool false,.bool true,.int .i64 1,.int .i64 0,.int .i64 0,.int .i64 0,.int .i64 0,.bool false,.bool false,.bool false,.int .i64 1,.int .i64 0,.int .i64 0,.int .i64 0,.int .i64 0,.bool false,.bool true,.bool false,.int .i64 0,.int .i64 0,.int .i64 65535,.int .i64 0,.int .i64 100000,.bool false,.bool true,.bool false,.int .i64 3,.int .i64 0,.int .i64 0,.int .i64 0,.int .i64 0,.bool false,.bool false,.bool true,.int .i64 0,.int .i64 1,.int .i64 1000000,.int .i64 1,.int .i64 3,.bool false,.bool false,.bool false,.int .i64 0,.int .i64 1,.int .i64 1000000,.int .i64 1,.int .i64 3,.bool false,.bool false,.bool false,.int .i64 2,.int .i64 2,.int .i64 510,.int .i64 0,.int .i64 0,.bool true,.bool false,.bool true] t frozen
  | o=>o }
theorem laid_met(os:Os):laidMet Tryz.prog Rows.validateSecureRow.laid ((oV os).forCall (λ_ _=>0) ⟨#[],#[.slice none 0 0,.agg #[.string ⟨#[]⟩,.int .i64 0,.int .i64 0,.slice none 0 0],.agg #[.string ⟨#[]⟩,.int .i64 0],.int .i64 0,.int .i64 0],[]⟩).memory:=
 laidMet_of_run' 8 (by kernel_rfl) (by kernel_rfl)
theorem reads(os:Os){H:Type}(enc:TypeId×Value->H):∃ places,DataW.whole enc Tryz.prog ((oV os).forCall (λ_ _=>0) ⟨#[],#[.slice none 0 0,.agg #[.string ⟨#[]⟩,.int .i64 0,.int .i64 0,.slice none 0 0],.agg #[.string ⟨#[]⟩,.int .i64 0],.int .i64 0,.int .i64 0],[]⟩).memory Tryz.f4.params.toList Rows.validateSecureSpec.vars false (#[.slice none 0 0,.agg #[.string ⟨#[]⟩,.int .i64 0,.int .i64 0,.slice none 0 0],.agg #[.string ⟨#[]⟩,.int .i64 0],.int .i64 0,.int .i64 0]:Array Value).toList 8=some ([.nil,.agg [.lit (.string []),.lit (.int .i64 0),.lit (.int .i64 0),.nil],.agg [.lit (.string []),.lit (.int .i64 0)],.lit (.int .i64 0),.lit (.int .i64 0)],[],places):=
 ⟨[],by kernel_rfl⟩
set_option maxRecDepth 100000 in
theorem lifted(os:Os)(started:os.Started)(H:Type)(enc:TypeId×Value->H)(F:Stop.Interp) :
 ReturnsInHanded {} Tryz.checked os 4 .any ((OpenSpec.ofChange Rows.validateSecureSpec).preRow enc Tryz.prog Tryz.f4 Rows.validateSecureRow.domain false Rows.validateSecureRow.laid) (((OpenSpec.ofChange Rows.validateSecureSpec).at F).post enc Tryz.prog Tryz.f4 false true false false):=by
 obtain⟨places,hx⟩:=reads os enc;refine returnsInHanded_of_row (C:=Tryz.checked) (s:=OpenSpec.ofChange Rows.validateSecureSpec) own started (by kernel_rfl) Tryz.func4
  (witness_row_at (enc:=enc) (C:=Tryz.checked) false (oV os) #[.slice none 0 0,.agg #[.string ⟨#[]⟩,.int .i64 0,.int .i64 0,.slice none 0 0],.agg #[.string ⟨#[]⟩,.int .i64 0],.int .i64 0,.int .i64 0] rfl (by kernel_rfl) (by kernel_rfl) (by kernel_rfl)
    (OpenSpec.preRow_of_cond 8 hx (by kernel_rfl) (λk hk=>by cases hk) (by kernel_rfl) (laid_met os))) ?_
 intro W base args ds gs before hval hW _ _ hz hL _ _;exact contract H enc W base args ds gs before hval hW hz hL
theorem said:Rows.ValidateSecureSaid:=
 OpenClaim.holds_of_cond 4 Tryz.f4 rfl rfl rfl rfl rfl rfl rfl ⟨rfl,rfl,rfl,rfl,rfl⟩ rfl rfl rfl rfl rfl (by kernel_rfl) Tryz.func4 closed
  (of_decide_eq_true (by kernel_rfl)) (by unfold Func.isWrapper;first | (rw[QbQ (by decide +kernel)];kernel_rfl) | (rw[Qc (by decide +kernel)];exact⟨rfl,rfl⟩))
  (λos started H enc _ F=>by rw[OpenClaim.pre_eq_preRow];exact lifted os started H enc F)
end Go.Proofs.YtadhigmjilijcaaGreatDoor.validateSecure
