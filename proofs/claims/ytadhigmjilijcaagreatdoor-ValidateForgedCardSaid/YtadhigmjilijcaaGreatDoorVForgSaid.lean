/- The card. For every input the law returns true. -/
import Derived.Test.YtadhigmjilijcaaGreatDoorCards
import Derived.Test.YtadhigmjilijcaaGreatDoorTie
import Derived.Test.YtadhigmjilijcaaGreatDoorVForgClo
import Derived.Test.YtadhigmjilijcaaGreatDoorG01
set_option linter.all false
namespace Go.Proofs.YtadhigmjilijcaaGreatDoor.validateForged
open Go.ChangeShapes Go.WideShapes Go.ChangeAt Go.RowKit
open Go.ChangeMaps (open_string shut_string)
theorem own:ownKnob Tryz.prog.godebug=none:=by kernel_rfl
theorem rows:∀ t∈Tryz.f5.params.toList,Tryz.prog.readableRec t=true/\t<Tryz.prog.types.size:=by
 rw[Tryz.params5];intro t ht;simp only[List.mem_cons,List.not_mem_nil,or_false] at ht;rcases ht with rfl | rfl | rfl | rfl | rfl | rfl | rfl
 ·exact⟨by kernel_rfl,of_decide_eq_true (by kernel_rfl)⟩
 ·exact⟨by kernel_rfl,of_decide_eq_true (by kernel_rfl)⟩
 ·exact⟨by kernel_rfl,of_decide_eq_true (by kernel_rfl)⟩
 ·exact⟨by kernel_rfl,of_decide_eq_true (by kernel_rfl)⟩
 ·exact⟨by kernel_rfl,of_decide_eq_true (by kernel_rfl)⟩
 ·exact⟨by kernel_rfl,of_decide_eq_true (by kernel_rfl)⟩
 ·exact⟨by kernel_rfl,of_decide_eq_true (by kernel_rfl)⟩
set_option maxRecDepth 100000 in
theorem contract(H:Type)(enc:TypeId×Value->H)(W:World)(base:Nat)(args:Array Value)(ds gs:List (DataW H))(before:List MemPlace)
 (hval:∀ (j:Nat) t v,Tryz.f5.params[j]?=some t->args[j]?=some v->Value.okWide Tryz.prog W .any base t v)
 (hW:DataW.Whole enc Tryz.prog Tryz.f5.params.toList Rows.validateForgedSpec.vars false W args.toList ds gs before)
 (hz:(DataW.weightsEach Tryz.prog (Tryz.f5.params.toList++(OpenSpec.ofChange Rows.validateForgedSpec).bare.plain.varTypes Tryz.prog) (ds++gs)).all (·<=reachBytes)=true) (hL:laidMetH Tryz.prog Rows.validateForgedRow.laid W) :
 Calls Tryz.prog 5 args W λe W'=>∃ v,e = .returned v/\Rows.validateForgedSpec.post enc Tryz.prog Tryz.f5 false true false false W args v W':=by
 have hW':=hW;obtain⟨p,q,hA0,hV,rfl,hfz,hnd⟩:=hW;have hA:DataW.TrodAll enc Tryz.prog W 0 (λ_=>true) true Tryz.f5.params.toList args.toList ds p:=hA0;rw[Tryz.params5] at hA hval hz;obtain⟨v0,vs0,d0,ds0,p0,q0,hargs,rfl,rfl,h0,r0⟩:=trodAll_cons hA;obtain⟨v1,vs1,d1,ds1,p1,q1,rfl,rfl,rfl,h1,r1⟩:=trodAll_cons r0;obtain⟨v2,vs2,d2,ds2,p2,q2,rfl,rfl,rfl,h2,r2⟩:=trodAll_cons r1;obtain⟨v3,vs3,d3,ds3,p3,q3,rfl,rfl,rfl,h3,r3⟩:=trodAll_cons r2;obtain⟨v4,vs4,d4,ds4,p4,q4,rfl,rfl,rfl,h4,r4⟩:=trodAll_cons r3;obtain⟨v5,vs5,d5,ds5,p5,q5,rfl,rfl,rfl,h5,r5⟩:=trodAll_cons r4;obtain⟨v6,vs6,d6_9,ds6,p6,q6,rfl,rfl,rfl,h6,r6⟩:=trodAll_cons r5;obtain⟨rfl,rfl,rfl⟩:=trodAll_nil r6;obtain rfl:args = #[v0,v1,v2,v3,v4,v5,v6]:=Array.toList_inj.1 hargs;obtain⟨rfl,rfl⟩:=trodVars_none hV;have z0:=nd hz (j:=0) (t:=22) (d:=d0) rfl rfl;have z1:=nd hz (j:=1) (t:=25) (d:=d1) rfl rfl;have z2:=nd hz (j:=2) (t:=27) (d:=d2) rfl rfl;have z3:=nd hz (j:=3) (t:=3) (d:=d3) rfl rfl;have z4:=nd hz (j:=4) (t:=3) (d:=d4) rfl rfl;have z5:=nd hz (j:=5) (t:=44) (d:=d5) rfl rfl;have z6:=nd hz (j:=6) (t:=5) (d:=d6_9) rfl rfl;obtain⟨x0,hx0⟩:=LX Tryz.underlying22 In (hval 0 22 v0 rfl rfl) h0 z0;obtain⟨cs1,x1,rfl,hx1⟩:=vX Tryz.underlying25 Im (hval 1 25 v1 rfl rfl) h1 z1;obtain⟨s1,u1,hs1,hz1,hd1,rfl⟩:=hx1;obtain⟨cs2,x2,rfl,hx2⟩:=vX Tryz.underlying27 Il (hval 2 27 v2 rfl rfl) h2 z2;obtain⟨⟨qq2,qt2⟩,hq2⟩:∃ y,x2=y:=⟨_,rfl⟩;subst hq2;obtain⟨hqs2,rfl⟩:=hx2;obtain⟨x3,rfl,rfl,rfl,wx3⟩:=open_int Tryz.underlying3 (hval 3 3 v3 rfl rfl) h3;have bx3:=bounds_i64 wx3;obtain⟨x4,rfl,rfl,rfl,wx4⟩:=open_int Tryz.underlying3 (hval 4 3 v4 rfl rfl) h4;have bx4:=bounds_i64 wx4;obtain⟨cs5,x5,rfl,hx5⟩:=vX Tryz.underlying44 asQ (hval 5 44 v5 rfl rfl) h5 z5;obtain⟨s5,dv5,gv5,hs5,hz5,hd5,hg5,rfl⟩:=hx5;obtain⟨x6,rfl,rfl,rfl,wx6⟩:=open_int Tryz.underlying5 (hval 6 5 v6 rfl rfl) h6;have bx6:=bounds_u8 wx6;clear hA0;simp only[List.append_nil] at hW';have hR:bL W W.heap.size:=Iu hL;refine (lawForged_any v0 x0 s1 qq2 x1 hs1 hz1 u1 qt2 x3 x4 hqs2 s5 x5 hs5 hz5 dv5 gv5 x6 (by omega) W hR hx0 hd1 hd5 hg5).mono λe W' ⟨he,hb⟩=>?_;subst he;exact⟨_,rfl,Hx lo rows rfl hW' hb (λ_ _ _=>trodAll_cons_mk (shut_bool Tryz.underlying4 _) trodAll_mk0) rfl rfl⟩
noncomputable def laidWorld(os:Os):World:=
 { World.holding Tryz.prog os ⟨#[],#[],[]⟩ with heap:=(World.holding Tryz.prog os ⟨#[],#[],[]⟩).heap.modify 0 fun
  | .cells _ t frozen=>.cells #[.int .i64 0,.int .i64 0,.int .i64 0,.int .i64 0,.int .i64 0,.bool false,.bool false,.bool false,.int .i64 0,.int .i64 1,.int .i64 1000000,.int .i64 0,.int .i64 0,.bool false,.bool false,.bool true,.int .i64 1,.int .i64 0,.int .i64 0,.int .i64 0,.int .i64 0,.bool false,.bool false,.bool false,.int .i64 1,.int .i64 0,.int .i64 0,.int .i64 0,.int .i64 0,.bool false,.bool true,.bool false,.int .i64 0,.int .i64 0,.int .i64 65535,.int .i64 0,.int .i64 100000,.bool false,.bool true,.bool false,.int .i64 3,.int .i64 0,.int .i64 0,.int .i64 0,.int .i64 0,.bool false,.bool false,.bool true,.int .i64 0,.int .i64 1,.int .i64 1000000,.int .i64 1,.int .i64 3,.bool false,.bool false,.bool false,.int .i64 0,.int .i64 1,.int .i64 1000000,.int .i64 1,.int .i64 3,.bool false,.bool false,.bool false,.int .i64 2,.int .i64 2,.int .i64 510,.int .i64 0,.int .i64 0,.bool true,.bool false,.bool true] t frozen
  | o=>o }
theorem laid_met(os:Os):laidMet Tryz.prog Rows.validateForgedRow.laid ((laidWorld os).forCall (λ_ _=>0) ⟨#[],#[.slice none 0 0,.agg #[.string ⟨#[]⟩,.int .i64 0,.int .i64 0,.slice none 0 0],.agg #[.string ⟨#[]⟩,.int .i64 0],.int .i64 0,.int .i64 0,.agg #[.string ⟨#[]⟩,.int .i64 0,.int .i64 0,.slice none 0 0,.slice none 0 0],.int .u8 0],[]⟩).memory:=
 laidMet_of_run' 8 (by kernel_rfl) (by kernel_rfl)
theorem reads(os:Os){H:Type}(enc:TypeId×Value->H):∃ places,DataW.whole enc Tryz.prog ((laidWorld os).forCall (λ_ _=>0) ⟨#[],#[.slice none 0 0,.agg #[.string ⟨#[]⟩,.int .i64 0,.int .i64 0,.slice none 0 0],.agg #[.string ⟨#[]⟩,.int .i64 0],.int .i64 0,.int .i64 0,.agg #[.string ⟨#[]⟩,.int .i64 0,.int .i64 0,.slice none 0 0,.slice none 0 0],.int .u8 0],[]⟩).memory Tryz.f5.params.toList Rows.validateForgedSpec.vars false (#[.slice none 0 0,.agg #[.string ⟨#[]⟩,.int .i64 0,.int .i64 0,.slice none 0 0],.agg #[.string ⟨#[]⟩,.int .i64 0],.int .i64 0,.int .i64 0,.agg #[.string ⟨#[]⟩,.int .i64 0,.int .i64 0,.slice none 0 0,.slice none 0 0],.int .u8 0]:Array Value).toList 8=some ([.nil,.agg [.lit (.string []),.lit (.int .i64 0),.lit (.int .i64 0),.nil],.agg [.lit (.string []),.lit (.int .i64 0)],.lit (.int .i64 0),.lit (.int .i64 0),.agg [.agg [.lit (.string []),.lit (.int .i64 0),.lit (.int .i64 0),.nil],.nil],.lit (.int .u8 0)],[],places):=
 ⟨[],by kernel_rfl⟩
set_option maxRecDepth 100000 in
theorem lifted(os:Os)(started:os.Started)(H:Type)(enc:TypeId×Value->H)(F:Stop.Interp) :
 ReturnsInHanded {} Tryz.checked os 5 .any ((OpenSpec.ofChange Rows.validateForgedSpec).preRow enc Tryz.prog Tryz.f5 Rows.validateForgedRow.domain false Rows.validateForgedRow.laid) (((OpenSpec.ofChange Rows.validateForgedSpec).at F).post enc Tryz.prog Tryz.f5 false true false false):=by
 obtain⟨places,hx⟩:=reads os enc;refine returnsInHanded_of_row (C:=Tryz.checked) (s:=OpenSpec.ofChange Rows.validateForgedSpec) own started (by kernel_rfl) Tryz.func5
  (witness_row_at (enc:=enc) (C:=Tryz.checked) false (laidWorld os) #[.slice none 0 0,.agg #[.string ⟨#[]⟩,.int .i64 0,.int .i64 0,.slice none 0 0],.agg #[.string ⟨#[]⟩,.int .i64 0],.int .i64 0,.int .i64 0,.agg #[.string ⟨#[]⟩,.int .i64 0,.int .i64 0,.slice none 0 0,.slice none 0 0],.int .u8 0] rfl (by kernel_rfl) (by kernel_rfl) (by kernel_rfl)
    (OpenSpec.preRow_of_cond 8 hx (by kernel_rfl) (λk hk=>by cases hk) (by kernel_rfl) (laid_met os))) ?_
 intro W base args ds gs before hval hW _ _ hz hL _ _;exact contract H enc W base args ds gs before hval hW hz hL
theorem said:Rows.ValidateForgedSaid:=
 OpenClaim.holds_of_cond 5 Tryz.f5 rfl rfl rfl rfl rfl rfl rfl ⟨rfl,rfl,rfl,rfl,rfl⟩ rfl rfl rfl rfl rfl (by kernel_rfl) Tryz.func5 closed
  (of_decide_eq_true (by kernel_rfl)) (by unfold Func.isWrapper;first | (rw[if_pos (by decide +kernel)];kernel_rfl) | (rw[if_neg (by decide +kernel)];exact⟨rfl,rfl⟩))
  (λos started H enc _ F=>by rw[OpenClaim.pre_eq_preRow];exact lifted os started H enc F)
end Go.Proofs.YtadhigmjilijcaaGreatDoor.validateForged
