/- The card. For every input the law returns true. -/
import Derived.Test.YtadhigmjilijcaaGreatDoorCards
import Derived.Test.YtadhigmjilijcaaGreatDoorTie
import Derived.Test.YtadhigmjilijcaaGreatDoorVHonClo
import Derived.Test.YtadhigmjilijcaaGreatDoorH31
set_option linter.all false
namespace Go.Proofs.YtadhigmjilijcaaGreatDoor.validateHonest
open Go.ChangeShapes Go.WideShapes Go.ChangeAt Go.RowKit
open Go.ChangeMaps (open_string shut_string)
theorem own:ownKnob Tryz.prog.godebug=none:=by kernel_rfl
theorem rows:∀ t∈Tryz.f8.params.toList,Tryz.prog.readableRec t=true/\t<Tryz.prog.types.size:=by
 rw[Tryz.params8];intro t ht;simp only[List.mem_cons,Qh,or_false] at ht;rcases ht with rfl | rfl
 ·exact⟨by kernel_rfl,of_decide_eq_true (by kernel_rfl)⟩
 ·exact⟨by kernel_rfl,of_decide_eq_true (by kernel_rfl)⟩
set_option maxRecDepth 100000 in
theorem contract(H:Type)(enc:TypeId×Value->H)(W:World)(base:Nat)(args:Array Value)(ds gs:List (DataW H))(before:List MemPlace)
 (hval:∀ (j:Nat) t v,Tryz.f8.params[j]?=some t->args[j]?=some v->Value.okWide Tryz.prog W .any base t v)
 (hW:DataW.Whole enc Tryz.prog Tryz.f8.params.toList Rows.validateHonestSpec.vars false W args.toList ds gs before)
 (hz:(DataW.weightsEach Tryz.prog (Tryz.f8.params.toList++(OpenSpec.ofChange Rows.validateHonestSpec).bare.plain.varTypes Tryz.prog) (ds++gs)).all (·<=reachBytes)=true) (hL:laidMetH Tryz.prog Rows.validateHonestRow.laid W) :
 Calls Tryz.prog 8 args W λe W'=>∃ v,e = .returned v/\Rows.validateHonestSpec.post enc Tryz.prog Tryz.f8 false true false false W args v W':=by
 have hW':=hW;obtain⟨p,q,rJ,hV,rfl,zz,C2⟩:=hW;have hA:DataW.TrodAll enc Tryz.prog W 0 (λ_=>true) true Tryz.f8.params.toList args.toList ds p:=rJ;rw[Tryz.params8] at hA hval hz;obtain⟨v0,vs0,d0,ds0,p0,q0,Kg,rfl,rfl,h0,r0⟩:=trodAll_cons hA;obtain⟨v1,vs1,d1,ds1,p1,q1,rfl,rfl,rfl,h1,r1⟩:=trodAll_cons r0;obtain⟨rfl,rfl,rfl⟩:=trodAll_nil r1;obtain rfl:args = #[v0,v1]:=Array.toList_inj.1 Kg;obtain⟨rfl,rfl⟩:=trodVars_none hV;have z0:=UU hz (j:=0) (t:=66) (d:=d0) rfl rfl;have z1:=UU hz (j:=1) (t:=27) (d:=d1) rfl rfl;obtain⟨cs0,x0,rfl,gK⟩:=PR Tryz.underlying66 bmY (hval 0 66 v0 rfl rfl) h0 z0;obtain⟨s0,u0,jJ,eu,FQ,rfl⟩:=gK;obtain⟨cs1,x1,rfl,fM⟩:=PR Tryz.underlying27 blY (hval 1 27 v1 rfl rfl) h1 z1;obtain⟨⟨qq1,qt1⟩,gI⟩:∃ y,x1=y:=⟨_,rfl⟩;subst gI;obtain⟨aWJ,rfl⟩:=fM;clear rJ;simp only[List.append_nil] at hW';have hR:cr W W.heap.size:=bvJ hL;refine (baX s0 eu u0 x0.sets qq1 aWJ qt1 W hR FQ).mono λe W' ⟨he,hb⟩=>?_;subst he;exact⟨_,rfl,baY lo rows rfl hW' hb (λ_ _ _=>trodAll_cons_mk (shut_bool Tryz.underlying4 _) trodAll_mk0) rfl rfl⟩
noncomputable def LH(os:Os):World:=
 { World.holding Tryz.prog os ⟨#[],#[],[]⟩ with heap:=(World.holding Tryz.prog os ⟨#[],#[],[]⟩).heap.modify 0 fun
  | .cells _ t frozen=>.cells #[.int .i64 0,.int .i64 0,.int .i64 0,.int .i64 0,.int .i64 0,.bool false,.bool false,.bool false,.int .i64 0,.int .i64 1,.int .i64 1000000,.int .i64 0,.int .i64 0,.bool false,.bool false,.bool true,.int .i64 1,.int .i64 0,.int .i64 0,.int .i64 0,.int .i64 0,.bool false,.bool false,.bool false,.int .i64 1,.int .i64 0,.int .i64 0,.int .i64 0,.int .i64 0,.bool false,.bool true,.bool false,.int .i64 0,.int .i64 0,.int .i64 65535,.int .i64 0,.int .i64 100000,.bool false,.bool true,.bool false,.int .i64 3,.int .i64 0,.int .i64 0,.int .i64 0,.int .i64 0,.bool false,.bool false,.bool true,.int .i64 0,.int .i64 1,.int .i64 1000000,.int .i64 1,.int .i64 3,.bool false,.bool false,.bool false,.int .i64 0,.int .i64 1,.int .i64 1000000,.int .i64 1,.int .i64 3,.bool false,.bool false,.bool false,.int .i64 2,.int .i64 2,.int .i64 510,.int .i64 0,.int .i64 0,.bool true,.bool false,.bool true] t frozen
  | o=>o }
theorem laid_met(os:Os):laidMet Tryz.prog Rows.validateHonestRow.laid ((LH os).forCall (λ_ _=>0) ⟨#[],#[.agg #[.string ⟨#[]⟩,.slice none 0 0],.agg #[.string ⟨#[]⟩,.int .i64 0]],[]⟩).memory:=
 laidMet_of_run' 8 (by kernel_rfl) (by kernel_rfl)
theorem reads(os:Os){H:Type}(enc:TypeId×Value->H):∃ places,DataW.whole enc Tryz.prog ((LH os).forCall (λ_ _=>0) ⟨#[],#[.agg #[.string ⟨#[]⟩,.slice none 0 0],.agg #[.string ⟨#[]⟩,.int .i64 0]],[]⟩).memory Tryz.f8.params.toList Rows.validateHonestSpec.vars false (#[.agg #[.string ⟨#[]⟩,.slice none 0 0],.agg #[.string ⟨#[]⟩,.int .i64 0]]:Array Value).toList 8=some ([.agg [.lit (.string []),.nil],.agg [.lit (.string []),.lit (.int .i64 0)]],[],places):=
 ⟨[],by kernel_rfl⟩
set_option maxRecDepth 100000 in
theorem lifted(os:Os)(started:os.Started)(H:Type)(enc:TypeId×Value->H)(F:Stop.Interp) :
 ReturnsInHanded {} Tryz.checked os 8 .any ((OpenSpec.ofChange Rows.validateHonestSpec).preRow enc Tryz.prog Tryz.f8 Rows.validateHonestRow.domain false Rows.validateHonestRow.laid) (((OpenSpec.ofChange Rows.validateHonestSpec).at F).post enc Tryz.prog Tryz.f8 false true false false):=by
 obtain⟨places,hx⟩:=reads os enc;refine returnsInHanded_of_row (C:=Tryz.checked) (s:=OpenSpec.ofChange Rows.validateHonestSpec) own started (by kernel_rfl) Tryz.func8
  (witness_row_at (enc:=enc) (C:=Tryz.checked) false (LH os) #[.agg #[.string ⟨#[]⟩,.slice none 0 0],.agg #[.string ⟨#[]⟩,.int .i64 0]] rfl (by kernel_rfl) (by kernel_rfl) (by kernel_rfl)
    (OpenSpec.preRow_of_cond 8 hx (by kernel_rfl) (λk hk=>by cases hk) (by kernel_rfl) (laid_met os))) ?_
 intro W base args ds gs before hval hW _ _ hz hL _ _;exact contract H enc W base args ds gs before hval hW hz hL
theorem said:Rows.ValidateHonestSaid:=
 OpenClaim.holds_of_cond 8 Tryz.f8 rfl rfl rfl rfl rfl rfl rfl ⟨rfl,rfl,rfl,rfl,rfl⟩ rfl rfl rfl rfl rfl (by kernel_rfl) Tryz.func8 closed
  (of_decide_eq_true (by kernel_rfl)) (by unfold Func.isWrapper;first | (rw[QbQ (by decide +kernel)];kernel_rfl) | (rw[Qc (by decide +kernel)];exact⟨rfl,rfl⟩))
  (λos started H enc _ F=>by rw[OpenClaim.pre_eq_preRow];exact lifted os started H enc F)
end Go.Proofs.YtadhigmjilijcaaGreatDoor.validateHonest
