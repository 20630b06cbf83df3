/- The card. For every input the law returns true. -/
import Derived.Test.YtfnopgdcaanaiaaGreatDoorCards
import Derived.Test.YtfnopgdcaanaiaaGreatDoorTie
import Derived.Test.YtfnopgdcaanaiaaGreatDoorRgGapsClo
import Derived.Test.YtfnopgdcaanaiaaGreatDoorU30
import Derived.Test.YtfnopgdcaanaiaaGreatDoorU31
set_option linter.all false
namespace Go.Proofs.YtfnopgdcaanaiaaGreatDoor.resignGaps
open Go.ChangeShapes Go.WideShapes Go.ChangeAt Go.RowKit
open Go.ChangeMaps (open_string shut_string)
theorem own:ownKnob Tryz.prog.godebug=none:=by kernel_rfl
theorem rows:∀ t∈Tryz.f10.params.toList,Tryz.prog.readableRec t=true/\t<Tryz.prog.types.size:=by
 rw[Tryz.params10];intro t ht;simp only[List.mem_cons,Qh,or_false] at ht;rcases ht with rfl | rfl | rfl
 ·exact⟨by kernel_rfl,of_decide_eq_true (by kernel_rfl)⟩
 ·exact⟨by kernel_rfl,of_decide_eq_true (by kernel_rfl)⟩
 ·exact⟨by kernel_rfl,of_decide_eq_true (by kernel_rfl)⟩
set_option maxRecDepth 100000 in
theorem contract(H:Type)(enc:TypeId×Value->H)(W:World)(base:Nat)(args:Array Value)(ds gs:List (DataW H))(before:List MemPlace)
 (hval:∀ (j:Nat) t v,Tryz.f10.params[j]?=some t->args[j]?=some v->Value.okWide Tryz.prog W .any base t v)
 (hW:DataW.Whole enc Tryz.prog Tryz.f10.params.toList Rows.resignGapsSpec.vars false W args.toList ds gs before)
 (hz:(DataW.weightsEach Tryz.prog (Tryz.f10.params.toList++(OpenSpec.ofChange Rows.resignGapsSpec).bare.plain.varTypes Tryz.prog) (ds++gs)).all (·<=reachBytes)=true) (hL:laidMetH Tryz.prog Rows.resignGapsRow.laid W) :
 Calls Tryz.prog 10 args W λe W'=>∃ v,e = .returned v/\Rows.resignGapsSpec.post enc Tryz.prog Tryz.f10 false true false false W args v W':=by
 have hW':=hW;obtain⟨p,q,KG,hV,rfl,tu,qf⟩:=hW;have hA:DataW.TrodAll enc Tryz.prog W 0 (λ_=>true) true Tryz.f10.params.toList args.toList ds p:=KG;rw[Tryz.params10] at hA hval hz;obtain⟨v0,vs0,d0,ds0,p0,q0,FG,rfl,rfl,h0,r0⟩:=trodAll_cons hA;obtain⟨v1,vs1,d1,ds1,p1,q1,rfl,rfl,rfl,h1,r1⟩:=trodAll_cons r0;obtain⟨v2,vs2,d2,ds2,p2,q2,rfl,rfl,rfl,h2,r2⟩:=trodAll_cons r1;obtain⟨rfl,rfl,rfl⟩:=trodAll_nil r2;obtain rfl:args = #[v0,v1,v2]:=Array.toList_inj.1 FG;obtain⟨rfl,rfl⟩:=trodVars_none hV;have z0:=G7 hz (j:=0) (t:=29) (d:=d0) rfl rfl;have z1:=G7 hz (j:=1) (t:=65) (d:=d1) rfl rfl;have z2:=G7 hz (j:=2) (t:=92) (d:=d2) rfl rfl;obtain⟨cs0,x0,rfl,bM⟩:=Rd Tryz.underlying29 XM (hval 0 29 v0 rfl rfl) h0 z0;obtain⟨nV,gW⟩:=bM;obtain⟨x1,rfl,rfl,rfl,wx1⟩:=open_int Tryz.underlying65 (hval 1 65 v1 rfl rfl) h1;have bx1:=bounds_u16 wx1;obtain⟨x2,rfl,rfl,rfl,wx2⟩:=open_int Tryz.underlying92 (hval 2 92 v2 rfl rfl) h2;have bx2:=bounds_u32 wx2;clear KG;simp only[List.append_nil] at hW';have hI:=Vd hL;refine (SH cs0 x0 x1 x2 (by omega) (by omega) W hI nV gW).mono λe W' ⟨he,hb⟩=>?_;subst he;exact⟨_,rfl,Wj lo rows rfl hW' hb (λ_ _ _=>trodAll_cons_mk (shut_bool Tryz.underlying4 _) trodAll_mk0) rfl rfl⟩
theorem laid_met(os:Os):laidMet Tryz.prog Rows.resignGapsRow.laid ((CH os).forCall (λ_ _=>0) ⟨#[],#[.agg #[.slice none 0 0,.slice none 0 0,.string ⟨#[]⟩,.int .i64 0,.int .i64 0,.slice none 0 0,.slice none 0 0,.int .i64 0,.int .i64 0],.int .u16 0,.int .u32 0],[]⟩).memory:=
 V9 os _
theorem reads(os:Os){H:Type}(enc:TypeId×Value->H):∃ places,DataW.whole enc Tryz.prog ((CH os).forCall (λ_ _=>0) ⟨#[],#[.agg #[.slice none 0 0,.slice none 0 0,.string ⟨#[]⟩,.int .i64 0,.int .i64 0,.slice none 0 0,.slice none 0 0,.int .i64 0,.int .i64 0],.int .u16 0,.int .u32 0],[]⟩).memory Tryz.f10.params.toList Rows.resignGapsSpec.vars false (#[.agg #[.slice none 0 0,.slice none 0 0,.string ⟨#[]⟩,.int .i64 0,.int .i64 0,.slice none 0 0,.slice none 0 0,.int .i64 0,.int .i64 0],.int .u16 0,.int .u32 0]:Array Value).toList 8=some ([.agg [.nil,.nil,.agg [.lit (.string []),.lit (.int .i64 0),.lit (.int .i64 0),.nil],.nil,.lit (.int .i64 0),.lit (.int .i64 0)],.lit (.int .u16 0),.lit (.int .u32 0)],[],places):=
 ⟨[],by kernel_rfl⟩
set_option maxRecDepth 100000 in
theorem lifted(os:Os)(started:os.Started)(H:Type)(enc:TypeId×Value->H)(F:Stop.Interp) :
 ReturnsInHanded {} Tryz.checked os 10 .any ((OpenSpec.ofChange Rows.resignGapsSpec).preRow enc Tryz.prog Tryz.f10 Rows.resignGapsRow.domain false Rows.resignGapsRow.laid) (((OpenSpec.ofChange Rows.resignGapsSpec).at F).post enc Tryz.prog Tryz.f10 false true false false):=by
 obtain⟨places,hx⟩:=reads os enc;refine returnsInHanded_of_row (C:=Tryz.checked) (s:=OpenSpec.ofChange Rows.resignGapsSpec) own started (by kernel_rfl) Tryz.func10
  (witness_row_at (enc:=enc) (C:=Tryz.checked) false (CH os) #[.agg #[.slice none 0 0,.slice none 0 0,.string ⟨#[]⟩,.int .i64 0,.int .i64 0,.slice none 0 0,.slice none 0 0,.int .i64 0,.int .i64 0],.int .u16 0,.int .u32 0] rfl (by kernel_rfl) (by kernel_rfl) (by kernel_rfl)
    (OpenSpec.preRow_of_cond 8 hx (by kernel_rfl) (λk hk=>by cases hk) (by kernel_rfl) (laid_met os))) ?_
 intro W base args ds gs before hval hW _ _ hz hL _ _;exact contract H enc W base args ds gs before hval hW hz hL
theorem said:Rows.ResignGapsSaid:=
 OpenClaim.holds_of_cond 10 Tryz.f10 rfl rfl rfl rfl rfl rfl rfl ⟨rfl,rfl,rfl,rfl,rfl⟩ rfl rfl rfl rfl rfl (by kernel_rfl) Tryz.func10 closed
  (of_decide_eq_true (by kernel_rfl)) (by unfold Func.isWrapper;first | (rw[Qb (by decide +kernel)];kernel_rfl) | (rw[Qc (by decide +kernel)];exact⟨rfl,rfl⟩))
  (λos started H enc _ F=>by rw[OpenClaim.pre_eq_preRow];exact lifted os started H enc F)
end Go.Proofs.YtfnopgdcaanaiaaGreatDoor.resignGaps
