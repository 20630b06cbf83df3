/- Parts of the proof. No condition. -/
import Derived.Test.YtfnopgdcaanaiaaGreatDoorW20
set_option linter.all false
set_option maxRecDepth 100000
set_option maxHeartbeats 8000000
namespace Go.Proofs.YtfnopgdcaanaiaaGreatDoor
open Go.Proofs.Tryz
section
open Go.RowKit
structure Np.UseB(x:Np.Signed):Prop where
 life:0<=x.set.life/\x.set.life<=1000000
 sig:∀ g r,x.sigs=g::r->0<=g.til/\g.til<=100000000
theorem Vg(x:Np.Signed)(hx:Np.UseB x)(d f u:Int)(rB:0<=d/\d<=1000)(hu0:0<=u/\u<=100000000)(X D:Nat)(gA:Option Addr)(gn gc:Nat)(w:World)(hX:X<w.heap.size)(hD:D<w.heap.size)
 (hl:w.cell? ⟨X,3,none⟩=some (.int .i64 x.set.life)) (hg:w.cell? ⟨X,5,none⟩=some (.slice gA gn gc)) (hd:w.cell? ⟨D,0,none⟩=some (.int .i64 d)) (hs:SlR dl 6 w w.heap.size (.slice gA gn gc) x.sigs) :
 Calls prog 140 #[.agg #[.int .i64 f,.int .i64 u],.pointer (some ⟨X,0,none⟩),.pointer (some ⟨D,0,none⟩)] w (aFQ w.heap.size w (.agg #[.int .i64 f,.int .i64 (max u (Np.js x d u))])):=by
 have gz:=Qj hs;obtain⟨lf,ld⟩:=aCQ x.set.life;have tk:=hx.life;rw[ld] at hl tk;have ya:max lf 1<=1000000/\1<=max lf 1:=by omega
 obtain⟨lm,yb⟩:=aCQ (max lf 1);have Kx:=jq yb;rw[yb] at ya
 cases vM:x.sigs with
 | nil=>
  rw[vM] at gz;obtain rfl:gn=0:=gz.symm;have HE:Hid (Np.js x d u=u - 1+lm+2 * d):=jq (by unfold Np.js;rw[vM,ld,yb]);rw[HE.out];clear vM gz hs hx ld yb;go_enter func140,ntmps140;go_wp2_with fail;rw[<-Kx.out];refine bodyPost_ret (v:=.agg #[.int .i64 f,.int .i64 (max u (u - 1+max lf 1+2 * d))]) (by simp[results,results140,go_sem]) rfl ⟨rfl,?_⟩;exact ((vQ _ _).alloc (bQ _) _).alloc (by simp) _
 | cons g r=>
  rw[vM] at hs gz;have Ib:(g::r)[0]?=some g:=rfl;obtain⟨b,o,c',t,hA,bR,_,_,_,_,_,_,g4,_⟩:=mO hs Ib;simp only[Value.slice.injEq] at hA;obtain⟨rfl,-,rfl⟩:=hA;have dU:=hx.sig g r vM;have HE:Hid (Np.js x d u=min (u - 1+lm+2 * d) (g.til+d+1)):=jq (by unfold Np.js;rw[vM,ld,yb]);have bU:1<=gn:=by rw[<-gz];simp
  have hk:(0:Int)<(gn:Int):=by omega
  have jK:decide ((0:Int)<(gn:Int))=true:=uQ hk;obtain⟨W,hW⟩:=aCQ ((w.alloc (.cells #[.int .i64 f,.int .i64 u] 110)).alloc (.cells #[.int .i64 0,.int .i64 0] 110));rw[HE.out];have rG:w.cell? ⟨b,o+4,none⟩=some (.int .i64 g.til):=by simpa using g4
  clear vM gz hs hx ld yb Ib g4;obtain⟨gt,AZ⟩:=aCQ g.til;rw[AZ] at rG dU |-;clear AZ hW;go_enter func140,ntmps140;go_wp2_with fail;go_quiet (fail);go_wp2_with fail;rw[<-Kx.out];refine bodyPost_ret (v:=.agg #[.int .i64 f,.int .i64 (max u (min (u - 1+max lf 1+2 * d) (gt+d+1)))]) (by simp[results,results140,go_sem]) rfl ⟨rfl,?_⟩;exact ((below_drewN (((vQ _ _).alloc (bQ _) _).alloc (by simp) _) _).setCell (by dsimp only;omega) _).setCell (by dsimp only;omega) _
theorem UG:∀ args w,(callFunc 140 args).run prog w = .ok (.enter 140 args) w:=enters_of func140 (by kernel_rfl) rfl
theorem Np.Vh{x:Np.Signed}(hx:Np.UseB x){d:Int}(hd:0<=d/\d<=1000){s:Np.Span}(hs:0<=s.frm/\s.frm<s.til/\s.til<=10000000):Np.zP (Np.kV x d s):=by
 have e1:Np.js x d s.til<=s.til - 1+max x.set.life 1+2 * d:=by
  unfold Np.js
  cases x.sigs with
  | nil=>dsimp only;omega
  | cons g r=>dsimp only;omega
 have h2:=hx.life;refine⟨hs.1,?_,?_⟩
 ·show s.frm<max s.til (Np.js x d s.til);omega
 ·show max s.til (Np.js x d s.til)<=20000000;omega
theorem auQ(x:Np.Held)(hx:Np.UseB x.signed)(d:Int)(rB:0<=d/\d<=1000)(hf:∀ s∈x.fresh,0<=s.frm/\s.frm<s.til/\s.til<=10000000)(cg:x.fresh.length<=20000)(z s:ByteArray)(dA gA fA pA:Option Addr)(dn dc gn gc fn fc pn pc:Nat)(w:World)
 (hs:SlR dl 6 w w.heap.size (.slice gA gn gc) x.signed.sigs) (hr:SlR eJ 2 w w.heap.size (.slice fA fn fc) x.fresh) :
 Calls prog 62 #[.agg #[.string z,.string s,.int .i64 x.signed.set.type,.int .i64 x.signed.set.life,.slice dA dn dc,.slice gA gn gc,.slice fA fn fc,.slice pA pn pc],.int .i64 d] w λe w'=>∃ v',e = .returned v'/\aN w.heap.size w' v' (Np.pa x d)/\Below w.heap.size w w':=by
 have HX:=jq hx;have HF:=jq hf;have HS:=jq hs;have HR:=jq hr;have km:x.fresh.length=fn:=Qj hr;have qC:fn<=fc:=by
  obtain⟨A',c',h1,h2,_⟩:=ak hr;simp only[Value.slice.injEq] at h1;omega
 have HN:=jq km;have WX:fn<=20000:=by omega
 obtain⟨X,hX⟩:=aCQ w.heap.size;obtain⟨W1,ap⟩:=aCQ ((w.alloc (.cells #[.string z,.string s,.int .i64 x.signed.set.type,.int .i64 x.signed.set.life,.slice dA dn dc,.slice gA gn gc,.slice fA fn fc,.slice pA pn pc] 57)).alloc (.cells #[.int .i64 d] 3));have aB:Below w.heap.size w W1:=by rw[<-ap];exact ((vQ _ _).alloc (bQ _) _).alloc (by simp) _
 have bk:W1.heap.size=X+2:=by rw[<-ap,<-hX];simp
 have k3:W1.cell? ⟨X,3,none⟩=some (.int .i64 x.signed.set.life):=by rw[<-ap,<-hX];simp[go_sem]
 have k5:W1.cell? ⟨X,5,none⟩=some (.slice gA gn gc):=by rw[<-ap,<-hX];simp[go_sem]
 have k6:W1.cell? ⟨X,2+4,none⟩=some (.slice fA fn fc):=by rw[<-ap,<-hX];simp[go_sem]
 have kd:W1.cell? ⟨X+1,0,none⟩=some (.int .i64 d):=by rw[<-ap,<-hX];simp[go_sem]
 simp only[Nat.reduceAdd] at k6;have HK:=jq (And.intro k3 (And.intro k5 kd));have fz:=jq (hs.later dD eu aB);have F3:=jq (hr.later iu pW aB);have aq:=jq aB;have kM:=jq hX;have eg:=UG;clear aB hx hf hs hr km cg k3 k5 kd;go_enter func62,ntmps62;go_wp2_with fail;clear ap k6;go_loopw [6,13] (λvo i wr=>∃ (k:Nat),k<=fn/\i = .int .i64 k/\Hid (Below W1.heap.size W1 wr)/\Hid (aN W1.heap.size wr vo ((x.fresh.take k).map (Np.kV x.signed d)))) (λ_ i _=>fn - (intOf i).toNat)
 case atStart=>exact⟨0,jQ _,rfl,jq (vQ _ _),jq (aN.nil _ _)⟩
 case round=>
  obtain⟨k,hk,rfl,HB,HO⟩:=hrel;have an:=HB.out.size;by_cases aa:k<fn
  ·obtain⟨y,ac⟩:∃ y,x.fresh[k]?=some y:=⟨_,aQ (by rw[HN.out];exact aa)⟩;have iL:=F3.out.keep iu HB.out;obtain⟨b,o,rfl⟩:=BX (k:=k) iL (by rw[HN.out];exact aa);obtain⟨bD,hat⟩:=yC iL ac;clear iL;have h0:=hat.c0;have h1:=hat.c1;have HT:Hid ((x.fresh.take (k+1)).map (Np.kV x.signed d)=(x.fresh.take k).map (Np.kV x.signed d) ++ [Np.kV x.signed d y]):=jq (by
    obtain⟨hl,he⟩:=cQ.1 ac;rw[fQ hl,he,List.map_append];rfl)
   have HL:Hid (((x.fresh.take k).map (Np.kV x.signed d)).length<=100000):=jq (by rw[List.length_map,List.length_take];omega);have HY:=jq (HF.out y (gQ ac));have dJ:b<wr.heap.size:=by omega
   obtain⟨f,u⟩:=y;have bV:(0:Int)<=(k:Int):=by omega
   have bT:(k:Int)<(fn:Int):=by omega
   clear ac hat;dsimp only at h0 h1;obtain⟨w2,aj⟩:=aCQ (wr.alloc (.cells #[.int .i64 f,.int .i64 u] 110));have ae:Below wr.heap.size wr w2:=by rw[<-aj];exact (vQ _ _).alloc (bQ _) _
   have ai:Hid (Below W1.heap.size W1 w2):=jq (HB.out.trans (ae.mono an));have eH:=jq (HO.out.keep ae);have p0:w2.cell? ⟨wr.heap.size,0,none⟩=some (.int .i64 f):=by rw[<-aj];simp[go_sem]
   have p1:w2.cell? ⟨wr.heap.size,1,none⟩=some (.int .i64 u):=by rw[<-aj];simp[go_sem]
   have aK:wr.heap.size<w2.heap.size:=by rw[<-aj];simp
   clear ae;go_wp2_with (fail);clear aj p0 p1 h0 h1;refine (Vg x.signed HX.out d f u rB (by have h:=HY.out;have h1:0<=f:=h.1;have h2:f<u:=h.2.1;have h3:u<=10000000:=h.2.2;omega) X (X+1) gA gn gc w2 (by omega) (by omega) (aBX ai.out HK.out.1) (aBX ai.out HK.out.2.1) (aBX ai.out HK.out.2.2) (fz.out.later dD eu ai.out)).mono ?_;rintro e w3 ⟨rfl,al⟩;obtain⟨u',hu'⟩:=aCQ (max u (Np.js x.signed d u));rw[hu'];have HG:Hid (Np.kV x.signed d ⟨f,u⟩=⟨f,u'⟩):=jq (by unfold Np.kV;rw[hu']);have am:=aBY ai al;have ia:=jq (eH.out.keep al);have eF:=al.size;clear al hu';go_wp2_with (at_builtin;refine EQ _ rfl _ _ rfl W1.heap.size _ ((x.fresh.take k).map (Np.kV x.signed d)) rfl (ia.out.alloc _) w3.heap.size f u' (by simp[go_sem]) (by simp[go_sem]) (by simp[go_sem]) HL.out (by simp;omega) ?_;intro v5 w5 gS aJ;have H5:=jq (And.intro gS aJ);clear gS aJ);go_roundw
   case rel=>exact⟨k+1,by omega,by go_num,jq ((am.out.alloc (by omega) _).trans H5.out.2),jq (by rw[HT.out,HG.out];exact H5.out.1)⟩
   case measure=>simp[intOf] <;> omega
  ·have HE':Hid (x.fresh.take k=x.fresh):=jq (kQ (by rw[HN.out];omega));rw[HE'.out] at HO;have fU:Hid (∀ s∈x.fresh.map (Np.kV x.signed d),Np.zP s):=jq (λs hs=>by
    obtain⟨r,hr,rfl⟩:=List.mem_map.1 hs;exact Np.Vh HX.out rB (HF.out r hr))
   have uu:Hid ((x.fresh.map (Np.kV x.signed d)).length<=20000):=jq (by rw[List.length_map,HN.out];exact WX);have kI:=jq (HO.out.slr (by have:=uu.out;omega));go_wp2_with fail;refine (Pa _ (x.fresh.map (Np.kV x.signed d)) uu.out fU.out wr kI.out).mono ?_;rintro e w5 ⟨v5,rfl,gS,aJ⟩;have RH:Hid (Below w.heap.size w w5):=jq (aq.out.trans ((HB.out.trans (aJ.mono an)).mono aq.out.size));have pp:Hid (aN w.heap.size w5 v5 (Np.pa x d)):=jq (gS.weak (by omega));clear gS aJ;go_wp2_with fail;go_ret;exact⟨_,rfl,pp.out,RH.out⟩
end
end Go.Proofs.YtfnopgdcaanaiaaGreatDoor
