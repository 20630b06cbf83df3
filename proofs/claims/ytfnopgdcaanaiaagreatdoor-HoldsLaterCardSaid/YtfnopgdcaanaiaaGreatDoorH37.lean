/- Parts of the proof. No condition. -/
import Derived.Test.YtfnopgdcaanaiaaGreatDoorH27
import Derived.Test.YtfnopgdcaanaiaaGreatDoorH32
set_option linter.all false
set_option maxRecDepth 100000
set_option maxHeartbeats 8000000
namespace Go.Proofs.YtfnopgdcaanaiaaGreatDoor
open Go.Proofs.Tryz
section
open Go.RowKit

structure Np.UseB(x:Np.Signed):Prop where
 life:0<=x.set.life/\x.set.life<=1000000
 sig:∀ g r,x.sigs=g::r->0<=g.til/\g.til<=100000000
theorem SK(x:Np.Signed)(hx:Np.UseB x)(d f u:Int)(uP:0<=d/\d<=1000)(hu0:0<=u/\u<=100000000)(X D:Nat)(gA:Option Addr)(gn gc:Nat)(w:World)(hX:X<w.heap.size)(hD:D<w.heap.size)
 (hl:w.cell? ⟨X,3,none⟩=some (.int .i64 x.set.life)) (hg:w.cell? ⟨X,5,none⟩=some (.slice gA gn gc)) (hd:w.cell? ⟨D,0,none⟩=some (.int .i64 d)) (hs:SlR dj 6 w w.heap.size (.slice gA gn gc) x.sigs) :
 Calls prog 140 #[.agg #[.int .i64 f,.int .i64 u],.pointer (some ⟨X,0,none⟩),.pointer (some ⟨D,0,none⟩)] w λe w'=>e = .returned (.agg #[.int .i64 f,.int .i64 (max u (Np.eu x d u))])/\Below w.heap.size w w':=by
 have j5:=NJ hs;obtain⟨lf,tp⟩:∃ a,x.set.life=a:=⟨_,rfl⟩;have KX:=hx.life;rw[tp] at hl KX;have rj:max lf 1<=1000000/\1<=max lf 1:=by omega
 obtain⟨lm,u7⟩:∃ a,max lf 1=a:=⟨_,rfl⟩;have If:=jq u7;rw[u7] at rj
 cases j6:x.sigs with
 | nil=>
  rw[j6] at j5;obtain rfl:gn=0:=j5.symm;have HE:Hid (Np.eu x d u=u - 1+lm+2 * d):=jq (by unfold Np.eu;rw[j6,tp,u7]);rw[HE.out];clear j6 j5 hs hx tp u7;go_enter func140,ntmps140;go_wp2_with fail;rw[<-If.out];refine bodyPost_ret (v:=.agg #[.int .i64 f,.int .i64 (max u (u - 1+max lf 1+2 * d))]) (by simp[results,results140,go_sem]) rfl ⟨rfl,?_⟩;exact ((vQ _ _).alloc (bQ _) _).alloc (by simp) _
 | cons g r=>
  rw[j6] at hs j5;have uV:(g::r)[0]?=some g:=rfl;obtain⟨b,o,c',t,hA,bJ,_,_,_,_,_,_,g4,_⟩:=mJ hs uV;simp only[Value.slice.injEq] at hA;obtain⟨rfl,-,rfl⟩:=hA;have dm:=hx.sig g r j6;have HE:Hid (Np.eu x d u=min (u - 1+lm+2 * d) (g.til+d+1)):=jq (by unfold Np.eu;rw[j6,tp,u7]);have bl:1<=gn:=by rw[<-j5];simp
  have hk:(0:Int)<(gn:Int):=by omega
  have iR:decide ((0:Int)<(gn:Int))=true:=uQ hk;obtain⟨W,hW⟩:∃ W,(w.alloc (.cells #[.int .i64 f,.int .i64 u] 110)).alloc (.cells #[.int .i64 0,.int .i64 0] 110)=W:=⟨_,rfl⟩;rw[HE.out];have nB:w.cell? ⟨b,o+4,none⟩=some (.int .i64 g.til):=by simpa using g4
  clear j6 j5 hs hx tp u7 uV g4;obtain⟨gt,nA⟩:∃ a,g.til=a:=⟨_,rfl⟩;rw[nA] at nB dm |-;clear nA hW;go_enter func140,ntmps140;go_wp2_with fail;go_quiet (fail);go_wp2_with fail;rw[<-If.out];refine bodyPost_ret (v:=.agg #[.int .i64 f,.int .i64 (max u (min (u - 1+max lf 1+2 * d) (gt+d+1)))]) (by simp[results,results140,go_sem]) rfl ⟨rfl,?_⟩;exact ((below_drewN (((vQ _ _).alloc (bQ _) _).alloc (by simp) _) _).setCell (by dsimp only;omega) _).setCell (by dsimp only;omega) _
theorem R9:∀ args w,(callFunc 140 args).run prog w = .ok (.enter 140 args) w:=enters_of func140 (by kernel_rfl) rfl
theorem Np.SM{x:Np.Signed}(hx:Np.UseB x){d:Int}(hd:0<=d/\d<=1000){s:Np.Span}(hs:0<=s.frm/\s.frm<s.til/\s.til<=10000000):Np.xy (Np.js x d s):=by
 have e1:Np.eu x d s.til<=s.til - 1+max x.set.life 1+2 * d:=by
  unfold Np.eu
  cases x.sigs with
  | nil=>dsimp only;omega
  | cons g r=>dsimp only;omega
 have h2:=hx.life;refine⟨hs.1,?_,?_⟩
 ·show s.frm<max s.til (Np.eu x d s.til);omega
 ·show max s.til (Np.eu x d s.til)<=20000000;omega
theorem Zw(x:Np.Held)(hx:Np.UseB x.signed)(d:Int)(uP:0<=d/\d<=1000)(hf:∀ s∈x.fresh,0<=s.frm/\s.frm<s.til/\s.til<=10000000)(bI:x.fresh.length<=20000)(z s:ByteArray)(dA gA fA pA:Option Addr)(dn dc gn gc fn fc pn pc:Nat)(w:World)
 (hs:SlR dj 6 w w.heap.size (.slice gA gn gc) x.signed.sigs) (hr:SlR dU 2 w w.heap.size (.slice fA fn fc) x.fresh) :
 Calls prog 62 #[.agg #[.string z,.string s,.int .i64 x.signed.set.type,.int .i64 x.signed.set.life,.slice dA dn dc,.slice gA gn gc,.slice fA fn fc,.slice pA pn pc],.int .i64 d] w λe w'=>∃ v',e = .returned v'/\aK w.heap.size w' v' (Np.kj x d)/\Below w.heap.size w w':=by
 have HX:=jq hx;have HF:=jq hf;have HS:=jq hs;have HR:=jq hr;have im:x.fresh.length=fn:=NJ hr;have Kv:fn<=fc:=by
  obtain⟨A',c',h1,h2,_⟩:=al hr;simp only[Value.slice.injEq] at h1;omega
 have HN:=jq im;have La:fn<=20000:=by omega
 obtain⟨X,hX⟩:∃ X,w.heap.size=X:=⟨_,rfl⟩;obtain⟨W1,ap⟩:∃ W1,(w.alloc (.cells #[.string z,.string s,.int .i64 x.signed.set.type,.int .i64 x.signed.set.life,.slice dA dn dc,.slice gA gn gc,.slice fA fn fc,.slice pA pn pc] 57)).alloc (.cells #[.int .i64 d] 3)=W1:=⟨_,rfl⟩;have az:Below w.heap.size w W1:=by rw[<-ap];exact ((vQ _ _).alloc (bQ _) _).alloc (by simp) _
 have bj:W1.heap.size=X+2:=by rw[<-ap,<-hX];simp
 have k3:W1.cell? ⟨X,3,none⟩=some (.int .i64 x.signed.set.life):=by rw[<-ap,<-hX];simp[go_sem]
 have k5:W1.cell? ⟨X,5,none⟩=some (.slice gA gn gc):=by rw[<-ap,<-hX];simp[go_sem]
 have k6:W1.cell? ⟨X,2+4,none⟩=some (.slice fA fn fc):=by rw[<-ap,<-hX];simp[go_sem]
 have kd:W1.cell? ⟨X+1,0,none⟩=some (.int .i64 d):=by rw[<-ap,<-hX];simp[go_sem]
 simp only[Nat.reduceAdd] at k6;have HK:=jq (And.intro k3 (And.intro k5 kd));have eB:=jq (hs.later ep gp az);have DW:=jq (hr.later iw qh az);have aq:=jq az;have jS:=jq hX;have eg:=R9;clear az hx hf hs hr im bI k3 k5 kd;go_enter func62,ntmps62;go_wp2_with fail;clear ap k6;go_loopw [6,13] (λvo i wr=>∃ (k:Nat),k<=fn/\i = .int .i64 k/\Hid (Below W1.heap.size W1 wr)/\Hid (aK W1.heap.size wr vo ((x.fresh.take k).map (Np.js x.signed d)))) (λ_ i _=>fn - (intOf i).toNat)
 case atStart=>exact⟨0,jQ _,rfl,jq (vQ _ _),jq (aK.nil _ _)⟩
 case round=>
  obtain⟨k,hk,rfl,HB,HO⟩:=hrel;have an:=HB.out.size;by_cases aa:k<fn
  ·obtain⟨y,ab⟩:∃ y,x.fresh[k]?=some y:=⟨_,aQ (by rw[HN.out];exact aa)⟩;have jK:=DW.out.keep iw HB.out;obtain⟨b,o,rfl⟩:=CA (k:=k) jK (by rw[HN.out];exact aa);obtain⟨bG,hat⟩:=zy jK ab;clear jK;have h0:=hat.c0;have h1:=hat.c1;have HT:Hid ((x.fresh.take (k+1)).map (Np.js x.signed d)=(x.fresh.take k).map (Np.js x.signed d) ++ [Np.js x.signed d y]):=jq (by
    obtain⟨hl,he⟩:=cQ.1 ab;rw[fQ hl,he,List.map_append];rfl)
   have HL:Hid (((x.fresh.take k).map (Np.js x.signed d)).length<=100000):=jq (by rw[List.length_map,List.length_take];omega);have HY:=jq (HF.out y (gQ ab));have cZ:b<wr.heap.size:=by omega
   obtain⟨f,u⟩:=y;have bO:(0:Int)<=(k:Int):=by omega
   have bM:(k:Int)<(fn:Int):=by omega
   clear ab hat;dsimp only at h0 h1;obtain⟨w2,ai⟩:∃ w2,wr.alloc (.cells #[.int .i64 f,.int .i64 u] 110)=w2:=⟨_,rfl⟩;have ac:Below wr.heap.size wr w2:=by rw[<-ai];exact (vQ _ _).alloc (bQ _) _
   have aj:Hid (Below W1.heap.size W1 w2):=jq (HB.out.trans (ac.mono an));have dG:=jq (HO.out.keep ac);have p0:w2.cell? ⟨wr.heap.size,0,none⟩=some (.int .i64 f):=by rw[<-ai];simp[go_sem]
   have p1:w2.cell? ⟨wr.heap.size,1,none⟩=some (.int .i64 u):=by rw[<-ai];simp[go_sem]
   have aJ:wr.heap.size<w2.heap.size:=by rw[<-ai];simp
   clear ac;go_wp2_with (fail);clear ai p0 p1 h0 h1;refine (SK x.signed HX.out d f u uP (by have h:=HY.out;have h1:0<=f:=h.1;have h2:f<u:=h.2.1;have h3:u<=10000000:=h.2.2;omega) X (X+1) gA gn gc w2 (by omega) (by omega) ((cl aj.out (by omega)).trans HK.out.1) ((cl aj.out (by omega)).trans HK.out.2.1) ((cl aj.out (by omega)).trans HK.out.2.2) (eB.out.later ep gp aj.out)).mono ?_;rintro e w3 ⟨rfl,ak⟩;obtain⟨u',hu'⟩:∃ a,max u (Np.eu x.signed d u)=a:=⟨_,rfl⟩;rw[hu'];have HG:Hid (Np.js x.signed d ⟨f,u⟩=⟨f,u'⟩):=jq (by unfold Np.js;rw[hu']);have ar:=jq (aj.out.trans (ak.mono (by omega)));have gh:=jq (dG.out.keep ak);have el:=ak.size;clear ak hu';go_wp2_with (at_builtin;refine CK _ rfl _ _ rfl W1.heap.size _ ((x.fresh.take k).map (Np.js x.signed d)) rfl (gh.out.alloc _) w3.heap.size f u' (by simp[go_sem]) (by simp[go_sem]) (by simp[go_sem]) HL.out (by simp;omega) ?_;intro v5 w5 fZ aI;have H5:=jq (And.intro fZ aI);clear fZ aI);go_roundw
   case rel=>exact⟨k+1,by omega,by go_num,jq ((ar.out.alloc (by omega) _).trans H5.out.2),jq (by rw[HT.out,HG.out];exact H5.out.1)⟩
   case measure=>simp[intOf] <;> omega
  ·have HE':Hid (x.fresh.take k=x.fresh):=jq (kQ (by rw[HN.out];omega));rw[HE'.out] at HO;have iB:Hid (∀ s∈x.fresh.map (Np.js x.signed d),Np.xy s):=jq (λs hs=>by
    obtain⟨r,hr,rfl⟩:=List.mem_map.1 hs;exact Np.SM HX.out uP (HF.out r hr))
   have sm:Hid ((x.fresh.map (Np.js x.signed d)).length<=20000):=jq (by rw[List.length_map,HN.out];exact La);have jP:=jq (HO.out.slr (by have:=sm.out;omega));go_wp2_with fail;refine (Mz _ (x.fresh.map (Np.js x.signed d)) sm.out iB.out wr jP.out).mono ?_;rintro e w5 ⟨v5,rfl,fZ,aI⟩;have Pp:Hid (Below w.heap.size w w5):=jq (aq.out.trans ((HB.out.trans (aI.mono an)).mono aq.out.size));have mX:Hid (aK w.heap.size w5 v5 (Np.kj x d)):=jq (fZ.weak (by omega));clear fZ aI;go_wp2_with fail;go_ret;exact⟨_,rfl,mX.out,Pp.out⟩
end
end Go.Proofs.YtfnopgdcaanaiaaGreatDoor
