/- Parts of the proof. No condition. -/
import Derived.Test.YtfnopgdcaanaiaaGreatDoorT23
set_option linter.all false
set_option maxRecDepth 100000
set_option maxHeartbeats 8000000
namespace Go.Proofs.YtfnopgdcaanaiaaGreatDoor
open Go.Proofs.Tryz
section
open Go.RowKit
def Np.qv(h:Np.Hist)(z:List UInt8):Prop:=Np.VHist h/\Np.aG z=true
def Np.rZ(h:Np.Hist)(z:List UInt8):Prop:=∃ c∈h.copies,c.zone.apex=z
theorem LJ{α:Type}{R:agJ α}{sz:Nat}{w:World}{B n c:Nat}{A:Option Addr}{xs:List α}(h:SlR R sz w B (.slice A n c) xs):xs.length=n:=by
 obtain⟨A',c',h1,_⟩:=ar h;simp only[Value.slice.injEq] at h1;exact h1.2.1.symm
theorem Np.LQ:∀ (l:List Np.Span) (p:Option Int),Np.ApartS l->(∀ s∈l,0<=s.frm/\s.til<=20000000)->(∀ u,p=some u->∀ s∈l,u<s.frm)->Np.ix p l=true
 | [],_,_,_,_=>by unfold Np.ix;rfl
 | s::r,p,ha,hb,hp=>by
   have h1:=hb s (List.mem_cons_self ..);have h2:=ha.full s (List.mem_cons_self ..);have ih:=Np.LQ r (some s.til) ha.tail (λx hx=>hb x (mQ _ hx)) (λu hu x hx=>by cases hu;exact (List.pairwise_cons.1 ha.apart).1 x hx);unfold Np.ix;rw[ih,Bool.and_true]
   cases p with
   | none=>simp[Np.fP,h1,h2]
   | some u=>simp[Np.fP,h1,h2,hp u rfl s (List.mem_cons_self ..)]
theorem Np.XZ{h:Np.Hist}(v:Np.VHist h){zone:List UInt8}(hl:(Np.ci h.copies zone).length<=20000){x:Np.Held}(hx:x∈Np.pub h.copies zone){d:Int}(hd:0<=d/\d<=1000)(An:x.signed.set.life<=100000):Np.js (Np.fo x d)=true:=by
 obtain⟨_,_,m3,_,m5⟩:=Np.rp v.full hx;have h1:x.fresh.length<=20000:=by
  have hx':=hx;unfold Np.pub Np.pg at hx';obtain⟨s,_,rfl⟩:=List.mem_map.1 hx';exact yQ (rq _) (yQ (BB _ _) hl)
 have h2:(Np.fo x d).length<=20000:=by
  unfold Np.fo;refine yQ (rq _) ?_;rw[List.length_map];exact h1
 have ha:=Np.XY (d:=d) m3.full;unfold Np.js;rw[uQ h2,Bool.true_and];refine Np.LQ _ _ ha (λs hs=>?_) (λu hu=>by cases hu);have hf:=ha.full s hs;obtain⟨r,hr,k1,_⟩:=(Np.xd (t:=s.frm) m3.full).1 ⟨s,hs,Int.le_refl _,hf⟩;obtain⟨q,hq,_,k4⟩:=(Np.xd (t:=s.til - 1) m3.full).1 ⟨s,hs,by omega,by omega⟩;obtain⟨c,hc,_,_,e1,_⟩:=(m5 r.frm).1 ⟨r,hr,Int.le_refl _,m3.full r hr⟩;have hqf:=m3.full q hq;obtain⟨c2,dZ,_,_,_,e2⟩:=(m5 (q.til - 1)).1 ⟨q,hq,by omega,by omega⟩;have e3:=(v.each c hc).times;have e4:=(v.each c2 dZ).times;have e5:=v.stop;have e6:Np.gP x.signed d q.til<=q.til - 1+max x.signed.set.life 1+2 * d:=by
  unfold Np.gP
  cases x.signed.sigs with
  | nil=>dsimp only;omega
  | cons g r=>dsimp only;omega
 omega
structure Np.UseB(x:Np.Signed):Prop where
 life:0<=x.set.life/\x.set.life<=1000000
 sig:∀ g r,x.sigs=g::r->0<=g.til/\g.til<=100000000
theorem Rl(x:Np.Signed)(hx:Np.UseB x)(d f u:Int)(vr:0<=d/\d<=1000)(hu0:0<=u/\u<=100000000)(X D:Nat)(gA:Option Addr)(gn gc:Nat)(w:World)(hX:X<w.heap.size)(hD:D<w.heap.size)
 (hl:w.cell? ⟨X,3,none⟩=some (.int .i64 x.set.life)) (hg:w.cell? ⟨X,5,none⟩=some (.slice gA gn gc)) (hd:w.cell? ⟨D,0,none⟩=some (.int .i64 d)) (hs:SlR cr 6 w w.heap.size (.slice gA gn gc) x.sigs) :
 Calls prog 140 #[.agg #[.int .i64 f,.int .i64 u],.pointer (some ⟨X,0,none⟩),.pointer (some ⟨D,0,none⟩)] w (agQ w.heap.size w (.agg #[.int .i64 f,.int .i64 (max u (Np.gP x d u))])):=by
 have gD:=LJ hs;obtain⟨lf,vL⟩:=abY x.set.life;have SZ:=hx.life;rw[vL] at hl SZ;have Ee:max lf 1<=1000000/\1<=max lf 1:=by omega
 obtain⟨lm,sM⟩:=abY (max lf 1);have yv:=jq sM;rw[sM] at Ee
 cases iT:x.sigs with
 | nil=>
  rw[iT] at gD;obtain rfl:gn=0:=gD.symm;have HE:Hid (Np.gP x d u=u - 1+lm+2 * d):=jq (by unfold Np.gP;rw[iT,vL,sM]);rw[HE.out];clear iT gD hs hx vL sM;go_enter func140,ntmps140;go_wp2_with fail;rw[<-yv.out];refine bodyPost_ret (v:=.agg #[.int .i64 f,.int .i64 (max u (u - 1+max lf 1+2 * d))]) (by simp[results,results140,go_sem]) rfl ⟨rfl,?_⟩;exact ((vQ _ _).alloc (bQ _) _).alloc (by simp) _
 | cons g r=>
  rw[iT] at hs gD;have kK:(g::r)[0]?=some g:=rfl;obtain⟨b,o,c',t,hA,du,_,_,_,_,_,_,g4,_⟩:=xz hs kK;simp only[Value.slice.injEq] at hA;obtain⟨rfl,-,rfl⟩:=hA;have fw:=hx.sig g r iT;have HE:Hid (Np.gP x d u=min (u - 1+lm+2 * d) (g.til+d+1)):=jq (by unfold Np.gP;rw[iT,vL,sM]);have co:1<=gn:=by rw[<-gD];simp
  have hk:(0:Int)<(gn:Int):=by omega
  have fi:decide ((0:Int)<(gn:Int))=true:=uQ hk;obtain⟨W,hW⟩:=abY ((w.alloc (.cells #[.int .i64 f,.int .i64 u] 110)).alloc (.cells #[.int .i64 0,.int .i64 0] 110));rw[HE.out];have eF:w.cell? ⟨b,o+4,none⟩=some (.int .i64 g.til):=by simpa using g4
  clear iT gD hs hx vL sM kK g4;obtain⟨gt,pk⟩:=abY g.til;rw[pk] at eF fw |-;clear pk hW;go_enter func140,ntmps140;go_wp2_with fail;go_quiet (fail);go_wp2_with fail;rw[<-yv.out];refine bodyPost_ret (v:=.agg #[.int .i64 f,.int .i64 (max u (min (u - 1+max lf 1+2 * d) (gt+d+1)))]) (by simp[results,results140,go_sem]) rfl ⟨rfl,?_⟩;exact ((below_drewN (((vQ _ _).alloc (bQ _) _).alloc (by simp) _) _).setCell (by dsimp only;omega) _).setCell (by dsimp only;omega) _
theorem QN:∀ args w,(callFunc 140 args).run prog w = .ok (.enter 140 args) w:=enters_of func140 (by kernel_rfl) rfl
theorem Np.Rm{x:Np.Signed}(hx:Np.UseB x){d:Int}(hd:0<=d/\d<=1000){s:Np.Span}(hs:0<=s.frm/\s.frm<s.til/\s.til<=10000000):Np.uD (Np.ja x d s):=by
 have e1:Np.gP x d s.til<=s.til - 1+max x.set.life 1+2 * d:=by
  unfold Np.gP
  cases x.sigs with
  | nil=>dsimp only;omega
  | cons g r=>dsimp only;omega
 have h2:=hx.life;refine⟨hs.1,?_,?_⟩
 ·show s.frm<max s.til (Np.gP x d s.til);omega
 ·show max s.til (Np.gP x d s.til)<=20000000;omega
theorem XX(x:Np.Held)(hx:Np.UseB x.signed)(d:Int)(vr:0<=d/\d<=1000)(hf:∀ s∈x.fresh,0<=s.frm/\s.frm<s.til/\s.til<=10000000)(dG:x.fresh.length<=20000)(z s:ByteArray)(dA gA fA pA:Option Addr)(dn dc gn gc fn fc pn pc:Nat)(w:World)
 (hs:SlR cr 6 w w.heap.size (.slice gA gn gc) x.signed.sigs) (hr:SlR cm 2 w w.heap.size (.slice fA fn fc) x.fresh) :
 Calls prog 62 #[.agg #[.string z,.string s,.int .i64 x.signed.set.type,.int .i64 x.signed.set.life,.slice dA dn dc,.slice gA gn gc,.slice fA fn fc,.slice pA pn pc],.int .i64 d] w λe w'=>∃ v',e = .returned v'/\av w.heap.size w' v' (Np.fo x d)/\Below w.heap.size w w':=by
 have HX:=jq hx;have HF:=jq hf;have HS:=jq hs;have HR:=jq hr;have fY:x.fresh.length=fn:=LJ hr;have ZK:fn<=fc:=by
  obtain⟨A',c',h1,h2,_⟩:=ar hr;simp only[Value.slice.injEq] at h1;omega
 have HN:=jq fY;have Tc:fn<=20000:=by omega
 obtain⟨X,hX⟩:=abY w.heap.size;obtain⟨W1,aw⟩:=abY ((w.alloc (.cells #[.string z,.string s,.int .i64 x.signed.set.type,.int .i64 x.signed.set.life,.slice dA dn dc,.slice gA gn gc,.slice fA fn fc,.slice pA pn pc] 57)).alloc (.cells #[.int .i64 d] 3));have aq:Below w.heap.size w W1:=by rw[<-aw];exact ((vQ _ _).alloc (bQ _) _).alloc (by simp) _
 have aK:W1.heap.size=X+2:=by rw[<-aw,<-hX];simp
 have k3:W1.cell? ⟨X,3,none⟩=some (.int .i64 x.signed.set.life):=by rw[<-aw,<-hX];simp[go_sem]
 have k5:W1.cell? ⟨X,5,none⟩=some (.slice gA gn gc):=by rw[<-aw,<-hX];simp[go_sem]
 have k6:W1.cell? ⟨X,2+4,none⟩=some (.slice fA fn fc):=by rw[<-aw,<-hX];simp[go_sem]
 have kd:W1.cell? ⟨X+1,0,none⟩=some (.int .i64 d):=by rw[<-aw,<-hX];simp[go_sem]
 simp only[Nat.reduceAdd] at k6;have HK:=jq (And.intro k3 (And.intro k5 kd));have ee:=jq (hs.later cC cZ aq);have Cz:=jq (hr.later cI iw aq);have aD:=jq aq;have iF:=jq hX;have eg:=QN;clear aq hx hf hs hr fY dG k3 k5 kd;go_enter func62,ntmps62;go_wp2_with fail;clear aw k6;go_loopw [6,13] (λvo i wr=>∃ (k:Nat),k<=fn/\i = .int .i64 k/\Hid (Below W1.heap.size W1 wr)/\Hid (av W1.heap.size wr vo ((x.fresh.take k).map (Np.ja x.signed d)))) (λ_ i _=>fn - (intOf i).toNat)
 case atStart=>exact⟨0,jQ _,rfl,jq (vQ _ _),jq (av.nil _ _)⟩
 case round=>
  obtain⟨k,hk,rfl,HB,HO⟩:=hrel;have ag:=HB.out.size;by_cases aa:k<fn
  ·obtain⟨y,ac⟩:∃ y,x.fresh[k]?=some y:=⟨_,aQ (by rw[HN.out];exact aa)⟩;have jv:=Cz.out.keep cI HB.out;obtain⟨b,o,rfl⟩:=xE (k:=k) jv (by rw[HN.out];exact aa);obtain⟨bC,hat⟩:=tE jv ac;clear jv;have h0:=hat.c0;have h1:=hat.c1;have HT:Hid ((x.fresh.take (k+1)).map (Np.ja x.signed d)=(x.fresh.take k).map (Np.ja x.signed d) ++ [Np.ja x.signed d y]):=jq (by
    obtain⟨hl,he⟩:=cQ.1 ac;rw[fQ hl,he,List.map_append];rfl)
   have HL:Hid (((x.fresh.take k).map (Np.ja x.signed d)).length<=100000):=jq (by rw[List.length_map,List.length_take];omega);have HY:=jq (HF.out y (gQ ac));have cg:b<wr.heap.size:=by omega
   obtain⟨f,u⟩:=y;have cN:(0:Int)<=(k:Int):=by omega
   have cO:(k:Int)<(fn:Int):=by omega
   clear ac hat;dsimp only at h0 h1;obtain⟨w2,az⟩:=abY (wr.alloc (.cells #[.int .i64 f,.int .i64 u] 110));have ab:Below wr.heap.size wr w2:=by rw[<-az];exact (vQ _ _).alloc (bQ _) _
   have ai:Hid (Below W1.heap.size W1 w2):=jq (HB.out.trans (ab.mono ag));have bV:=jq (HO.out.keep ab);have p0:w2.cell? ⟨wr.heap.size,0,none⟩=some (.int .i64 f):=by rw[<-az];simp[go_sem]
   have p1:w2.cell? ⟨wr.heap.size,1,none⟩=some (.int .i64 u):=by rw[<-az];simp[go_sem]
   have aC:wr.heap.size<w2.heap.size:=by rw[<-az];simp
   clear ab;go_wp2_with (fail);clear az p0 p1 h0 h1;refine (Rl x.signed HX.out d f u vr (by have h:=HY.out;have h1:0<=f:=h.1;have h2:f<u:=h.2.1;have h3:u<=10000000:=h.2.2;omega) X (X+1) gA gn gc w2 (by omega) (by omega) (aaJ ai.out HK.out.1) (aaJ ai.out HK.out.2.1) (aaJ ai.out HK.out.2.2) (ee.out.later cC cZ ai.out)).mono ?_;rintro e w3 ⟨rfl,ae⟩;obtain⟨u',hu'⟩:=abY (max u (Np.gP x.signed d u));rw[hu'];have HG:Hid (Np.ja x.signed d ⟨f,u⟩=⟨f,u'⟩):=jq (by unfold Np.ja;rw[hu']);have ay:=aaK ai ae;have fp:=jq (bV.out.keep ae);have gh:=ae.size;clear ae hu';go_wp2_with (at_builtin;refine BG _ rfl _ _ rfl W1.heap.size _ ((x.fresh.take k).map (Np.ja x.signed d)) rfl (fp.out.alloc _) w3.heap.size f u' (by simp[go_sem]) (by simp[go_sem]) (by simp[go_sem]) HL.out (by simp;omega) ?_;intro v5 w5 il aA;have H5:=jq (And.intro il aA);clear il aA);go_roundw
   case rel=>exact⟨k+1,by omega,by go_num,jq ((ay.out.alloc (by omega) _).trans H5.out.2),jq (by rw[HT.out,HG.out];exact H5.out.1)⟩
   case measure=>simp[intOf] <;> omega
  ·have HE':Hid (x.fresh.take k=x.fresh):=jq (kQ (by rw[HN.out];omega));rw[HE'.out] at HO;have oF:Hid (∀ s∈x.fresh.map (Np.ja x.signed d),Np.uD s):=jq (λs hs=>by
    obtain⟨r,hr,rfl⟩:=List.mem_map.1 hs;exact Np.Rm HX.out vr (HF.out r hr))
   have um:Hid ((x.fresh.map (Np.ja x.signed d)).length<=20000):=jq (by rw[List.length_map,HN.out];exact Tc);have yF:=jq (HO.out.slr (by have:=um.out;omega));go_wp2_with fail;refine (KP _ (x.fresh.map (Np.ja x.signed d)) um.out oF.out wr yF.out).mono ?_;rintro e w5 ⟨v5,rfl,il,aA⟩;have NJ:Hid (Below w.heap.size w w5):=jq (aD.out.trans ((HB.out.trans (aA.mono ag)).mono aD.out.size));have kw:Hid (av w.heap.size w5 v5 (Np.fo x d)):=jq (il.weak (by omega));clear il aA;go_wp2_with fail;go_ret;exact⟨_,rfl,kw.out,NJ.out⟩
end
end Go.Proofs.YtfnopgdcaanaiaaGreatDoor
