/- Parts of the proof. No condition. -/
import Derived.Test.YtfnopgdcaanaiaaGreatDoorV22
set_option linter.all false
set_option maxRecDepth 100000
set_option maxHeartbeats 8000000
namespace Go.Proofs.YtfnopgdcaanaiaaGreatDoor
open Go.Proofs.Tryz
section
open Go.RowKit
theorem J1{α:Type}{R:aPK α}{sz:Nat}{w:World}{B n c:Nat}{A:Option Addr}{xs:List α}(h:SlR R sz w B (.slice A n c) xs):xs.length=n:=by
 obtain⟨A',c',h1,_⟩:=aj h;simp only[Value.slice.injEq] at h1;exact h1.2.1.symm
theorem Np.Q7:∀ (l:List Np.Span) (p:Option Int),Np.ApartS l->(∀ s∈l,0<=s.frm/\s.til<=20000000)->(∀ u,p=some u->∀ s∈l,u<s.frm)->Np.iZ p l=true
 | [],_,_,_,_=>by unfold Np.iZ;rfl
 | s::r,p,ha,hb,hp=>by
   have h1:=hb s (List.mem_cons_self ..);have h2:=ha.full s (List.mem_cons_self ..);have ih:=Np.Q7 r (some s.til) ha.tail (λx hx=>hb x (mQ _ hx)) (λu hu x hx=>by cases hu;exact (List.pairwise_cons.1 ha.apart).1 x hx);unfold Np.iZ;rw[ih,Bool.and_true]
   cases p with
   | none=>simp[Np.il,h1,h2]
   | some u=>simp[Np.il,h1,h2,hp u rfl s (List.mem_cons_self ..)]
theorem Np.aAQ{h:Np.Hist}(v:Np.VHist h){zone:List UInt8}(hl:(Np.cL h.copies zone).length<=20000){x:Np.Held}(hx:x∈Np.pub h.copies zone){d:Int}(hd:0<=d/\d<=1000)(D9:x.signed.set.life<=100000):Np.jp (Np.gN x d)=true:=by
 obtain⟨_,_,m3,_,m5⟩:=Np.ED v.full hx;have h1:x.fresh.length<=20000:=by
  have hx':=hx;unfold Np.pub Np.kH at hx';obtain⟨s,_,rfl⟩:=List.mem_map.1 hx';exact yQ (mO _) (yQ (Cr _ _) hl)
 have h2:(Np.gN x d).length<=20000:=by
  unfold Np.gN;refine yQ (mO _) ?_;rw[List.length_map];exact h1
 have ha:=Np.azY (d:=d) m3.full;unfold Np.jp;rw[uQ h2,Bool.true_and];refine Np.Q7 _ _ ha (λs hs=>?_) (λu hu=>by cases hu);have hf:=ha.full s hs;obtain⟨r,hr,k1,_⟩:=(Np.Pn (t:=s.frm) m3.full).1 ⟨s,hs,Int.le_refl _,hf⟩;obtain⟨q,hq,_,k4⟩:=(Np.Pn (t:=s.til - 1) m3.full).1 ⟨s,hs,by omega,by omega⟩;obtain⟨c,hc,_,_,e1,_⟩:=(m5 r.frm).1 ⟨r,hr,Int.le_refl _,m3.full r hr⟩;have hqf:=m3.full q hq;obtain⟨c2,dV,_,_,_,e2⟩:=(m5 (q.til - 1)).1 ⟨q,hq,by omega,by omega⟩;have e3:=(v.each c hc).times;have e4:=(v.each c2 dV).times;have e5:=v.stop;have e6:Np.im x.signed d q.til<=q.til - 1+max x.signed.set.life 1+2 * d:=by
  unfold Np.im
  cases x.signed.sigs with
  | nil=>dsimp only;omega
  | cons g r=>dsimp only;omega
 omega
structure Np.UseB(x:Np.Signed):Prop where
 life:0<=x.set.life/\x.set.life<=1000000
 sig:∀ g r,x.sigs=g::r->0<=g.til/\g.til<=100000000
theorem Wj(x:Np.Signed)(hx:Np.UseB x)(d f u:Int)(vH:0<=d/\d<=1000)(Yt:0<=u/\u<=100000000)(X D:Nat)(gA:Option Addr)(gn gc:Nat)(w:World)(hX:X<w.heap.size)(hD:D<w.heap.size)
 (hl:w.cell? ⟨X,3,none⟩=some (.int .i64 x.set.life)) (hg:w.cell? ⟨X,5,none⟩=some (.slice gA gn gc)) (hd:w.cell? ⟨D,0,none⟩=some (.int .i64 d)) (hs:SlR de 6 w w.heap.size (.slice gA gn gc) x.sigs) :
 Calls prog 140 #[.agg #[.int .i64 f,.int .i64 u],.pointer (some ⟨X,0,none⟩),.pointer (some ⟨D,0,none⟩)] w (aOJ w.heap.size w (.agg #[.int .i64 f,.int .i64 (max u (Np.im x d u))])):=by
 have eB:=J1 hs;obtain⟨lf,oN⟩:=aJZ x.set.life;have IR:=hx.life;rw[oN] at hl IR;have lT:max lf 1<=1000000/\1<=max lf 1:=by omega
 obtain⟨lm,pK⟩:=aJZ (max lf 1);have zm:=jq pK;rw[pK] at lT
 cases jE:x.sigs with
 | nil=>
  rw[jE] at eB;obtain rfl:gn=0:=eB.symm;have HE:Hid (Np.im x d u=u - 1+lm+2 * d):=jq (by unfold Np.im;rw[jE,oN,pK]);rw[HE.out];clear jE eB hs hx oN pK;go_enter func140,ntmps140;go_wp2_with fail;rw[<-zm.out];refine bodyPost_ret (v:=.agg #[.int .i64 f,.int .i64 (max u (u - 1+max lf 1+2 * d))]) (by simp[results,results140,go_sem]) rfl ⟨rfl,?_⟩;exact ((vQ _ _).alloc (bQ _) _).alloc (by simp) _
 | cons g r=>
  rw[jE] at hs eB;have lx:(g::r)[0]?=some g:=rfl;obtain⟨b,o,c',t,hA,bj,_,_,_,_,_,_,g4,_⟩:=pV hs lx;simp only[Value.slice.injEq] at hA;obtain⟨rfl,-,rfl⟩:=hA;have dO:=hx.sig g r jE;have HE:Hid (Np.im x d u=min (u - 1+lm+2 * d) (g.til+d+1)):=jq (by unfold Np.im;rw[jE,oN,pK]);have bK:1<=gn:=by rw[<-eB];simp
  have hk:(0:Int)<(gn:Int):=by omega
  have jj:decide ((0:Int)<(gn:Int))=true:=uQ hk;obtain⟨W,hW⟩:=aJZ ((w.alloc (.cells #[.int .i64 f,.int .i64 u] 110)).alloc (.cells #[.int .i64 0,.int .i64 0] 110));rw[HE.out];have dW:w.cell? ⟨b,o+4,none⟩=some (.int .i64 g.til):=by simpa using g4
  clear jE eB hs hx oN pK lx g4;obtain⟨gt,pJ⟩:=aJZ g.til;rw[pJ] at dW dO |-;clear pJ hW;go_enter func140,ntmps140;go_wp2_with fail;go_quiet (fail);go_wp2_with fail;rw[<-zm.out];refine bodyPost_ret (v:=.agg #[.int .i64 f,.int .i64 (max u (min (u - 1+max lf 1+2 * d) (gt+d+1)))]) (by simp[results,results140,go_sem]) rfl ⟨rfl,?_⟩;exact ((below_drewN (((vQ _ _).alloc (bQ _) _).alloc (by simp) _) _).setCell (by dsimp only;omega) _).setCell (by dsimp only;omega) _
theorem VH:∀ args w,(callFunc 140 args).run prog w = .ok (.enter 140 args) w:=enters_of func140 (by kernel_rfl) rfl
theorem Np.Nj{x:Np.Signed}(hx:Np.UseB x){d:Int}(hd:0<=d/\d<=1000){s:Np.Span}(hs:0<=s.frm/\s.frm<s.til/\s.til<=10000000):Np.zU (Np.fO x d s):=by
 have e1:Np.im x d s.til<=s.til - 1+max x.set.life 1+2 * d:=by
  unfold Np.im
  cases x.sigs with
  | nil=>dsimp only;omega
  | cons g r=>dsimp only;omega
 have h2:=hx.life;refine⟨hs.1,?_,?_⟩
 ·show s.frm<max s.til (Np.im x d s.til);omega
 ·show max s.til (Np.im x d s.til)<=20000000;omega
theorem azX(x:Np.Held)(hx:Np.UseB x.signed)(d:Int)(vH:0<=d/\d<=1000)(hf:∀ s∈x.fresh,0<=s.frm/\s.frm<s.til/\s.til<=10000000)(bw:x.fresh.length<=20000)(z s:ByteArray)(dA gA fA pA:Option Addr)(dn dc gn gc fn fc pn pc:Nat)(w:World)
 (hs:SlR de 6 w w.heap.size (.slice gA gn gc) x.signed.sigs) (hr:SlR bA 2 w w.heap.size (.slice fA fn fc) x.fresh) :
 Calls prog 62 #[.agg #[.string z,.string s,.int .i64 x.signed.set.type,.int .i64 x.signed.set.life,.slice dA dn dc,.slice gA gn gc,.slice fA fn fc,.slice pA pn pc],.int .i64 d] w λe w'=>∃ v',e = .returned v'/\aw w.heap.size w' v' (Np.gN x d)/\Below w.heap.size w w':=by
 have HX:=jq hx;have HF:=jq hf;have HS:=jq hs;have HR:=jq hr;have ed:x.fresh.length=fn:=J1 hr;have DW:fn<=fc:=by
  obtain⟨A',c',h1,h2,_⟩:=aj hr;simp only[Value.slice.injEq] at h1;omega
 have HN:=jq ed;have IU:fn<=20000:=by omega
 obtain⟨X,hX⟩:=aJZ w.heap.size;obtain⟨W1,an⟩:=aJZ ((w.alloc (.cells #[.string z,.string s,.int .i64 x.signed.set.type,.int .i64 x.signed.set.life,.slice dA dn dc,.slice gA gn gc,.slice fA fn fc,.slice pA pn pc] 57)).alloc (.cells #[.int .i64 d] 3));have aq:Below w.heap.size w W1:=by rw[<-an];exact ((vQ _ _).alloc (bQ _) _).alloc (by simp) _
 have ba:W1.heap.size=X+2:=by rw[<-an,<-hX];simp
 have k3:W1.cell? ⟨X,3,none⟩=some (.int .i64 x.signed.set.life):=by rw[<-an,<-hX];simp[go_sem]
 have k5:W1.cell? ⟨X,5,none⟩=some (.slice gA gn gc):=by rw[<-an,<-hX];simp[go_sem]
 have k6:W1.cell? ⟨X,2+4,none⟩=some (.slice fA fn fc):=by rw[<-an,<-hX];simp[go_sem]
 have kd:W1.cell? ⟨X+1,0,none⟩=some (.int .i64 d):=by rw[<-an,<-hX];simp[go_sem]
 simp only[Nat.reduceAdd] at k6;have HK:=jq (And.intro k3 (And.intro k5 kd));have dS:=jq (hs.later bH cE aq);have zC:=jq (hr.later bE dP aq);have am:=jq aq;have iK:=jq hX;have eg:=VH;clear aq hx hf hs hr ed bw k3 k5 kd;go_enter func62,ntmps62;go_wp2_with fail;clear an k6;go_loopw [6,13] (λvo i wr=>∃ (k:Nat),k<=fn/\i = .int .i64 k/\Hid (Below W1.heap.size W1 wr)/\Hid (aw W1.heap.size wr vo ((x.fresh.take k).map (Np.fO x.signed d)))) (λ_ i _=>fn - (intOf i).toNat)
 case atStart=>exact⟨0,jQ _,rfl,jq (vQ _ _),jq (aw.nil _ _)⟩
 case round=>
  obtain⟨k,hk,rfl,HB,HO⟩:=hrel;have al:=HB.out.size;by_cases aa:k<fn
  ·obtain⟨y,ab⟩:∃ y,x.fresh[k]?=some y:=⟨_,aQ (by rw[HN.out];exact aa)⟩;have ci:=zC.out.keep bE HB.out;obtain⟨b,o,rfl⟩:=nS (k:=k) ci (by rw[HN.out];exact aa);obtain⟨bB,hat⟩:=ma ci ab;clear ci;have h0:=hat.c0;have h1:=hat.c1;have HT:Hid ((x.fresh.take (k+1)).map (Np.fO x.signed d)=(x.fresh.take k).map (Np.fO x.signed d) ++ [Np.fO x.signed d y]):=jq (by
    obtain⟨hl,he⟩:=cQ.1 ab;rw[fQ hl,he,List.map_append];rfl)
   have HL:Hid (((x.fresh.take k).map (Np.fO x.signed d)).length<=100000):=jq (by rw[List.length_map,List.length_take];omega);have HY:=jq (HF.out y (gQ ab));have bR:b<wr.heap.size:=by omega
   obtain⟨f,u⟩:=y;have bF:(0:Int)<=(k:Int):=by omega
   have bL:(k:Int)<(fn:Int):=by omega
   clear ab hat;dsimp only at h0 h1;obtain⟨w2,ag⟩:=aJZ (wr.alloc (.cells #[.int .i64 f,.int .i64 u] 110));have ac:Below wr.heap.size wr w2:=by rw[<-ag];exact (vQ _ _).alloc (bQ _) _
   have ah:Hid (Below W1.heap.size W1 w2):=jq (HB.out.trans (ac.mono al));have db:=jq (HO.out.keep ac);have p0:w2.cell? ⟨wr.heap.size,0,none⟩=some (.int .i64 f):=by rw[<-ag];simp[go_sem]
   have p1:w2.cell? ⟨wr.heap.size,1,none⟩=some (.int .i64 u):=by rw[<-ag];simp[go_sem]
   have aN:wr.heap.size<w2.heap.size:=by rw[<-ag];simp
   clear ac;go_wp2_with (fail);clear ag p0 p1 h0 h1;refine (Wj x.signed HX.out d f u vH (by have h:=HY.out;have h1:0<=f:=h.1;have h2:f<u:=h.2.1;have h3:u<=10000000:=h.2.2;omega) X (X+1) gA gn gc w2 (by omega) (by omega) (aIZ ah.out HK.out.1) (aIZ ah.out HK.out.2.1) (aIZ ah.out HK.out.2.2) (dS.out.later bH cE ah.out)).mono ?_;rintro e w3 ⟨rfl,ak⟩;obtain⟨u',hu'⟩:=aJZ (max u (Np.im x.signed d u));rw[hu'];have HG:Hid (Np.fO x.signed d ⟨f,u⟩=⟨f,u'⟩):=jq (by unfold Np.fO;rw[hu']);have aA:=aIX ah ak;have iq:=jq (db.out.keep ak);have gV:=ak.size;clear ak hu';go_wp2_with (at_builtin;refine o4 _ rfl _ _ rfl W1.heap.size _ ((x.fresh.take k).map (Np.fO x.signed d)) rfl (iq.out.alloc _) w3.heap.size f u' (by simp[go_sem]) (by simp[go_sem]) (by simp[go_sem]) HL.out (by simp;omega) ?_;intro v5 w5 bS av;have H5:=jq (And.intro bS av);clear bS av);go_roundw
   case rel=>exact⟨k+1,by omega,by go_num,jq ((aA.out.alloc (by omega) _).trans H5.out.2),jq (by rw[HT.out,HG.out];exact H5.out.1)⟩
   case measure=>simp[intOf] <;> omega
  ·have HE':Hid (x.fresh.take k=x.fresh):=jq (kQ (by rw[HN.out];omega));rw[HE'.out] at HO;have jO:Hid (∀ s∈x.fresh.map (Np.fO x.signed d),Np.zU s):=jq (λs hs=>by
    obtain⟨r,hr,rfl⟩:=List.mem_map.1 hs;exact Np.Nj HX.out vH (HF.out r hr))
   have qh:Hid ((x.fresh.map (Np.fO x.signed d)).length<=20000):=jq (by rw[List.length_map,HN.out];exact IU);have sW:=jq (HO.out.slr (by have:=qh.out;omega));go_wp2_with fail;refine (PR _ (x.fresh.map (Np.fO x.signed d)) qh.out jO.out wr sW.out).mono ?_;rintro e w5 ⟨v5,rfl,bS,av⟩;have FN:Hid (Below w.heap.size w w5):=jq (am.out.trans ((HB.out.trans (av.mono al)).mono am.out.size));have lL:Hid (aw w.heap.size w5 v5 (Np.gN x d)):=jq (bS.weak (by omega));clear bS av;go_wp2_with fail;go_ret;exact⟨_,rfl,lL.out,FN.out⟩
theorem ajX(x:Np.Signed)(hx:Np.UseB x)(d u:Int)(vH:0<=d/\d<=1000)(Yt:0<=u/\u<=100000000)(sn:ByteArray)(dA:Option Addr)(dn dc:Nat)(gA:Option Addr)(gn gc:Nat)(w:World)(hs:SlR de 6 w w.heap.size (.slice gA gn gc) x.sigs) :
 Calls prog 218 #[.agg #[.string sn,.int .i64 x.set.type,.int .i64 x.set.life,.slice dA dn dc,.slice gA gn gc],.int .i64 u,.int .i64 d] w (aOJ w.heap.size w (.int .i64 (max u (Np.im x d u)))):=by
 have eB:=J1 hs;obtain⟨lf,oN⟩:=aJZ x.set.life;have IR:=hx.life;rw[oN] at IR;have lT:max 1 lf<=1000000/\1<=max 1 lf:=by omega
 obtain⟨lm,pK⟩:=aJZ (max 1 lf);have Ea:max lf 1=lm:=by omega
 have zm:=jq pK;rw[pK] at lT;rw[oN]
 cases jE:x.sigs with
 | nil=>
  rw[jE] at eB;obtain rfl:gn=0:=eB.symm;have HE:Hid (Np.im x d u=u - 1+lm+2 * d):=jq (by unfold Np.im;rw[jE,oN,Ea]);rw[HE.out];clear jE eB hs hx oN pK Ea;go_enter func218,ntmps218;go_wp2_with fail;rw[<-zm.out];refine bodyPost_ret (v:=.int .i64 (max u (u - 1+max 1 lf+2 * d))) (by simp[results,results218,go_sem]) rfl ⟨rfl,?_⟩;exact (vQ _ _).alloc (bQ _) _
 | cons g r=>
  rw[jE] at hs eB;have lx:(g::r)[0]?=some g:=rfl;obtain⟨b,o,c',t,hA,bj,_,_,_,_,_,_,g4,_⟩:=pV hs lx;simp only[Value.slice.injEq] at hA;obtain⟨rfl,-,rfl⟩:=hA;have dO:=hx.sig g r jE;have HE:Hid (Np.im x d u=min (u - 1+lm+2 * d) (g.til+d+1)):=jq (by unfold Np.im;rw[jE,oN,Ea]);have bK:1<=gn:=by rw[<-eB];simp
  have hk:(0:Int)<(gn:Int):=by omega
  have jj:decide ((0:Int)<(gn:Int))=true:=uQ hk;rw[HE.out];have dW:w.cell? ⟨b,o+4,none⟩=some (.int .i64 g.til):=by simpa using g4
  clear jE eB hs hx oN pK lx g4 Ea;obtain⟨gt,pJ⟩:=aJZ g.til;rw[pJ] at dW dO |-;clear pJ;go_enter func218,ntmps218;go_wp2_with fail;rw[<-zm.out];refine bodyPost_ret (v:=.int .i64 (max u (min (u - 1+max 1 lf+2 * d) (gt+d+1)))) (by simp[results,results218,go_sem]) rfl ⟨rfl,?_⟩;exact (vQ _ _).alloc (bQ _) _
def jr(vo:Value)(fb fo fn fc k:Nat)(sf su d:Int)(_E:Nat)(sn:ByteArray)(sty slf:Int)(dA:Option Addr)(dn dc:Nat)(gA:Option Addr)(gn gc:Nat)(e13:Value)(e15:Value)(e16:Value)(i:Nat):Value:=[vo,.slice (some ⟨fb,fo,none⟩) fn fc,.int .i64 (k:Nat),.pointer (some ⟨fb,fo+k * 2,none⟩),.pointer (some ⟨fb,fo+k * 2,none⟩),.int .i64 sf,.agg #[.string sn,.int .i64 sty,.int .i64 slf,.slice dA dn dc,.slice gA gn gc],.slice (some ⟨fb,fo,none⟩) fn fc,.int .i64 (k:Nat),.pointer (some ⟨fb,fo+k * 2,none⟩),.pointer (some ⟨fb,fo+k * 2+1,none⟩),.int .i64 su,.int .i64 d,e13,.agg #[.int .i64 sf,e13],e15,e16,undef].getD i undef
def iE(i:Nat):Nat:=[15,16,17,18,19,20,21,22,23,24,25,26,27,28,29,30,31,7].getD i 0
def Ck:List Nat:=[0,1,2,3,4,5,6,7,8,9,10,11,12,14,13,15,16].map iE
theorem oV:∀ i∈[0,1,2,3,4,5,6,7,8,9,10,11,12,14,13,15,16],iE i<34/\iE i∈Ck:=by decide
theorem wL:∀ i∈[0,1,2,3,4,5,6,7,8,9,10,11,12,14,13,15,16],∀ j∈[0,1,2,3,4,5,6,7,8,9,10,11,12,14,13,15,16],j≠i->iE i≠iE j:=by decide
theorem amY(x:Np.Held)(hx:Np.UseB x.signed)(d:Int)(vH:0<=d/\d<=1000)(hf:∀ s∈x.fresh,0<=s.frm/\s.frm<s.til/\s.til<=10000000)(bw:x.fresh.length<=20000)(sn:ByteArray)(dA gA:Option Addr)(dn dc gn gc:Nat)(v:Value)(w:World)
 (hs:SlR de 6 w w.heap.size (.slice gA gn gc) x.signed.sigs) (hr:SlR bA 2 w w.heap.size v x.fresh) :
 Calls prog 145 #[.agg #[.string sn,.int .i64 x.signed.set.type,.int .i64 x.signed.set.life,.slice dA dn dc,.slice gA gn gc],v,.int .i64 d] w λe w'=>∃ v',e = .returned v'/\aw w.heap.size w' v' (Np.gN x d)/\Below w.heap.size w w':=by
 have HX:=jq hx;have HF:=jq hf;have HS:=jq hs;obtain⟨fA,fc,rfl,DW,_⟩:=aj hr;obtain⟨fn,ed⟩:=aJZ x.fresh.length;rw[ed] at hr DW |-;have HR:=jq hr;have HN:=jq ed;have IU:fn<=20000:=by omega
 obtain⟨X,hX⟩:=aJZ w.heap.size;obtain⟨W1,an⟩:=aJZ (w.alloc (.cells #[.string sn,.int .i64 x.signed.set.type,.int .i64 x.signed.set.life,.slice dA dn dc,.slice gA gn gc] 42));have aq:Below w.heap.size w W1:=by rw[<-an];exact (vQ _ _).alloc (bQ _) _
 have ba:W1.heap.size=X+1:=by rw[<-an,<-hX];simp
 have aK:=jq (lP _ _ hX an);have dS:=jq (hs.later bH cE aq);have zC:=jq (hr.later bE dP aq);have am:=jq aq;clear aq hx hf hs hr ed bw;go_enter func145,ntmps145;go_wp2_with fail;clear an;go_loopw [7,8] (λvo i wr=>∃ (k:Nat),k<=fn/\i = .int .i64 k/\Hid (Below W1.heap.size W1 wr)/\Hid (aw W1.heap.size wr vo ((x.fresh.take k).map (Np.fO x.signed d)))) (λ_ i _=>fn - (intOf i).toNat)
 case atStart=>exact⟨0,jQ _,rfl,jq (vQ _ _),jq (aw.nil _ _)⟩
 case round=>
  obtain⟨k,hk,rfl,HB,HO⟩:=hrel;have al:=HB.out.size;by_cases aa:k<fn
  case neg=>
   have HE':Hid (x.fresh.take k=x.fresh):=jq (kQ (by rw[HN.out];omega));rw[HE'.out] at HO;have jO:Hid (Np.o7 (x.fresh.map (Np.fO x.signed d))):=jq (λs hs=>by
    obtain⟨r,hr,rfl⟩:=List.mem_map.1 hs;exact (Np.Nj HX.out vH (HF.out r hr)).2.1)
   have qh:Hid ((x.fresh.map (Np.fO x.signed d)).length<=20000):=jq (by rw[List.length_map,HN.out];exact IU);have sW:=jq (HO.out.slr (by have:=qh.out;omega));go_wp2_with fail;refine (Mm _ (x.fresh.map (Np.fO x.signed d)) qh.out jO.out wr sW.out).mono ?_;rintro e w5 ⟨v5,rfl,bS,av⟩;have FN:Hid (Below w.heap.size w w5):=jq (am.out.trans ((HB.out.trans (av.mono al)).mono am.out.size));have lL:Hid (aw w.heap.size w5 v5 (Np.gN x d)):=jq (bS.weak (by omega));clear bS av;go_wp2_with fail;go_ret;exact⟨_,rfl,lL.out,FN.out⟩
  case pos=>
   obtain⟨y,ab⟩:∃ y,x.fresh[k]?=some y:=⟨_,aQ (by rw[HN.out];exact aa)⟩;have ci:=zC.out.keep bE HB.out;obtain⟨fb,fo,rfl⟩:=nS (k:=k) ci (by rw[HN.out];exact aa);obtain⟨bB,hat⟩:=ma ci ab;clear ci;have h0:=hat.c0;have h1:=hat.c1;have HT:Hid ((x.fresh.take (k+1)).map (Np.fO x.signed d)=(x.fresh.take k).map (Np.fO x.signed d) ++ [Np.fO x.signed d y]):=jq (by
    obtain⟨hl,he⟩:=cQ.1 ab;rw[fQ hl,he,List.map_append];rfl)
   have HL:Hid (((x.fresh.take k).map (Np.fO x.signed d)).length<=100000):=jq (by rw[List.length_map,List.length_take];omega);have HY:=jq (HF.out y (gQ ab));have bR:fb<wr.heap.size:=by omega
   obtain⟨sf,su⟩:=y;have bF:(0:Int)<=(k:Int):=by omega
   have bL:(k:Int)<(fn:Int):=by omega
   clear ab hat;dsimp only at h0 h1;have K6:=jq (And.intro h0 h1);have dD:=jq (aK.out.keep HB.out (by omega));have p0:=dD.out 0 _ rfl;have p1:=dD.out 1 _ rfl;have p2:=dD.out 2 _ rfl;have p3:=dD.out 3 _ rfl;have p4:=dD.out 4 _ rfl;go_wp2_with fail;have dt:Below wr.heap.size wr wr.drew:=(vQ _ _).drew;obtain⟨w8,ik⟩:=aJZ wr.drew;rw[ik] at dt;have qH:w8.heap.size=wr.heap.size:=by rw[<-ik];rfl
   have gY:=jq (HB.out.trans (dt.mono al));have Gm:=jq (HO.out.keep dt);replace h0:=aIZ dt h0;replace h1:=aIZ dt h1;have fd:=jq (dD.out.keep dt (by omega));clear p0 p1 p2 p3 p4 dt;have p0:=fd.out 0 _ rfl;have p1:=fd.out 1 _ rfl;have p2:=fd.out 2 _ rfl;have p3:=fd.out 3 _ rfl;have p4:=fd.out 4 _ rfl;refine Cy λa0 br=>?_;have kp:=jq br;have nV:=jq (show a0.eval (.tmp 7)=u7 by rw[br];rfl);have ut:=jq (show a0.eval (.tmp 1) = .slice (some ⟨fb,fo,none⟩) fn fc by rw[br];rfl);have nW:=jq (show a0.eval (.tmp 8) = .int .i64 (k:Nat) by rw[br];rfl);have mU:=jq (show a0.eval (.tmp 3) = .pointer (some ⟨X,0,none⟩) by rw[br];rfl);have xg:=jq (show a0.eval (.tmp 2) = .int .i64 d by rw[br];rfl);have HM:=jq (show a0.tmps.size=34 by rw[br];rfl);clear br;refine wp_region_any (by kernel_rfl) ?_
   try rw[show ({ heap:=wr.heap,tape:=wr.tape,drawn:=wr.drawn+1,os:=wr.os,output:=wr.output } : World)=w8 from ik]
   try rw[ik]
   refine Fe (w:=w8) (D:=[0,1,2,3,4,5,6,7,8,9,10,11,12]) (A:=[]) (p:=13) (dst:=iE) (val:=jr u7 fb fo fn fc k sf su d X sn x.signed.set.type x.signed.set.life dA dn dc gA gn gc undef undef undef) (m:=34)
    (base:=kZ a0 34 Ck) (Fc (by kernel_rfl)) (by simp) (by simp) (Cw (by kernel_rfl)) ?_
    (λi hi=>(oV i (by simp at hi |-;omega)).1) (λi hi j hj=>wL i (by simp at hi |-;omega) j (by simp at hj |-;omega)) (λi hi=>qS (oV i (by simp at hi |-;omega)).2) ?_ ?_ _ _ _ (Held.start (λq hq=>QC q hq) HM.out)
   ·intro i hi bd;simp only[List.mem_cons,Qh,or_false] at hi;rcases hi with rfl | rfl | rfl | rfl | rfl | rfl | rfl | rfl | rfl | rfl | rfl | rfl | rfl
    all_goals first | (exfalso;simp at bd;done) | exact⟨_,rfl,rfl⟩
   ·intro i hi bd o ho a' hb aM;have k7':=aLY hb nV.out;have k1':=aLY hb ut.out;have k8':=aLY hb nW.out;have k3':=aLY hb mU.out;have k2':=aLY hb xg.out;simp[Act.eval] at k7' k1' k8' k3' k2';simp only[List.mem_cons,Qh,or_false] at hi;rcases hi with rfl | rfl | rfl | rfl | rfl | rfl | rfl | rfl | rfl | rfl | rfl | rfl | rfl
    all_goals first
     | (exfalso;simp at bd;done)
     | (cases ho
        try simp[Act.eval,Region.binds,jr,iE] at aM
        refine .inl ⟨by simp[Region.wanted],λw' hw'=>?_⟩;subst hw';simp[Oper.quietAt,Oper.quietUpon,execOp,go_sem,jr,k7',k1',k8',k3',k2',h0,h1,bF,bL,p0,p1,p2,p3,p4,aM])
   ·intro f listed a' hH hr;obtain⟨_,o,ho,aP⟩:=mem_ready.1 hr
    cases ho
    have hG:=hH.good;have hval:=λi hi hl=>hG.val i hi hl;have qA:∀ k,({ on:=k,ground:=.data } : Edge)∈_->listed.getD k false=true:=λk hk=>aP _ hk rfl;have av6:=hval 6 (by simp) (qA 6 (by simp));have av11:=hval 11 (by simp) (qA 11 (by simp));have av12:=hval 12 (by simp) (qA 12 (by simp));simp[Act.eval,jr,iE] at av6 av11 av12;simp only[wpOp];simp[Region.wanted];refine .inl ?_;simp[Oper.wp,go_sem,av6,av11,av12];refine (ajX x.signed HX.out d su vH (by have h:=HY.out;have h1:0<=sf:=h.1;have h2:sf<su:=h.2.1;have h3:su<=10000000:=h.2.2;omega) sn dA dn dc gA gn gc w8 (dS.out.later bH cE gY.out)).mono ?_;rintro e w9 ⟨rfl,hb⟩;obtain⟨u2,Jg⟩:=aJZ (max su (Np.im x.signed d su));rw[Jg];have HG:Hid (Np.fO x.signed d ⟨sf,su⟩=⟨sf,u2⟩):=jq (by unfold Np.fO;rw[Jg]);have yE:=hb.size;have fH:=aIX gY hb;have Gn:=jq (Gm.out.keep hb);have fe:=jq (fd.out.keep hb (by omega));replace h0:=aIZ hb h0;replace h1:=aIZ hb h1;clear p0 p1 p2 p3 p4 hb Jg;have p0:=fe.out 0 _ rfl;have p1:=fe.out 1 _ rfl;have p2:=fe.out 2 _ rfl;have p3:=fe.out 3 _ rfl;have p4:=fe.out 4 _ rfl;dsimp only;refine Fe (w:=w9) (D:=[0,1,2,3,4,5,6,7,8,9,10,11,12,14,13]) (A:=[13]) (p:=15) (dst:=iE) (val:=jr u7 fb fo fn fc k sf su d X sn x.signed.set.type x.signed.set.life dA dn dc gA gn gc (.int .i64 u2) undef undef) (m:=34)
     (base:=kZ a0 34 Ck) (Fc (by kernel_rfl)) (by simp) (by simp) (Cw (by kernel_rfl)) ?_
     (λi hi=>(oV i (by simp at hi |-;omega)).1) (λi hi j hj=>wL i (by simp at hi |-;omega) j (by simp at hj |-;omega)) (λi hi=>qS (oV i (by simp at hi |-;omega)).2) ?_ ?_ _ _ _ (hH.act (D':=[0,1,2,3,4,5,6,7,8,9,10,11,12,14,13]) (val':=jr u7 fb fo fn fc k sf su d X sn x.signed.set.type x.signed.set.life dA dn dc gA gn gc (.int .i64 u2) undef undef) hr (by simp) (λi hi=>by simp at hi |-;omega) (λi hi=>by simp at hi;rcases hi with rfl | rfl | rfl | rfl | rfl | rfl | rfl | rfl | rfl | rfl | rfl | rfl | rfl <;> rfl) rfl (by simp[iE]) (λj hj=>wL 13 (by simp) j (by simp at hj |-;omega) (by rintro rfl;simp at hj)) (qS (oV 13 (by simp)).2) (by simp))
    ·intro i hi bd;simp only[List.mem_cons,Qh,or_false] at hi;rcases hi with rfl | rfl | rfl | rfl | rfl | rfl | rfl | rfl | rfl | rfl | rfl | rfl | rfl | rfl | rfl
     all_goals first | (exfalso;simp at bd;done) | exact⟨_,rfl,rfl⟩
    ·intro i hi bd o ho a' hb aM;have k7':=aLY hb nV.out;have k1':=aLY hb ut.out;have k8':=aLY hb nW.out;have k3':=aLY hb mU.out;have k2':=aLY hb xg.out;simp[Act.eval] at k7' k1' k8' k3' k2';simp only[List.mem_cons,Qh,or_false] at hi;rcases hi with rfl | rfl | rfl | rfl | rfl | rfl | rfl | rfl | rfl | rfl | rfl | rfl | rfl | rfl | rfl
     all_goals first
      | (exfalso;simp at bd;done)
      | (cases ho
         try simp[Act.eval,Region.binds,jr,iE] at aM
         refine .inl ⟨by simp[Region.wanted],λw' hw'=>?_⟩;subst hw';simp[Oper.quietAt,Oper.quietUpon,execOp,go_sem,jr,k7',k1',k8',k3',k2',h0,h1,bF,bL,p0,p1,p2,p3,p4,aM])
    ·intro f listed a' hH hr;obtain⟨_,o,ho,aP⟩:=mem_ready.1 hr
     cases ho
     have hG:=hH.good;have hval:=λi hi hl=>hG.val i hi hl;have qA:∀ k,({ on:=k,ground:=.data } : Edge)∈_->listed.getD k false=true:=λk hk=>aP _ hk rfl;have av14:=hval 14 (by simp) (qA 14 (by simp));simp[Act.eval,jr,iE] at av14;simp only[wpOp];simp[Region.wanted];refine .inl ?_;simp[Oper.wp,execOp,go_sem,av14];obtain⟨wA,eE⟩:=aKQ (w9.alloc (.cells #[.int .i64 sf,.int .i64 u2] 110));rw[<-eE];have du:Below w9.heap.size w9 wA:=by rw[eE];exact (vQ _ _).alloc (bQ _) _
     have Es:wA.heap.size=w9.heap.size+1:=by rw[eE];simp
     have sK:Hid (wA.cell? ⟨w9.heap.size,0,none⟩=some (.int .i64 sf)/\wA.cell? ⟨w9.heap.size,1,none⟩=some (.int .i64 u2)):=jq (by rw[eE];exact⟨by simp[go_sem],by simp[go_sem]⟩);have eb:=aIX fH du;have xE:=jq (Gn.out.keep du);have za:=jq (fe.out.keep du (by omega));replace h0:=aIZ du h0;replace h1:=aIZ du h1;clear p0 p1 p2 p3 p4 eE du;have p0:=za.out 0 _ rfl;have p1:=za.out 1 _ rfl;have p2:=za.out 2 _ rfl;have p3:=za.out 3 _ rfl;have p4:=za.out 4 _ rfl;refine Fe (w:=wA) (D:=[0,1,2,3,4,5,6,7,8,9,10,11,12,14,13,15]) (A:=[15,13]) (p:=16) (dst:=iE) (val:=jr u7 fb fo fn fc k sf su d X sn x.signed.set.type x.signed.set.life dA dn dc gA gn gc (.int .i64 u2) (.slice (some ⟨w9.heap.size,0,none⟩) 1 1) undef) (m:=34)
      (base:=kZ a0 34 Ck) (Fc (by kernel_rfl)) (by simp) (by simp) (Cw (by kernel_rfl)) ?_
      (λi hi=>(oV i (by simp at hi |-;omega)).1) (λi hi j hj=>wL i (by simp at hi |-;omega) j (by simp at hj |-;omega)) (λi hi=>qS (oV i (by simp at hi |-;omega)).2) ?_ ?_ _ _ _ (hH.act (D':=[0,1,2,3,4,5,6,7,8,9,10,11,12,14,13,15]) (val':=jr u7 fb fo fn fc k sf su d X sn x.signed.set.type x.signed.set.life dA dn dc gA gn gc (.int .i64 u2) (.slice (some ⟨w9.heap.size,0,none⟩) 1 1) undef) hr (by simp) (λi hi=>by simp at hi |-;omega) (λi hi=>by simp at hi;rcases hi with rfl | rfl | rfl | rfl | rfl | rfl | rfl | rfl | rfl | rfl | rfl | rfl | rfl | rfl | rfl <;> rfl) rfl (by simp[iE]) (λj hj=>wL 15 (by simp) j (by simp at hj |-;omega) (by rintro rfl;simp at hj)) (qS (oV 15 (by simp)).2) (by simp))
     ·intro i hi bd;simp only[List.mem_cons,Qh,or_false] at hi;rcases hi with rfl | rfl | rfl | rfl | rfl | rfl | rfl | rfl | rfl | rfl | rfl | rfl | rfl | rfl | rfl | rfl
      all_goals first | (exfalso;simp at bd;done) | exact⟨_,rfl,rfl⟩
     ·intro i hi bd o ho a' hb aM;have k7':=aLY hb nV.out;have k1':=aLY hb ut.out;have k8':=aLY hb nW.out;have k3':=aLY hb mU.out;have k2':=aLY hb xg.out;simp[Act.eval] at k7' k1' k8' k3' k2';simp only[List.mem_cons,Qh,or_false] at hi;rcases hi with rfl | rfl | rfl | rfl | rfl | rfl | rfl | rfl | rfl | rfl | rfl | rfl | rfl | rfl | rfl | rfl
      all_goals first
       | (exfalso;simp at bd;done)
       | (cases ho
          try simp[Act.eval,Region.binds,jr,iE] at aM
          refine .inl ⟨by simp[Region.wanted],λw' hw'=>?_⟩;subst hw';simp[Oper.quietAt,Oper.quietUpon,execOp,go_sem,jr,k7',k1',k8',k3',k2',h0,h1,bF,bL,p0,p1,p2,p3,p4,aM])
     ·intro f listed a' hH hr;obtain⟨_,o,ho,aP⟩:=mem_ready.1 hr
      cases ho
      have hG:=hH.good;have hval:=λi hi hl=>hG.val i hi hl;have qA:∀ k,({ on:=k,ground:=.data } : Edge)∈_->listed.getD k false=true:=λk hk=>aP _ hk rfl;have av0:=hval 0 (by simp) (qA 0 (by simp));have av15:=hval 15 (by simp) (qA 15 (by simp));simp[jr,iE] at av0 av15;simp only[wpOp];simp[Region.wanted];refine .inl ?_;refine Kx wA (.tmp 15) (.tmp 30) rfl W1.heap.size u7 ((x.fresh.take k).map (Np.fO x.signed d)) av0 xE.out w9.heap.size sf u2 av15 sK.out.1 sK.out.2 HL.out (by omega) ?_;intro vB wB dK cr gJ;have Et:=cr.size;have dl:Hid (Below W1.heap.size W1 wB):=jq (eb.out.grown cr (by omega) (λg hg=>(World.ownsRow.lt xE.out g hg).1));have gb:=jq dK;have jN:=jq (aK.out.keep dl.out (by omega));have h0:wB.cell? ⟨fb,fo+k * 2,none⟩=some (.int .i64 sf):=aIZ dl.out ((HB.out.cell (p:=⟨fb,fo+k * 2,none⟩) (by dsimp only;omega)).symm.trans K6.out.1);have h1:wB.cell? ⟨fb,fo+k * 2+1,none⟩=some (.int .i64 su):=aIZ dl.out ((HB.out.cell (p:=⟨fb,fo+k * 2+1,none⟩) (by dsimp only;omega)).symm.trans K6.out.2);clear p0 p1 p2 p3 p4 dK cr gJ;have p0:=jN.out 0 _ rfl;have p1:=jN.out 1 _ rfl;have p2:=jN.out 2 _ rfl;have p3:=jN.out 3 _ rfl;have p4:=jN.out 4 _ rfl;refine Fe (w:=wB) (D:=[0,1,2,3,4,5,6,7,8,9,10,11,12,14,13,15,16]) (A:=[16,15,13]) (p:=17) (dst:=iE) (val:=jr u7 fb fo fn fc k sf su d X sn x.signed.set.type x.signed.set.life dA dn dc gA gn gc (.int .i64 u2) (.slice (some ⟨w9.heap.size,0,none⟩) 1 1) vB) (m:=34)
       (base:=kZ a0 34 Ck) (Fc (by kernel_rfl)) (by simp) (by simp) (Cw (by kernel_rfl)) ?_
       (λi hi=>(oV i (by simp at hi |-;omega)).1) (λi hi j hj=>wL i (by simp at hi |-;omega) j (by simp at hj |-;omega)) (λi hi=>qS (oV i (by simp at hi |-;omega)).2) ?_ ?_ _ _ _ (hH.act (D':=[0,1,2,3,4,5,6,7,8,9,10,11,12,14,13,15,16]) (val':=jr u7 fb fo fn fc k sf su d X sn x.signed.set.type x.signed.set.life dA dn dc gA gn gc (.int .i64 u2) (.slice (some ⟨w9.heap.size,0,none⟩) 1 1) vB) hr (by simp) (λi hi=>by simp at hi |-;omega) (λi hi=>by simp at hi;rcases hi with rfl | rfl | rfl | rfl | rfl | rfl | rfl | rfl | rfl | rfl | rfl | rfl | rfl | rfl | rfl | rfl <;> rfl) rfl (by simp[iE]) (λj hj=>wL 16 (by simp) j (by simp at hj |-;omega) (by rintro rfl;simp at hj)) (qS (oV 16 (by simp)).2) (by simp))
      ·intro i hi bd;simp only[List.mem_cons,Qh,or_false] at hi;rcases hi with rfl | rfl | rfl | rfl | rfl | rfl | rfl | rfl | rfl | rfl | rfl | rfl | rfl | rfl | rfl | rfl | rfl
       all_goals first | (exfalso;simp at bd;done) | exact⟨_,rfl,rfl⟩
      ·intro i hi bd o ho a' hb aM;have k7':=aLY hb nV.out;have k1':=aLY hb ut.out;have k8':=aLY hb nW.out;have k3':=aLY hb mU.out;have k2':=aLY hb xg.out;simp[Act.eval] at k7' k1' k8' k3' k2';simp only[List.mem_cons,Qh,or_false] at hi;rcases hi with rfl | rfl | rfl | rfl | rfl | rfl | rfl | rfl | rfl | rfl | rfl | rfl | rfl | rfl | rfl | rfl | rfl
       all_goals first
        | (exfalso;simp at bd;done)
        | (cases ho
           try simp[Act.eval,Region.binds,jr,iE] at aM
           refine .inl ⟨by simp[Region.wanted],λw' hw'=>?_⟩;subst hw';simp[Oper.quietAt,Oper.quietUpon,execOp,go_sem,jr,k7',k1',k8',k3',k2',h0,h1,bF,bL,p0,p1,p2,p3,p4,aM])
      ·intro f listed a' hH hr;obtain⟨_,o,ho,aP⟩:=mem_ready.1 hr
       cases ho
       have hG:=hH.good;have hval:=λi hi hl=>hG.val i hi hl;have qA:∀ k,({ on:=k,ground:=.data } : Edge)∈_->listed.getD k false=true:=λk hk=>aP _ hk rfl;obtain⟨rfl,qz⟩:=hH.all hr (by kernel_rfl);have av16:=hval 16 (by simp) (qz 16 (by simp) (by simp));simp[Act.eval,jr,iE] at av16;have Oc:=Held.frame (D:=[0,1,2,3,4,5,6,7,8,9,10,11,12,14,13,15,16]) (dst:=iE) (a0:=a0) (m:=34) hH HM.out (λi hi=>qz i (by simp at hi |-;omega) (by simp at hi;omega)) (λi hi=>(oV i (by simp at hi |-;omega)).1);simp only[wpOp];simp[Region.wanted];refine .inl ?_;simp[Oper.wp,execOp,go_sem,av16];refine⟨JS (λi hi=>?_) (by rw[Array.size_setIfInBounds];exact hG.size),?_⟩
       ·by_cases hip:i=17
        ·subst hip;have hs:17<listed.size:=by rw[hG.size];exact hi
         simp[Array.getD,hs]
        ·exact uf (qz i hi hip)
       ·rw[Oc,kp.out];simp[lF,Act.put,jr,iE];clear Oc hval qA qz aP hG hH;clear p0 p1 p2 p3 p4 h0 h1;go_wp2_with fail;go_roundw
        case rel=>exact⟨k+1,by omega,by go_num,dl,jq (by rw[HT.out,HG.out];exact gb.out)⟩
        case measure=>simp[intOf] <;> omega
end
end Go.Proofs.YtfnopgdcaanaiaaGreatDoor
