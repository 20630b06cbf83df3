/- Parts of the proof. No condition. -/
import Derived.Test.YtfnopgdcaanaiaaGreatDoorM21
set_option linter.all false
set_option maxRecDepth 100000
set_option maxHeartbeats 8000000
namespace Go.Proofs.YtfnopgdcaanaiaaGreatDoor
open Go.Proofs.Tryz
section
open Go.RowKit
structure Np.UseB(x:Np.Signed):Prop where
 life:0<=x.set.life/\x.set.life<=1000000
 sig:∀ g r,x.sigs=g::r->0<=g.til/\g.til<=100000000
theorem XK(x:Np.Signed)(hx:Np.UseB x)(d f u:Int)(nN:0<=d/\d<=1000)(Z4:0<=u/\u<=100000000)(X D:Nat)(gA:Option Addr)(gn gc:Nat)(w:World)(hX:X<w.heap.size)(hD:D<w.heap.size)
 (hl:w.cell? ⟨X,3,none⟩=some (.int .i64 x.set.life)) (hg:w.cell? ⟨X,5,none⟩=some (.slice gA gn gc)) (hd:w.cell? ⟨D,0,none⟩=some (.int .i64 d)) (hs:SlR cS 6 w w.heap.size (.slice gA gn gc) x.sigs) :
 Calls prog 140 #[.agg #[.int .i64 f,.int .i64 u],.pointer (some ⟨X,0,none⟩),.pointer (some ⟨D,0,none⟩)] w (a0X w.heap.size w (.agg #[.int .i64 f,.int .i64 (max u (Np.g8 x d u))])):=by
 have eH:=Lh hs;obtain⟨lf,iw⟩:=acJ x.set.life;have zj:=hx.life;rw[iw] at hl zj;have uq:max lf 1<=1000000/\1<=max lf 1:=by omega
 obtain⟨lm,qj⟩:=acJ (max lf 1);have AB:=jq qj;rw[qj] at uq
 cases jU:x.sigs with
 | nil=>
  rw[jU] at eH;obtain rfl:gn=0:=eH.symm;have HE:Hid (Np.g8 x d u=u - 1+lm+2 * d):=jq (by unfold Np.g8;rw[jU,iw,qj]);rw[HE.out];clear jU eH hs hx iw qj;go_enter func140,ntmps140;go_wp2_with fail;rw[<-AB.out];refine bodyPost_ret (v:=.agg #[.int .i64 f,.int .i64 (max u (u - 1+max lf 1+2 * d))]) (by simp[results,results140,go_sem]) rfl ⟨rfl,?_⟩;exact ((vQ _ _).alloc (bQ _) _).alloc (by simp) _
 | cons g r=>
  rw[jU] at hs eH;have ze:(g::r)[0]?=some g:=rfl;obtain⟨b,o,c',t,hA,bA,_,_,_,_,_,_,g4,_⟩:=mr hs ze;simp only[Value.slice.injEq] at hA;obtain⟨rfl,-,rfl⟩:=hA;have dL:=hx.sig g r jU;have HE:Hid (Np.g8 x d u=min (u - 1+lm+2 * d) (g.til+d+1)):=jq (by unfold Np.g8;rw[jU,iw,qj]);have bP:1<=gn:=by rw[<-eH];simp
  have hk:(0:Int)<(gn:Int):=by omega
  have jN:decide ((0:Int)<(gn:Int))=true:=uQ hk;obtain⟨W,hW⟩:=acJ ((w.alloc (.cells #[.int .i64 f,.int .i64 u] 110)).alloc (.cells #[.int .i64 0,.int .i64 0] 110));rw[HE.out];have qi:w.cell? ⟨b,o+4,none⟩=some (.int .i64 g.til):=by simpa using g4
  clear jU eH hs hx iw qj ze g4;obtain⟨gt,sO⟩:=acJ g.til;rw[sO] at qi dL |-;clear sO hW;go_enter func140,ntmps140;go_wp2_with fail;go_quiet (fail);go_wp2_with fail;rw[<-AB.out];refine bodyPost_ret (v:=.agg #[.int .i64 f,.int .i64 (max u (min (u - 1+max lf 1+2 * d) (gt+d+1)))]) (by simp[results,results140,go_sem]) rfl ⟨rfl,?_⟩;exact ((below_drewN (((vQ _ _).alloc (bQ _) _).alloc (by simp) _) _).setCell (by dsimp only;omega) _).setCell (by dsimp only;omega) _
theorem W9:∀ args w,(callFunc 140 args).run prog w = .ok (.enter 140 args) w:=enters_of func140 (by kernel_rfl) rfl
theorem Np.OT{x:Np.Signed}(hx:Np.UseB x){d:Int}(hd:0<=d/\d<=1000){s:Np.Span}(hs:0<=s.frm/\s.frm<s.til/\s.til<=10000000):Np.Bn (Np.gi x d s):=by
 have e1:Np.g8 x d s.til<=s.til - 1+max x.set.life 1+2 * d:=by
  unfold Np.g8
  cases x.sigs with
  | nil=>dsimp only;omega
  | cons g r=>dsimp only;omega
 have h2:=hx.life;refine⟨hs.1,?_,?_⟩
 ·show s.frm<max s.til (Np.g8 x d s.til);omega
 ·show max s.til (Np.g8 x d s.til)<=20000000;omega
theorem aRZ(x:Np.Held)(hx:Np.UseB x.signed)(d:Int)(nN:0<=d/\d<=1000)(hf:∀ s∈x.fresh,0<=s.frm/\s.frm<s.til/\s.til<=10000000)(bW:x.fresh.length<=20000)(z s:ByteArray)(dA gA fA pA:Option Addr)(dn dc gn gc fn fc pn pc:Nat)(w:World)
 (hs:SlR cS 6 w w.heap.size (.slice gA gn gc) x.signed.sigs) (hr:SlR cT 2 w w.heap.size (.slice fA fn fc) x.fresh) :
 Calls prog 62 #[.agg #[.string z,.string s,.int .i64 x.signed.set.type,.int .i64 x.signed.set.life,.slice dA dn dc,.slice gA gn gc,.slice fA fn fc,.slice pA pn pc],.int .i64 d] w λe w'=>∃ v',e = .returned v'/\aJ w.heap.size w' v' (Np.ka x d)/\Below w.heap.size w w':=by
 have HX:=jq hx;have HF:=jq hf;have HS:=jq hs;have HR:=jq hr;have gj:x.fresh.length=fn:=Lh hr;have ma:fn<=fc:=by
  obtain⟨A',c',h1,h2,_⟩:=ak hr;simp only[Value.slice.injEq] at h1;omega
 have HN:=jq gj;have J5:fn<=20000:=by omega
 obtain⟨X,hX⟩:=acJ w.heap.size;obtain⟨W1,am⟩:=acJ ((w.alloc (.cells #[.string z,.string s,.int .i64 x.signed.set.type,.int .i64 x.signed.set.life,.slice dA dn dc,.slice gA gn gc,.slice fA fn fc,.slice pA pn pc] 57)).alloc (.cells #[.int .i64 d] 3));have ay:Below w.heap.size w W1:=by rw[<-am];exact ((vQ _ _).alloc (bQ _) _).alloc (by simp) _
 have bd:W1.heap.size=X+2:=by rw[<-am,<-hX];simp
 have k3:W1.cell? ⟨X,3,none⟩=some (.int .i64 x.signed.set.life):=by rw[<-am,<-hX];simp[go_sem]
 have k5:W1.cell? ⟨X,5,none⟩=some (.slice gA gn gc):=by rw[<-am,<-hX];simp[go_sem]
 have k6:W1.cell? ⟨X,2+4,none⟩=some (.slice fA fn fc):=by rw[<-am,<-hX];simp[go_sem]
 have kd:W1.cell? ⟨X+1,0,none⟩=some (.int .i64 d):=by rw[<-am,<-hX];simp[go_sem]
 simp only[Nat.reduceAdd] at k6;have HK:=jq (And.intro k3 (And.intro k5 kd));have fF:=jq (hs.later cg cY ay);have AO:=jq (hr.later eE jk ay);have av:=jq ay;have kN:=jq hX;have eg:=W9;clear ay hx hf hs hr gj bW k3 k5 kd;go_enter func62,ntmps62;go_wp2_with fail;clear am k6;go_loopw [6,13] (λvo i wr=>∃ (k:Nat),k<=fn/\i = .int .i64 k/\Hid (Below W1.heap.size W1 wr)/\Hid (aJ W1.heap.size wr vo ((x.fresh.take k).map (Np.gi x.signed d)))) (λ_ i _=>fn - (intOf i).toNat)
 case atStart=>exact⟨0,jQ _,rfl,jq (vQ _ _),jq (aJ.nil _ _)⟩
 case round=>
  obtain⟨k,hk,rfl,HB,HO⟩:=hrel;have an:=HB.out.size;by_cases ab:k<fn
  ·obtain⟨y,aa⟩:∃ y,x.fresh[k]?=some y:=⟨_,aQ (by rw[HN.out];exact ab)⟩;have el:=AO.out.keep eE HB.out;obtain⟨b,o,rfl⟩:=tp (k:=k) el (by rw[HN.out];exact ab);obtain⟨bB,hat⟩:=rM el aa;clear el;have h0:=hat.c0;have h1:=hat.c1;have HT:Hid ((x.fresh.take (k+1)).map (Np.gi x.signed d)=(x.fresh.take k).map (Np.gi x.signed d) ++ [Np.gi x.signed d y]):=jq (by
    obtain⟨hl,he⟩:=cQ.1 aa;rw[fQ hl,he,List.map_append];rfl)
   have HL:Hid (((x.fresh.take k).map (Np.gi x.signed d)).length<=100000):=jq (by rw[List.length_map,List.length_take];omega);have HY:=jq (HF.out y (gQ aa));have dK:b<wr.heap.size:=by omega
   obtain⟨f,u⟩:=y;have bJ:(0:Int)<=(k:Int):=by omega
   have bI:(k:Int)<(fn:Int):=by omega
   clear aa hat;dsimp only at h0 h1;obtain⟨w2,aj⟩:=acJ (wr.alloc (.cells #[.int .i64 f,.int .i64 u] 110));have ac:Below wr.heap.size wr w2:=by rw[<-aj];exact (vQ _ _).alloc (bQ _) _
   have ai:Hid (Below W1.heap.size W1 w2):=jq (HB.out.trans (ac.mono an));have eS:=jq (HO.out.keep ac);have p0:w2.cell? ⟨wr.heap.size,0,none⟩=some (.int .i64 f):=by rw[<-aj];simp[go_sem]
   have p1:w2.cell? ⟨wr.heap.size,1,none⟩=some (.int .i64 u):=by rw[<-aj];simp[go_sem]
   have aN:wr.heap.size<w2.heap.size:=by rw[<-aj];simp
   clear ac;go_wp2_with (fail);clear aj p0 p1 h0 h1;refine (XK x.signed HX.out d f u nN (by have h:=HY.out;have h1:0<=f:=h.1;have h2:f<u:=h.2.1;have h3:u<=10000000:=h.2.2;omega) X (X+1) gA gn gc w2 (by omega) (by omega) (aaJ ai.out HK.out.1) (aaJ ai.out HK.out.2.1) (aaJ ai.out HK.out.2.2) (fF.out.later cg cY ai.out)).mono ?_;rintro e w3 ⟨rfl,aq⟩;obtain⟨u',hu'⟩:=acJ (max u (Np.g8 x.signed d u));rw[hu'];have HG:Hid (Np.gi x.signed d ⟨f,u⟩=⟨f,u'⟩):=jq (by unfold Np.gi;rw[hu']);have ar:=acZ ai aq;have iD:=jq (eS.out.keep aq);have eR:=aq.size;clear aq hu';go_wp2_with (at_builtin;refine tw _ rfl _ _ rfl W1.heap.size _ ((x.fresh.take k).map (Np.gi x.signed d)) rfl (iD.out.alloc _) w3.heap.size f u' (by simp[go_sem]) (by simp[go_sem]) (by simp[go_sem]) HL.out (by simp;omega) ?_;intro v5 w5 dV aH;have H5:=jq (And.intro dV aH);clear dV aH);go_roundw
   case rel=>exact⟨k+1,by omega,by go_num,jq ((ar.out.alloc (by omega) _).trans H5.out.2),jq (by rw[HT.out,HG.out];exact H5.out.1)⟩
   case measure=>simp[intOf] <;> omega
  ·have HE':Hid (x.fresh.take k=x.fresh):=jq (kQ (by rw[HN.out];omega));rw[HE'.out] at HO;have fZ:Hid (∀ s∈x.fresh.map (Np.gi x.signed d),Np.Bn s):=jq (λs hs=>by
    obtain⟨r,hr,rfl⟩:=List.mem_map.1 hs;exact Np.OT HX.out nN (HF.out r hr))
   have qP:Hid ((x.fresh.map (Np.gi x.signed d)).length<=20000):=jq (by rw[List.length_map,HN.out];exact J5);have kj:=jq (HO.out.slr (by have:=qP.out;omega));go_wp2_with fail;refine (Rr _ (x.fresh.map (Np.gi x.signed d)) qP.out fZ.out wr kj.out).mono ?_;rintro e w5 ⟨v5,rfl,dV,aH⟩;have GL:Hid (Below w.heap.size w w5):=jq (av.out.trans ((HB.out.trans (aH.mono an)).mono av.out.size));have nt:Hid (aJ w.heap.size w5 v5 (Np.ka x d)):=jq (dV.weak (by omega));clear dV aH;go_wp2_with fail;go_ret;exact⟨_,rfl,nt.out,GL.out⟩
theorem C5{α:Type}{R:a1Z α}{sz:Nat}{w:World}{B:Nat}{v:Value}{xs:List α}(h:SlR R sz w B v xs):∃ A n c,v = .slice A n c:=by
 obtain⟨A,c,rfl,_⟩:=ak h;exact⟨_,_,_,rfl⟩
theorem RP(v:Value)(l:List Np.Span)(t:Int)(w:World)(h:SlR cT 2 w w.heap.size v l) :
 Calls prog 74 #[v,.int .i64 t] w (a0X w.heap.size w (.bool (Np.cN.l1 l t))):=by
 obtain⟨r,hr⟩:=acJ (Np.cN.l1 l t);rw[hr];have HR:=jq hr;have HL:=jq h;obtain⟨A,c,rfl,bq,bM⟩:=ak h;obtain⟨n,hn⟩:=acJ l.length;rw[hn] at HL bq bM |-;have HN:=jq hn;clear h hr hn;go_enter func74,ntmps74;go_wp2_with fail;go_loopw [5] (λi wr=>∃ (k:Nat),k<=n/\i = .int .i64 k/\Hid (Below w.heap.size w wr)/\Hid (∀ s∈l.take k,¬ (s.frm<=t/\t<s.til))) (λi _=>n - (intOf i).toNat)
 case atStart=>exact⟨0,jQ _,rfl,jq (vQ _ _),jq (by simp)⟩
 case round=>
  obtain⟨k,hk,rfl,HB,HQ⟩:=hrel;by_cases ab:k<n
  ·obtain⟨x,hx⟩:∃ x,l[k]?=some x:=⟨_,aQ (by rw[HN.out];exact ab)⟩;have el:=HL.out.keep eE HB.out;obtain⟨b,o,rfl⟩:=tp (k:=k) el (by rw[HN.out];exact ab);obtain⟨bB,hat⟩:=rM el hx;have h0:=hat.c0;have h1:=hat.c1;have bJ:(0:Int)<=(k:Int):=by omega
   have bI:(k:Int)<(n:Int):=by omega
   have bC:Hid (¬ (x.frm<=t/\t<x.til)->∀ s∈l.take (k+1),¬ (s.frm<=t/\t<s.til)):=jq (λh y hy=>by
    obtain⟨hl,he⟩:=cQ.1 hx;rw[fQ hl,he] at hy;rcases List.mem_append.1 hy with hy | hy
    ·exact HQ.out y hy
    ·rw[List.mem_singleton] at hy;subst hy;exact h)
   have nC:Hid ((x.frm<=t/\t<x.til)->r=true):=jq (λh=>by
    rw[<-HR.out];unfold Np.cN.l1;rw[List.any_eq_true];exact⟨x,gQ hx,by rw[uQ h.1,uQ h.2];rfl⟩)
   clear el hat hx;by_cases g1:x.frm<=t
   case neg=>
    have d1:decide (x.frm<=t)=false:=tQ g1;have HX:=jq (bC.out (λh=>g1 h.1));clear g1;go_wp2_with fail;go_roundw
    case rel=>exact⟨k+1,by omega,by go_num,HB,HX⟩
    case measure=>simp[intOf] <;> omega
   case pos=>
    have d1:decide (x.frm<=t)=true:=uQ g1;by_cases g2:t<x.til
    case neg=>
     have d2:decide (t<x.til)=false:=tQ g2;have HX:=jq (bC.out (λh=>g2 h.2));clear g1 g2;go_wp2_with fail;go_roundw
     case rel=>exact⟨k+1,by omega,by go_num,HB,HX⟩
     case measure=>simp[intOf] <;> omega
    case pos=>
     have d2:decide (t<x.til)=true:=uQ g2;have HX:=jq (nC.out ⟨g1,g2⟩);clear g1 g2;go_wp2_with fail;go_ret;exact⟨ag HX.out.symm,HB.out⟩
  ·have HX:Hid (r=false):=jq (by
    rw[<-HR.out];unfold Np.cN.l1;rw[List.any_eq_false];intro s hs h;have h1:=HQ.out s (by rw[kQ (by rw[HN.out];omega)];exact hs);rw[Bool.and_eq_true,Qa,Qa] at h;exact h1 h)
   go_wp2_with fail;go_ret;exact⟨ag HX.out.symm,HB.out⟩
theorem aCK(l:List Np.Signed)(x:Np.Signed)(sx:ByteArray)(lh:sx.data.toList=x.set.name)(dA:Option Addr)(dn dc:Nat)(gA:Option Addr)(gn gc:Nat)(v:Value)(w:World)(hl:SlR bO 5 w w.heap.size v l)(hd:SlR bR 3 w w.heap.size (.slice dA dn dc) x.set.data)(hg:SlR cS 6 w w.heap.size (.slice gA gn gc) x.sigs) :
 Calls prog 75 #[v,.agg #[.string sx,.int .i64 x.set.type,.int .i64 x.set.life,.slice dA dn dc,.slice gA gn gc]] w λe w'=>e = .returned (.bool (decide (x∈l)))/\Below w.heap.size w w':=by
 obtain⟨X,hX⟩:=acJ w.heap.size;obtain⟨w1,ah⟩:=acJ (w.alloc (.cells #[.string sx,.int .i64 x.set.type,.int .i64 x.set.life,.slice dA dn dc,.slice gA gn gc] 42));have hb:Below w.heap.size w w1:=by rw[<-ah];exact (vQ _ _).alloc (bQ _) _
 have bd:w1.heap.size=X+1:=by rw[<-ah,<-hX];simp
 have av:=jq hb;have iU:=jq (iq _ _ hX ah);have HD:=jq (hd.later bV cu hb);have HG:=jq (hg.later cg cY hb);have vJ:=hl.later bj cC hb;obtain⟨A,c,rfl,bq,bM⟩:=ak hl;obtain⟨n,hn⟩:=acJ l.length;rw[hn] at vJ bq bM |-;have HL:=jq vJ;have HN:=jq hn;have Ii:=jq lh;clear hb hd hg hl hn vJ lh;go_enter func75,ntmps75;go_wp2_with fail
 try clear ah
 go_loopw [5] (λi wr=>∃ k:Nat,k<=n/\i = .int .i64 k/\Hid (x∉l.take k)/\Hid (Below w1.heap.size w1 wr)) (λi _=>n - (intOf i).toNat)
 case atStart=>exact⟨0,jQ _,rfl,jq (by simp),jq (vQ _ _)⟩
 case round=>
  obtain⟨k,hk,rfl,cI,HB⟩:=hrel;have an:=HB.out.size;by_cases ab:k<n
  ·obtain⟨y,aa⟩:∃ y,l[k]?=some y:=⟨_,aQ (by rw[HN.out];exact ab)⟩;obtain⟨b2,o2,c2,sy,dv2,sv2,lP,Pc,_,gk,_,rq,rC,f0,f1,f2,f3,f4⟩:=fE (HL.out.later bj cC HB.out) aa;simp only[Value.slice.injEq] at lP;obtain⟨rfl,-,rfl⟩:=lP;have oD:Hid (l.take (k+1)=l.take k ++ [y]):=jq (by
    obtain⟨q1,q2⟩:=cQ.1 aa;rw[fQ q1,q2])
   have Hb:=jq (gQ aa);obtain⟨dA2,dn2,dc2,rfl⟩:=C5 rq;obtain⟨gA2,gn2,gc2,rfl⟩:=C5 rC;have pF:=jq (iU.out.keep HB.out (by omega));have bJ:(0:Int)<=(k:Int):=by omega
   have bI:(k:Int)<(n:Int):=by omega
   obtain⟨tb,qu⟩:=acJ (decide (y=x));have AU:=jq qu;have bL:∀ g:bk wr,Calls prog 20 #[.agg #[.string sy,.int .i64 y.set.type,.int .i64 y.set.life,.slice dA2 dn2 dc2,.slice gA2 gn2 gc2],.agg #[.string sx,.int .i64 x.set.type,.int .i64 x.set.life,.slice dA dn dc,.slice gA gn gc]] g.w λe w'=>e = .returned (.bool tb)/\Below g.w.heap.size g.w w':=λg=>by
    rw[<-qu];have dL:=HB.out.trans (g.below.mono an);exact Sk y x sy sx gk Ii.out _ _ _ _ g.w (rq.later bV cu g.below) (rC.later cg cY g.below) (HD.out.later bV cu dL) (HG.out.later cg cY dL)
   have HC:=jq bL;have k9:∀ (g:bk wr) (p:Addr),p.block<wr.heap.size->g.w.cell? p=wr.cell? p:=λg p h=>g.cell p h;have g0:=pF.out 0 _ rfl;have g1:=pF.out 1 _ rfl;have g2:=pF.out 2 _ rfl;have g3:=pF.out 3 _ rfl;have g4:=pF.out 4 _ rfl;have X8:X<wr.heap.size:=by omega
   have aI:b2<wr.heap.size:=by omega
   clear aa gk rq rC qu bL
   cases tb with
   | true=>
    have HX:Hid (decide (x∈l)=true):=jq (uQ (by rw[<-of_decide_eq_true AU.out];exact Hb.out));go_wp2_with fail;refine a0Z ?_
    repeat (go_big_quiet_step ((go_at_call 20;exact Calls.grow_of (HC.out _))))
    refine wpQuiet_nil ?_;rintro _ ⟨g,rfl⟩;go_wp2_with fail;go_ret;exact⟨ag HX.out.symm,by rw[hX];have:=av.out;rw[hX] at this;exact this.trans ((HB.out.trans (g.below.mono an)).adZ)⟩
   | false=>
    have HX:Hid (x∉l.take (k+1)):=jq (by
     rw[oD.out];intro hm;rcases List.mem_append.1 hm with hm | hm
     ·exact cI.out hm
     ·rw[List.mem_singleton] at hm;exact (of_decide_eq_false AU.out) hm.symm)
    go_wp2_with fail;refine a0Z ?_
    repeat (go_big_quiet_step ((go_at_call 20;exact Calls.grow_of (HC.out _))))
    refine wpQuiet_nil ?_;rintro _ ⟨g,rfl⟩;go_wp2_with fail;go_roundw
    case rel=>exact⟨k+1,by omega,by go_num,HX,jq (HB.out.trans (g.below.mono an))⟩
    case measure=>simp[intOf] <;> omega
  ·have HX:Hid (decide (x∈l)=false):=jq (tQ (by have:=cI.out;rwa [kQ (by rw[HN.out];omega)] at this));go_wp2_with fail;go_ret;exact⟨ag HX.out.symm,by rw[hX];have:=av.out;rw[hX] at this;exact this.trans (HB.out.adZ)⟩
theorem aDQ(l:List Np.Held)(z:ByteArray)(x:Np.Signed)(sx:ByteArray)(lh:sx.data.toList=x.set.name)(dA:Option Addr)(dn dc:Nat)(gA:Option Addr)(gn gc:Nat)(t:Int)(v:Value)(w:World)(hl:SlR db 8 w w.heap.size v l)(hd:SlR bR 3 w w.heap.size (.slice dA dn dc) x.set.data)(hg:SlR cS 6 w w.heap.size (.slice gA gn gc) x.sigs) :
 Calls prog 35 #[v,.string z,.agg #[.string sx,.int .i64 x.set.type,.int .i64 x.set.life,.slice dA dn dc,.slice gA gn gc],.int .i64 t] w λe w'=>e = .returned (.bool (Np.pp l z.data.toList x t))/\Below w.heap.size w w':=by
 obtain⟨r,hr⟩:=acJ (Np.pp l z.data.toList x t);rw[hr];have HR:=jq hr;obtain⟨X,hX⟩:=acJ w.heap.size;obtain⟨w1,ah⟩:=acJ (w.alloc (.cells #[.string sx,.int .i64 x.set.type,.int .i64 x.set.life,.slice dA dn dc,.slice gA gn gc] 42));have hb:Below w.heap.size w w1:=by rw[<-ah];exact (vQ _ _).alloc (bQ _) _
 have bd:w1.heap.size=X+1:=by rw[<-ah,<-hX];simp
 have av:=jq hb;have iU:=jq (iq _ _ hX ah);have HD:=jq (hd.later bV cu hb);have HG:=jq (hg.later cg cY hb);have vJ:=hl.later eY eZ hb;obtain⟨A,c,rfl,bq,bM⟩:=ak hl;obtain⟨n,hn⟩:=acJ l.length;rw[hn] at vJ bq bM |-;have HL:=jq vJ;have HN:=jq hn;have Ii:=jq lh;clear hb hd hg hl hn vJ lh hr;go_enter func35,ntmps35;go_wp2_with fail
 try clear ah
 go_loopw [9] (λi wr=>∃ k:Nat,k<=n/\i = .int .i64 k/\Hid (Np.pp (l.take k) z.data.toList x t=false)/\Hid (Below w1.heap.size w1 wr)) (λi _=>n - (intOf i).toNat)
 case atStart=>exact⟨0,jQ _,rfl,jq (by rfl),jq (vQ _ _)⟩
 case round=>
  obtain⟨k,hk,rfl,cI,HB⟩:=hrel;have an:=HB.out.size;by_cases ab:k<n
  ·obtain⟨y,aa⟩:∃ y,l[k]?=some y:=⟨_,aQ (by rw[HN.out];exact ab)⟩;obtain⟨b2,o2,zy,sy,dv2,sv2,fv2,pv2,rfl,Pc,QS,gk,rq,rC,JR,Cw,f0,f1,f2,f3,f4,f5,f6,f7⟩:=wM (HL.out.later eY eZ HB.out) aa;have oD:Hid (∀ b,(decide (y.zone=z.data.toList)&&(decide (y.signed=x)&&Np.cN.l1 y.spans t))=b->Np.pp (l.take (k+1)) z.data.toList x t=b/\(b=true->r=true)):=jq (λb hb=>by
    obtain⟨q1,q2⟩:=cQ.1 aa;have h0:=cI.out;refine⟨?_,λh=>?_⟩
    ·unfold Np.pp at h0 |-;rw[fQ q1,q2,List.any_append,h0,Bool.false_or,List.any_cons,List.any_nil,Bool.or_false];exact hb
    ·rw[<-HR.out];unfold Np.pp;rw[List.any_eq_true];exact⟨y,gQ aa,hb.trans h⟩)
   obtain⟨dA2,dn2,dc2,rfl⟩:=C5 rq;obtain⟨gA2,gn2,gc2,rfl⟩:=C5 rC;obtain⟨pA2,pn2,pc2,rfl⟩:=C5 Cw;have pF:=jq (iU.out.keep HB.out (by omega));have bJ:(0:Int)<=(k:Int):=by omega
   have bI:(k:Int)<(n:Int):=by omega
   obtain⟨tb,qu⟩:=acJ (decide (y.signed=x));obtain⟨sb,mh⟩:=acJ (Np.cN.l1 y.spans t);have bL:∀ g:bk wr,Calls prog 20 #[.agg #[.string sy,.int .i64 y.signed.set.type,.int .i64 y.signed.set.life,.slice dA2 dn2 dc2,.slice gA2 gn2 gc2],.agg #[.string sx,.int .i64 x.set.type,.int .i64 x.set.life,.slice dA dn dc,.slice gA gn gc]] g.w λe w'=>e = .returned (.bool tb)/\Below g.w.heap.size g.w w':=λg=>by
    rw[<-qu];have dL:=HB.out.trans (g.below.mono an);exact Sk y.signed x sy sx gk Ii.out _ _ _ _ g.w (rq.later bV cu g.below) (rC.later cg cY g.below) (HD.out.later bV cu dL) (HG.out.later cg cY dL)
   have BX:∀ g:bk wr,Calls prog 74 #[.slice pA2 pn2 pc2,.int .i64 t] g.w λe w'=>e = .returned (.bool sb)/\Below g.w.heap.size g.w w':=λg=>by
    rw[<-mh];exact RP _ y.spans t g.w (Cw.later eE jk g.below)
   have HC:=jq bL;have HP:=jq BX;have k9:∀ (g:bk wr) (p:Addr),p.block<wr.heap.size->g.w.cell? p=wr.cell? p:=λg p h=>g.cell p h;have g0:=pF.out 0 _ rfl;have g1:=pF.out 1 _ rfl;have g2:=pF.out 2 _ rfl;have g3:=pF.out 3 _ rfl;have g4:=pF.out 4 _ rfl;have X8:X<wr.heap.size:=by omega
   have aI:b2<wr.heap.size:=by omega
   rw[qu,mh] at oD;have Nr:=jq QS;clear aa gk rq rC JR Cw qu mh bL BX QS;by_cases uO:zy.data.toList=z.data.toList
   case neg=>
    have hze:(zy.toList == z.toList)=false:=by rw[dQ,dQ];exact beq_eq_false_iff_ne.2 uO
    have HX:=jq (oD.out false (by rw[tQ (by rw[<-Nr.out];exact uO)];rfl)).1;clear uO;go_wp2_with fail;go_quiet (fail);go_wp2_with fail;go_roundw
    case rel=>exact⟨k+1,by omega,by go_num,HX,jq (below_drewN HB.out _)⟩
    case measure=>simp[intOf] <;> omega
   case pos=>
    have hze:(zy.toList == z.toList)=true:=by rw[dQ,dQ,uO];simp
    have Vk:Hid (decide (y.zone=z.data.toList)=true):=jq (uQ (by rw[<-Nr.out];exact uO));rw[Vk.out] at oD;clear uO
    cases tb with
    | false=>
     have HX:=jq (oD.out false rfl).1;go_wp2_with fail;refine a0Z ?_
     repeat (go_big_quiet_step ((go_at_call 20;exact Calls.grow_of (HC.out _))))
     refine wpQuiet_nil ?_;rintro _ ⟨g,rfl⟩;go_wp2_with fail;go_roundw
     case rel=>exact⟨k+1,by omega,by go_num,HX,jq (HB.out.trans (g.below.mono an))⟩
     case measure=>simp[intOf] <;> omega
    | true=>
     cases sb with
     | false=>
      have HX:=jq (oD.out false rfl).1;go_wp2_with fail;refine a0Z ?_
      repeat (go_big_quiet_step (fail))
      go_big_quiet_step ((go_at_call 20;exact Calls.grow_of (HC.out _)))
      repeat (go_big_quiet_step (fail))
      go_big_quiet_step ((go_at_call 74;exact Calls.grow_of (HP.out _)))
      repeat (go_big_quiet_step (fail))
      refine wpQuiet_nil ?_;rintro _ ⟨g,rfl⟩;go_wp2_with fail;go_roundw
      case rel=>exact⟨k+1,by omega,by go_num,HX,jq (HB.out.trans (g.below.mono an))⟩
      case measure=>simp[intOf] <;> omega
     | true=>
      have HX:=jq ((oD.out true rfl).2 rfl);go_wp2_with fail;refine a0Z ?_
      repeat (go_big_quiet_step (fail))
      go_big_quiet_step ((go_at_call 20;exact Calls.grow_of (HC.out _)))
      repeat (go_big_quiet_step (fail))
      go_big_quiet_step ((go_at_call 74;exact Calls.grow_of (HP.out _)))
      repeat (go_big_quiet_step (fail))
      refine wpQuiet_nil ?_;rintro _ ⟨g,rfl⟩;go_wp2_with fail;go_ret;exact⟨ag HX.out.symm,by rw[hX];have:=av.out;rw[hX] at this;exact this.trans ((HB.out.trans (g.below.mono an)).adZ)⟩
  ·have HX:Hid (r=false):=jq (by rw[<-HR.out];have:=cI.out;rwa [kQ (by rw[HN.out];omega)] at this);go_wp2_with fail;go_ret;exact⟨ag HX.out.symm,by rw[hX];have:=av.out;rw[hX] at this;exact this.trans (HB.out.adZ)⟩
theorem aBJ(x:Np.Signed)(hx:Np.UseB x)(d u:Int)(nN:0<=d/\d<=1000)(Z4:0<=u/\u<=100000000)(sn:ByteArray)(dA:Option Addr)(dn dc:Nat)(gA:Option Addr)(gn gc:Nat)(w:World)(hs:SlR cS 6 w w.heap.size (.slice gA gn gc) x.sigs) :
 Calls prog 218 #[.agg #[.string sn,.int .i64 x.set.type,.int .i64 x.set.life,.slice dA dn dc,.slice gA gn gc],.int .i64 u,.int .i64 d] w (a0X w.heap.size w (.int .i64 (max u (Np.g8 x d u)))):=by
 have eH:=Lh hs;obtain⟨lf,iw⟩:=acJ x.set.life;have zj:=hx.life;rw[iw] at zj;have uq:max 1 lf<=1000000/\1<=max 1 lf:=by omega
 obtain⟨lm,qj⟩:=acJ (max 1 lf);have EU:max lf 1=lm:=by omega
 have AB:=jq qj;rw[qj] at uq;rw[iw]
 cases jU:x.sigs with
 | nil=>
  rw[jU] at eH;obtain rfl:gn=0:=eH.symm;have HE:Hid (Np.g8 x d u=u - 1+lm+2 * d):=jq (by unfold Np.g8;rw[jU,iw,EU]);rw[HE.out];clear jU eH hs hx iw qj EU;go_enter func218,ntmps218;go_wp2_with fail;rw[<-AB.out];refine bodyPost_ret (v:=.int .i64 (max u (u - 1+max 1 lf+2 * d))) (by simp[results,results218,go_sem]) rfl ⟨rfl,?_⟩;exact (vQ _ _).alloc (bQ _) _
 | cons g r=>
  rw[jU] at hs eH;have ze:(g::r)[0]?=some g:=rfl;obtain⟨b,o,c',t,hA,bA,_,_,_,_,_,_,g4,_⟩:=mr hs ze;simp only[Value.slice.injEq] at hA;obtain⟨rfl,-,rfl⟩:=hA;have dL:=hx.sig g r jU;have HE:Hid (Np.g8 x d u=min (u - 1+lm+2 * d) (g.til+d+1)):=jq (by unfold Np.g8;rw[jU,iw,EU]);have bP:1<=gn:=by rw[<-eH];simp
  have hk:(0:Int)<(gn:Int):=by omega
  have jN:decide ((0:Int)<(gn:Int))=true:=uQ hk;rw[HE.out];have qi:w.cell? ⟨b,o+4,none⟩=some (.int .i64 g.til):=by simpa using g4
  clear jU eH hs hx iw qj ze g4 EU;obtain⟨gt,sO⟩:=acJ g.til;rw[sO] at qi dL |-;clear sO;go_enter func218,ntmps218;go_wp2_with fail;rw[<-AB.out];refine bodyPost_ret (v:=.int .i64 (max u (min (u - 1+max 1 lf+2 * d) (gt+d+1)))) (by simp[results,results218,go_sem]) rfl ⟨rfl,?_⟩;exact (vQ _ _).alloc (bQ _) _
def lq(vo:Value)(fb fo fn fc k:Nat)(sf su d:Int)(_E:Nat)(sn:ByteArray)(sty slf:Int)(dA:Option Addr)(dn dc:Nat)(gA:Option Addr)(gn gc:Nat)(e13:Value)(e15:Value)(e16:Value)(i:Nat):Value:=[vo,.slice (some ⟨fb,fo,none⟩) fn fc,.int .i64 (k:Nat),.pointer (some ⟨fb,fo+k * 2,none⟩),.pointer (some ⟨fb,fo+k * 2,none⟩),.int .i64 sf,.agg #[.string sn,.int .i64 sty,.int .i64 slf,.slice dA dn dc,.slice gA gn gc],.slice (some ⟨fb,fo,none⟩) fn fc,.int .i64 (k:Nat),.pointer (some ⟨fb,fo+k * 2,none⟩),.pointer (some ⟨fb,fo+k * 2+1,none⟩),.int .i64 su,.int .i64 d,e13,.agg #[.int .i64 sf,e13],e15,e16,undef].getD i undef
def mZ(i:Nat):Nat:=[15,16,17,18,19,20,21,22,23,24,25,26,27,28,29,30,31,7].getD i 0
def aMZ:List Nat:=[0,1,2,3,4,5,6,7,8,9,10,11,12,14,13,15,16].map mZ
theorem uY:∀ i∈[0,1,2,3,4,5,6,7,8,9,10,11,12,14,13,15,16],mZ i<34/\mZ i∈aMZ:=by decide
theorem ya:∀ i∈[0,1,2,3,4,5,6,7,8,9,10,11,12,14,13,15,16],∀ j∈[0,1,2,3,4,5,6,7,8,9,10,11,12,14,13,15,16],j≠i->mZ i≠mZ j:=by decide
theorem aEK(x:Np.Held)(hx:Np.UseB x.signed)(d:Int)(nN:0<=d/\d<=1000)(hf:∀ s∈x.fresh,0<=s.frm/\s.frm<s.til/\s.til<=10000000)(bW:x.fresh.length<=20000)(sn:ByteArray)(dA gA:Option Addr)(dn dc gn gc:Nat)(v:Value)(w:World)
 (hs:SlR cS 6 w w.heap.size (.slice gA gn gc) x.signed.sigs) (hr:SlR cT 2 w w.heap.size v x.fresh) :
 Calls prog 145 #[.agg #[.string sn,.int .i64 x.signed.set.type,.int .i64 x.signed.set.life,.slice dA dn dc,.slice gA gn gc],v,.int .i64 d] w λe w'=>∃ v',e = .returned v'/\aJ w.heap.size w' v' (Np.ka x d)/\Below w.heap.size w w':=by
 have HX:=jq hx;have HF:=jq hf;have HS:=jq hs;obtain⟨fA,fc,rfl,ma,_⟩:=ak hr;obtain⟨fn,gj⟩:=acJ x.fresh.length;rw[gj] at hr ma |-;have HR:=jq hr;have HN:=jq gj;have J5:fn<=20000:=by omega
 obtain⟨X,hX⟩:=acJ w.heap.size;obtain⟨W1,am⟩:=acJ (w.alloc (.cells #[.string sn,.int .i64 x.signed.set.type,.int .i64 x.signed.set.life,.slice dA dn dc,.slice gA gn gc] 42));have ay:Below w.heap.size w W1:=by rw[<-am];exact (vQ _ _).alloc (bQ _) _
 have bd:W1.heap.size=X+1:=by rw[<-am,<-hX];simp
 have az:=jq (iq _ _ hX am);have fF:=jq (hs.later cg cY ay);have AO:=jq (hr.later eE jk ay);have av:=jq ay;clear ay hx hf hs hr gj bW;go_enter func145,ntmps145;go_wp2_with fail;clear am;go_loopw [7,8] (λvo i wr=>∃ (k:Nat),k<=fn/\i = .int .i64 k/\Hid (Below W1.heap.size W1 wr)/\Hid (aJ W1.heap.size wr vo ((x.fresh.take k).map (Np.gi x.signed d)))) (λ_ i _=>fn - (intOf i).toNat)
 case atStart=>exact⟨0,jQ _,rfl,jq (vQ _ _),jq (aJ.nil _ _)⟩
 case round=>
  obtain⟨k,hk,rfl,HB,HO⟩:=hrel;have an:=HB.out.size;by_cases ab:k<fn
  case neg=>
   have HE':Hid (x.fresh.take k=x.fresh):=jq (kQ (by rw[HN.out];omega));rw[HE'.out] at HO;have fZ:Hid (Np.pC (x.fresh.map (Np.gi x.signed d))):=jq (λs hs=>by
    obtain⟨r,hr,rfl⟩:=List.mem_map.1 hs;exact (Np.OT HX.out nN (HF.out r hr)).2.1)
   have qP:Hid ((x.fresh.map (Np.gi x.signed d)).length<=20000):=jq (by rw[List.length_map,HN.out];exact J5);have kj:=jq (HO.out.slr (by have:=qP.out;omega));go_wp2_with fail;refine (NL _ (x.fresh.map (Np.gi x.signed d)) qP.out fZ.out wr kj.out).mono ?_;rintro e w5 ⟨v5,rfl,dV,aH⟩;have GL:Hid (Below w.heap.size w w5):=jq (av.out.trans ((HB.out.trans (aH.mono an)).mono av.out.size));have nt:Hid (aJ w.heap.size w5 v5 (Np.ka x d)):=jq (dV.weak (by omega));clear dV aH;go_wp2_with fail;go_ret;exact⟨_,rfl,nt.out,GL.out⟩
  case pos=>
   obtain⟨y,aa⟩:∃ y,x.fresh[k]?=some y:=⟨_,aQ (by rw[HN.out];exact ab)⟩;have el:=AO.out.keep eE HB.out;obtain⟨fb,fo,rfl⟩:=tp (k:=k) el (by rw[HN.out];exact ab);obtain⟨bB,hat⟩:=rM el aa;clear el;have h0:=hat.c0;have h1:=hat.c1;have HT:Hid ((x.fresh.take (k+1)).map (Np.gi x.signed d)=(x.fresh.take k).map (Np.gi x.signed d) ++ [Np.gi x.signed d y]):=jq (by
    obtain⟨hl,he⟩:=cQ.1 aa;rw[fQ hl,he,List.map_append];rfl)
   have HL:Hid (((x.fresh.take k).map (Np.gi x.signed d)).length<=100000):=jq (by rw[List.length_map,List.length_take];omega);have HY:=jq (HF.out y (gQ aa));have dK:fb<wr.heap.size:=by omega
   obtain⟨sf,su⟩:=y;have bJ:(0:Int)<=(k:Int):=by omega
   have bI:(k:Int)<(fn:Int):=by omega
   clear aa hat;dsimp only at h0 h1;have Mj:=jq (And.intro h0 h1);have ek:=jq (az.out.keep HB.out (by omega));have p0:=ek.out 0 _ rfl;have p1:=ek.out 1 _ rfl;have p2:=ek.out 2 _ rfl;have p3:=ek.out 3 _ rfl;have p4:=ek.out 4 _ rfl;go_wp2_with fail;have cL:Below wr.heap.size wr wr.drew:=(vQ _ _).drew;obtain⟨w8,eB⟩:=acJ wr.drew;rw[eB] at cL;have n7:w8.heap.size=wr.heap.size:=by rw[<-eB];rfl
   have eF:=jq (HB.out.trans (cL.mono an));have Hp:=jq (HO.out.keep cL);replace h0:=aaJ cL h0;replace h1:=aaJ cL h1;have cH:=jq (ek.out.keep cL (by omega));clear p0 p1 p2 p3 p4 cL;have p0:=cH.out 0 _ rfl;have p1:=cH.out 1 _ rfl;have p2:=cH.out 2 _ rfl;have p3:=cH.out 3 _ rfl;have p4:=cH.out 4 _ rfl;refine De λa0 bw=>?_;have jA:=jq bw;have ox:=jq (show a0.eval (.tmp 7)=u7 by rw[bw];rfl);have vg:=jq (show a0.eval (.tmp 1) = .slice (some ⟨fb,fo,none⟩) fn fc by rw[bw];rfl);have yh:=jq (show a0.eval (.tmp 8) = .int .i64 (k:Nat) by rw[bw];rfl);have m9:=jq (show a0.eval (.tmp 3) = .pointer (some ⟨X,0,none⟩) by rw[bw];rfl);have rS:=jq (show a0.eval (.tmp 2) = .int .i64 d by rw[bw];rfl);have HM:=jq (show a0.tmps.size=34 by rw[bw];rfl);clear bw;refine wp_region_any (by kernel_rfl) ?_
   try rw[show ({ heap:=wr.heap,tape:=wr.tape,drawn:=wr.drawn+1,os:=wr.os,output:=wr.output } : World)=w8 from eB]
   try rw[eB]
   refine gl 13 (D:=[0,1,2,3,4,5,6,7,8,9,10,11,12]) (val:=lq u7 fb fo fn fc k sf su d X sn x.signed.set.type x.signed.set.life dA dn dc gA gn gc undef undef undef) uY ya (rr HM.out) (by kernel_rfl) ?_ ?_
   ·intro i aR bS o ho a' hb aP;have k7':=aZJ hb ox.out;have k1':=aZJ hb vg.out;have k8':=aZJ hb yh.out;have k3':=aZJ hb m9.out;have k2':=aZJ hb rS.out;simp[Act.eval] at k7' k1' k8' k3' k2'
    repeat' (rcases aR with _ | ⟨_,aR⟩)
    all_goals first
     | (exfalso;simp at bS;done)
     | (cases ho
        try simp[Act.eval,Region.binds,lq,mZ] at aP
        refine gv (by simp[Region.wanted]) ?_;simp[Oper.quietAt,Oper.quietUpon,execOp,go_sem,lq,k7',k1',k8',k3',k2',h0,h1,bJ,bI,p0,p1,p2,p3,p4,aP])
   ·intro f listed a' hH hr hv;have av6:=hv 6;have av11:=hv 11;have av12:=hv 12;simp[Act.eval,lq,mZ] at av6 av11 av12;simp only[wpOp];simp[Region.wanted];refine .inl ?_;simp[Oper.wp,go_sem,av6,av11,av12];refine (aBJ x.signed HX.out d su nN (by have h:=HY.out;have h1:0<=sf:=h.1;have h2:sf<su:=h.2.1;have h3:su<=10000000:=h.2.2;omega) sn dA dn dc gA gn gc w8 (fF.out.later cg cY eF.out)).mono ?_;rintro e w9 ⟨rfl,hb⟩;obtain⟨u2,Kp⟩:=acJ (max su (Np.g8 x.signed d su));rw[Kp];have HG:Hid (Np.gi x.signed d ⟨sf,su⟩=⟨sf,u2⟩):=jq (by unfold Np.gi;rw[Kp]);have qv:=hb.size;have cR:=acZ eF hb;have tM:=jq (Hp.out.keep hb);have cm:=jq (cH.out.keep hb (by omega));replace h0:=aaJ hb h0;replace h1:=aaJ hb h1;clear p0 p1 p2 p3 p4 hb Kp;have p0:=cm.out 0 _ rfl;have p1:=cm.out 1 _ rfl;have p2:=cm.out 2 _ rfl;have p3:=cm.out 3 _ rfl;have p4:=cm.out 4 _ rfl;dsimp only;refine gl 15 (D:=[0,1,2,3,4,5,6,7,8,9,10,11,12,14,13]) (val:=lq u7 fb fo fn fc k sf su d X sn x.signed.set.type x.signed.set.life dA dn dc gA gn gc (.int .i64 u2) undef undef) uY ya (hH.next uY ya hr) (by kernel_rfl) ?_ ?_
    ·intro i aR bS o ho a' hb aP;have k7':=aZJ hb ox.out;have k1':=aZJ hb vg.out;have k8':=aZJ hb yh.out;have k3':=aZJ hb m9.out;have k2':=aZJ hb rS.out;simp[Act.eval] at k7' k1' k8' k3' k2'
     repeat' (rcases aR with _ | ⟨_,aR⟩)
     all_goals first
      | (exfalso;simp at bS;done)
      | (cases ho
         try simp[Act.eval,Region.binds,lq,mZ] at aP
         refine gv (by simp[Region.wanted]) ?_;simp[Oper.quietAt,Oper.quietUpon,execOp,go_sem,lq,k7',k1',k8',k3',k2',h0,h1,bJ,bI,p0,p1,p2,p3,p4,aP])
    ·intro f listed a' hH hr hv;have av14:=hv 14;simp[Act.eval,lq,mZ] at av14;simp only[wpOp];simp[Region.wanted];refine .inl ?_;simp[Oper.wp,execOp,go_sem,av14];obtain⟨wA,fz⟩:=acY (w9.alloc (.cells #[.int .i64 sf,.int .i64 u2] 110));rw[<-fz];have dI:Below w9.heap.size w9 wA:=by rw[fz];exact (vQ _ _).alloc (bQ _) _
     have CR:wA.heap.size=w9.heap.size+1:=by rw[fz];simp
     have tD:Hid (wA.cell? ⟨w9.heap.size,0,none⟩=some (.int .i64 sf)/\wA.cell? ⟨w9.heap.size,1,none⟩=some (.int .i64 u2)):=jq (by rw[fz];exact⟨by simp[go_sem],by simp[go_sem]⟩);have dY:=acZ cR dI;have se:=jq (tM.out.keep dI);have pE:=jq (cm.out.keep dI (by omega));replace h0:=aaJ dI h0;replace h1:=aaJ dI h1;clear p0 p1 p2 p3 p4 fz dI;have p0:=pE.out 0 _ rfl;have p1:=pE.out 1 _ rfl;have p2:=pE.out 2 _ rfl;have p3:=pE.out 3 _ rfl;have p4:=pE.out 4 _ rfl;refine gl 16 (D:=[0,1,2,3,4,5,6,7,8,9,10,11,12,14,13,15]) (val:=lq u7 fb fo fn fc k sf su d X sn x.signed.set.type x.signed.set.life dA dn dc gA gn gc (.int .i64 u2) (.slice (some ⟨w9.heap.size,0,none⟩) 1 1) undef) uY ya (hH.next uY ya hr) (by kernel_rfl) ?_ ?_
     ·intro i aR bS o ho a' hb aP;have k7':=aZJ hb ox.out;have k1':=aZJ hb vg.out;have k8':=aZJ hb yh.out;have k3':=aZJ hb m9.out;have k2':=aZJ hb rS.out;simp[Act.eval] at k7' k1' k8' k3' k2'
      repeat' (rcases aR with _ | ⟨_,aR⟩)
      all_goals first
       | (exfalso;simp at bS;done)
       | (cases ho
          try simp[Act.eval,Region.binds,lq,mZ] at aP
          refine gv (by simp[Region.wanted]) ?_;simp[Oper.quietAt,Oper.quietUpon,execOp,go_sem,lq,k7',k1',k8',k3',k2',h0,h1,bJ,bI,p0,p1,p2,p3,p4,aP])
     ·intro f listed a' hH hr hv;have av0:=hv 0;have av15:=hv 15;simp[lq,mZ] at av0 av15;simp only[wpOp];simp[Region.wanted];refine .inl ?_;refine LN wA (.tmp 15) (.tmp 30) rfl W1.heap.size u7 ((x.fresh.take k).map (Np.gi x.signed d)) av0 se.out w9.heap.size sf u2 av15 tD.out.1 tD.out.2 HL.out (by omega) ?_;intro vB wB eV dw iN;have Fk:=dw.size;have fX:Hid (Below W1.heap.size W1 wB):=jq (dY.out.grown dw (by omega) (λg hg=>(World.ownsRow.lt se.out g hg).1));have g9:=jq eV;have jD:=jq (az.out.keep fX.out (by omega));have h0:wB.cell? ⟨fb,fo+k * 2,none⟩=some (.int .i64 sf):=aaJ fX.out ((HB.out.cell (p:=⟨fb,fo+k * 2,none⟩) (by dsimp only;omega)).symm.trans Mj.out.1);have h1:wB.cell? ⟨fb,fo+k * 2+1,none⟩=some (.int .i64 su):=aaJ fX.out ((HB.out.cell (p:=⟨fb,fo+k * 2+1,none⟩) (by dsimp only;omega)).symm.trans Mj.out.2);clear p0 p1 p2 p3 p4 eV dw iN;have p0:=jD.out 0 _ rfl;have p1:=jD.out 1 _ rfl;have p2:=jD.out 2 _ rfl;have p3:=jD.out 3 _ rfl;have p4:=jD.out 4 _ rfl;refine gl 17 (D:=[0,1,2,3,4,5,6,7,8,9,10,11,12,14,13,15,16]) (val:=lq u7 fb fo fn fc k sf su d X sn x.signed.set.type x.signed.set.life dA dn dc gA gn gc (.int .i64 u2) (.slice (some ⟨w9.heap.size,0,none⟩) 1 1) vB) uY ya (hH.next uY ya hr) (by kernel_rfl) ?_ ?_
      ·intro i aR bS o ho a' hb aP;have k7':=aZJ hb ox.out;have k1':=aZJ hb vg.out;have k8':=aZJ hb yh.out;have k3':=aZJ hb m9.out;have k2':=aZJ hb rS.out;simp[Act.eval] at k7' k1' k8' k3' k2'
       repeat' (rcases aR with _ | ⟨_,aR⟩)
       all_goals first
        | (exfalso;simp at bS;done)
        | (cases ho
           try simp[Act.eval,Region.binds,lq,mZ] at aP
           refine gv (by simp[Region.wanted]) ?_;simp[Oper.quietAt,Oper.quietUpon,execOp,go_sem,lq,k7',k1',k8',k3',k2',h0,h1,bJ,bI,p0,p1,p2,p3,p4,aP])
      ·intro f listed a' hH hr hv;have av16:=hv 16;simp[Act.eval,lq,mZ] at av16;simp only[wpOp];simp[Region.wanted];refine .inl ?_;simp[Oper.wp,execOp,go_sem,av16];refine tv hH hr HM.out uY (by kernel_rfl) λdZ=>?_
       ·rw[dZ,jA.out];simp[lp,Act.put,lq,mZ];clear hv hH dZ;clear p0 p1 p2 p3 p4 h0 h1;go_wp2_with fail;go_roundw
        case rel=>exact⟨k+1,by omega,by go_num,fX,jq (by rw[HT.out,HG.out];exact g9.out)⟩
        case measure=>simp[intOf] <;> omega
end
end Go.Proofs.YtfnopgdcaanaiaaGreatDoor
