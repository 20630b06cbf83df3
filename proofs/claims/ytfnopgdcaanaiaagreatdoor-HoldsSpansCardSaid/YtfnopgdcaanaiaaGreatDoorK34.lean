/- Parts of the proof. No condition. -/
import Derived.Test.YtfnopgdcaanaiaaGreatDoorK24
import Derived.Test.YtfnopgdcaanaiaaGreatDoorK29
set_option linter.all false
set_option maxRecDepth 100000
set_option maxHeartbeats 8000000
namespace Go.Proofs.YtfnopgdcaanaiaaGreatDoor
open Go.Proofs.Tryz
section
open Go.RowKit
theorem Re{α:Type}{R:World->Nat->List Value->α->Prop}{sz:Nat}{w:World}{B n c:Nat}{A:Option Addr}{xs:List α}(h:SlR R sz w B (.slice A n c) xs):xs.length=n:=by
 obtain⟨A',c',h1,_⟩:=al h;simp only[Value.slice.injEq] at h1;exact h1.2.1.symm
theorem Np.Ri:∀ (l:List Np.Span) (p:Option Int),Np.ApartS l->(∀ s∈l,0<=s.frm/\s.til<=20000000)->(∀ u,p=some u->∀ s∈l,u<s.frm)->Np.sm p l=true
 | [],_,_,_,_=>by unfold Np.sm;rfl
 | s::r,p,ha,hb,hp=>by
   have h1:=hb s (List.mem_cons_self ..);have h2:=ha.full s (List.mem_cons_self ..);have ih:=Np.Ri r (some s.til) ha.tail (λx hx=>hb x (mQ _ hx)) (λu hu x hx=>by cases hu;exact (List.pairwise_cons.1 ha.apart).1 x hx);unfold Np.sm;rw[ih,Bool.and_true]
   cases p with
   | none=>simp[Np.Cz,h1,h2]
   | some u=>simp[Np.Cz,h1,h2,hp u rfl s (List.mem_cons_self ..)]
theorem Np.RB{h:Np.Hist}(v:Np.VHist h){zone:List UInt8}(hl:(Np.de h.copies zone).length<=20000){x:Np.Held}(hx:x∈Np.pub h.copies zone){d:Int}(hd:0<=d/\d<=1000)(rG:x.signed.set.life<=100000):Np.y9 (Np.ep x d)=true:=by
 obtain⟨_,_,m3,_,m5⟩:=Np.rY v.full hx;have h1:x.fresh.length<=20000:=by
  have hx':=hx;unfold Np.pub Np.tn at hx';obtain⟨s,_,rfl⟩:=List.mem_map.1 hx';exact yQ (ql _) (yQ (Fi _ _) hl)
 have h2:(Np.ep x d).length<=20000:=by
  unfold Np.ep;refine yQ (ql _) ?_;rw[List.length_map];exact h1
 have ha:=Np.zh (d:=d) m3.full;unfold Np.y9;rw[uQ h2,Bool.true_and];refine Np.Ri _ _ ha (λs hs=>?_) (λu hu=>by cases hu);have hf:=ha.full s hs;obtain⟨r,hr,k1,_⟩:=(Np.wF (t:=s.frm) m3.full).1 ⟨s,hs,Int.le_refl _,hf⟩;obtain⟨q,hq,_,k4⟩:=(Np.wF (t:=s.til - 1) m3.full).1 ⟨s,hs,by omega,by omega⟩;obtain⟨c,hc,_,_,e1,_⟩:=(m5 r.frm).1 ⟨r,hr,Int.le_refl _,m3.full r hr⟩;have hqf:=m3.full q hq;obtain⟨c2,ew,_,_,_,e2⟩:=(m5 (q.til - 1)).1 ⟨q,hq,by omega,by omega⟩;have e3:=(v.each c hc).times;have e4:=(v.each c2 ew).times;have e5:=v.stop;have e6:Np.eG x.signed d q.til<=q.til - 1+max x.signed.set.life 1+2 * d:=by
  unfold Np.eG
  cases x.signed.sigs with
  | nil=>dsimp only;omega
  | cons g r=>dsimp only;omega
 omega
structure Np.UseB(x:Np.Signed):Prop where
 life:0<=x.set.life/\x.set.life<=1000000
 sig:∀ g r,x.sigs=g::r->0<=g.til/\g.til<=100000000
theorem Wt(x:Np.Signed)(hx:Np.UseB x)(d f u:Int)(yj:0<=d/\d<=1000)(Y1:0<=u/\u<=100000000)(X D:Nat)(gA:Option Addr)(gn gc:Nat)(w:World)(hX:X<w.heap.size)(hD:D<w.heap.size)
 (hl:w.cell? ⟨X,3,none⟩=some (.int .i64 x.set.life)) (hg:w.cell? ⟨X,5,none⟩=some (.slice gA gn gc)) (hd:w.cell? ⟨D,0,none⟩=some (.int .i64 d)) (hs:SlR dm 6 w w.heap.size (.slice gA gn gc) x.sigs) :
 Calls prog 140 #[.agg #[.int .i64 f,.int .i64 u],.pointer (some ⟨X,0,none⟩),.pointer (some ⟨D,0,none⟩)] w λe w'=>e = .returned (.agg #[.int .i64 f,.int .i64 (max u (Np.eG x d u))])/\Below w.heap.size w w':=by
 have iB:=Re hs;obtain⟨lf,yp⟩:∃ a,x.set.life=a:=⟨_,rfl⟩;have Yd:=hx.life;rw[yp] at hl Yd;have yq:max lf 1<=1000000/\1<=max lf 1:=by omega
 obtain⟨lm,yr⟩:∃ a,max lf 1=a:=⟨_,rfl⟩;have K9:=jq yr;rw[yr] at yq
 cases kg:x.sigs with
 | nil=>
  rw[kg] at iB;obtain rfl:gn=0:=iB.symm;have HE:Hid (Np.eG x d u=u - 1+lm+2 * d):=jq (by unfold Np.eG;rw[kg,yp,yr]);rw[HE.out];clear kg iB hs hx yp yr;go_enter func140,ntmps140;go_wp2_with fail;rw[<-K9.out];refine bodyPost_ret (v:=.agg #[.int .i64 f,.int .i64 (max u (u - 1+max lf 1+2 * d))]) (by simp[results,results140,go_sem]) rfl ⟨rfl,?_⟩;exact ((vQ _ _).alloc (bQ _) _).alloc (by simp) _
 | cons g r=>
  rw[kg] at hs iB;have vJ:(g::r)[0]?=some g:=rfl;obtain⟨b,o,c',t,hA,bU,_,_,_,_,_,_,g4,_⟩:=om hs vJ;simp only[Value.slice.injEq] at hA;obtain⟨rfl,-,rfl⟩:=hA;have dL:=hx.sig g r kg;have HE:Hid (Np.eG x d u=min (u - 1+lm+2 * d) (g.til+d+1)):=jq (by unfold Np.eG;rw[kg,yp,yr]);have bp:1<=gn:=by rw[<-iB];simp
  have hk:(0:Int)<(gn:Int):=by omega
  have jw:decide ((0:Int)<(gn:Int))=true:=uQ hk;obtain⟨W,hW⟩:∃ W,(w.alloc (.cells #[.int .i64 f,.int .i64 u] 110)).alloc (.cells #[.int .i64 0,.int .i64 0] 110)=W:=⟨_,rfl⟩;rw[HE.out];have js:w.cell? ⟨b,o+4,none⟩=some (.int .i64 g.til):=by simpa using g4
  clear kg iB hs hx yp yr vJ g4;obtain⟨gt,Bz⟩:∃ a,g.til=a:=⟨_,rfl⟩;rw[Bz] at js dL |-;clear Bz hW;go_enter func140,ntmps140;go_wp2_with fail;go_quiet (fail);go_wp2_with fail;rw[<-K9.out];refine bodyPost_ret (v:=.agg #[.int .i64 f,.int .i64 (max u (min (u - 1+max lf 1+2 * d) (gt+d+1)))]) (by simp[results,results140,go_sem]) rfl ⟨rfl,?_⟩;exact ((below_drewN (((vQ _ _).alloc (bQ _) _).alloc (by simp) _) _).setCell (by dsimp only;omega) _).setCell (by dsimp only;omega) _
theorem VT:∀ args w,(callFunc 140 args).run prog w = .ok (.enter 140 args) w:=enters_of func140 (by kernel_rfl) rfl
theorem Np.Wu{x:Np.Signed}(hx:Np.UseB x){d:Int}(hd:0<=d/\d<=1000){s:Np.Span}(hs:0<=s.frm/\s.frm<s.til/\s.til<=10000000):Np.Ak (Np.jX x d s):=by
 have e1:Np.eG x d s.til<=s.til - 1+max x.set.life 1+2 * d:=by
  unfold Np.eG
  cases x.sigs with
  | nil=>dsimp only;omega
  | cons g r=>dsimp only;omega
 have h2:=hx.life;refine⟨hs.1,?_,?_⟩
 ·show s.frm<max s.til (Np.eG x d s.til);omega
 ·show max s.til (Np.eG x d s.til)<=20000000;omega
theorem aFQ(x:Np.Held)(hx:Np.UseB x.signed)(d:Int)(yj:0<=d/\d<=1000)(hf:∀ s∈x.fresh,0<=s.frm/\s.frm<s.til/\s.til<=10000000)(bM:x.fresh.length<=20000)(z s:ByteArray)(dA gA fA pA:Option Addr)(dn dc gn gc fn fc pn pc:Nat)(w:World)
 (hs:SlR dm 6 w w.heap.size (.slice gA gn gc) x.signed.sigs) (hr:SlR cV 2 w w.heap.size (.slice fA fn fc) x.fresh) :
 Calls prog 62 #[.agg #[.string z,.string s,.int .i64 x.signed.set.type,.int .i64 x.signed.set.life,.slice dA dn dc,.slice gA gn gc,.slice fA fn fc,.slice pA pn pc],.int .i64 d] w λe w'=>∃ v',e = .returned v'/\aK w.heap.size w' v' (Np.ep x d)/\Below w.heap.size w w':=by
 have HX:=jq hx;have HF:=jq hf;have HS:=jq hs;have HR:=jq hr;have iT:x.fresh.length=fn:=Re hr;have NV:fn<=fc:=by
  obtain⟨A',c',h1,h2,_⟩:=al hr;simp only[Value.slice.injEq] at h1;omega
 have HN:=jq iT;have Yj:fn<=20000:=by omega
 obtain⟨X,hX⟩:∃ X,w.heap.size=X:=⟨_,rfl⟩;obtain⟨W1,an⟩:∃ W1,(w.alloc (.cells #[.string z,.string s,.int .i64 x.signed.set.type,.int .i64 x.signed.set.life,.slice dA dn dc,.slice gA gn gc,.slice fA fn fc,.slice pA pn pc] 57)).alloc (.cells #[.int .i64 d] 3)=W1:=⟨_,rfl⟩;have aw:Below w.heap.size w W1:=by rw[<-an];exact ((vQ _ _).alloc (bQ _) _).alloc (by simp) _
 have bh:W1.heap.size=X+2:=by rw[<-an,<-hX];simp
 have k3:W1.cell? ⟨X,3,none⟩=some (.int .i64 x.signed.set.life):=by rw[<-an,<-hX];simp[go_sem]
 have k5:W1.cell? ⟨X,5,none⟩=some (.slice gA gn gc):=by rw[<-an,<-hX];simp[go_sem]
 have k6:W1.cell? ⟨X,2+4,none⟩=some (.slice fA fn fc):=by rw[<-an,<-hX];simp[go_sem]
 have kd:W1.cell? ⟨X+1,0,none⟩=some (.int .i64 d):=by rw[<-an,<-hX];simp[go_sem]
 simp only[Nat.reduceAdd] at k6;have HK:=jq (And.intro k3 (And.intro k5 kd));have eZ:=jq (hs.later dH fz aw);have zR:=jq (hr.later dT jb aw);have ay:=jq aw;have kA:=jq hX;have eg:=VT;clear aw hx hf hs hr iT bM k3 k5 kd;go_enter func62,ntmps62;go_wp2_with fail;clear an k6;go_loopw [6,13] (λvo i wr=>∃ (k:Nat),k<=fn/\i = .int .i64 k/\Hid (Below W1.heap.size W1 wr)/\Hid (aK W1.heap.size wr vo ((x.fresh.take k).map (Np.jX x.signed d)))) (λ_ i _=>fn - (intOf i).toNat)
 case atStart=>exact⟨0,jQ _,rfl,jq (vQ _ _),jq (aK.nil _ _)⟩
 case round=>
  obtain⟨k,hk,rfl,HB,HO⟩:=hrel;have ap:=HB.out.size;by_cases aa:k<fn
  ·obtain⟨y,ab⟩:∃ y,x.fresh[k]?=some y:=⟨_,aQ (by rw[HN.out];exact aa)⟩;have dz:=zR.out.keep dT HB.out;obtain⟨b,o,rfl⟩:=t8 (k:=k) dz (by rw[HN.out];exact aa);obtain⟨bC,hat⟩:=qr dz ab;clear dz;have h0:=hat.c0;have h1:=hat.c1;have HT:Hid ((x.fresh.take (k+1)).map (Np.jX x.signed d)=(x.fresh.take k).map (Np.jX x.signed d) ++ [Np.jX x.signed d y]):=jq (by
    obtain⟨hl,he⟩:=cQ.1 ab;rw[fQ hl,he,List.map_append];rfl)
   have HL:Hid (((x.fresh.take k).map (Np.jX x.signed d)).length<=100000):=jq (by rw[List.length_map,List.length_take];omega);have HY:=jq (HF.out y (gQ ab));have cK:b<wr.heap.size:=by omega
   obtain⟨f,u⟩:=y;have bX:(0:Int)<=(k:Int):=by omega
   have bW:(k:Int)<(fn:Int):=by omega
   clear ab hat;dsimp only at h0 h1;obtain⟨w2,ae⟩:∃ w2,wr.alloc (.cells #[.int .i64 f,.int .i64 u] 110)=w2:=⟨_,rfl⟩;have ac:Below wr.heap.size wr w2:=by rw[<-ae];exact (vQ _ _).alloc (bQ _) _
   have ak:Hid (Below W1.heap.size W1 w2):=jq (HB.out.trans (ac.mono ap));have aT:=jq (HO.out.keep ac);have p0:w2.cell? ⟨wr.heap.size,0,none⟩=some (.int .i64 f):=by rw[<-ae];simp[go_sem]
   have p1:w2.cell? ⟨wr.heap.size,1,none⟩=some (.int .i64 u):=by rw[<-ae];simp[go_sem]
   have aM:wr.heap.size<w2.heap.size:=by rw[<-ae];simp
   clear ac;go_wp2_with (fail);clear ae p0 p1 h0 h1;refine (Wt x.signed HX.out d f u yj (by have h:=HY.out;have h1:0<=f:=h.1;have h2:f<u:=h.2.1;have h3:u<=10000000:=h.2.2;omega) X (X+1) gA gn gc w2 (by omega) (by omega) ((cl ak.out (by omega)).trans HK.out.1) ((cl ak.out (by omega)).trans HK.out.2.1) ((cl ak.out (by omega)).trans HK.out.2.2) (eZ.out.later dH fz ak.out)).mono ?_;rintro e w3 ⟨rfl,am⟩;obtain⟨u',hu'⟩:∃ a,max u (Np.eG x.signed d u)=a:=⟨_,rfl⟩;rw[hu'];have HG:Hid (Np.jX x.signed d ⟨f,u⟩=⟨f,u'⟩):=jq (by unfold Np.jX;rw[hu']);have az:=jq (ak.out.trans (am.mono (by omega)));have gb:=jq (aT.out.keep am);have dP:=am.size;clear am hu';go_wp2_with (at_builtin;refine sA _ rfl _ _ rfl W1.heap.size _ ((x.fresh.take k).map (Np.jX x.signed d)) rfl (gb.out.alloc _) w3.heap.size f u' (by simp[go_sem]) (by simp[go_sem]) (by simp[go_sem]) HL.out (by simp;omega) ?_;intro v5 w5 dp aC;have H5:=jq (And.intro dp aC);clear dp aC);go_roundw
   case rel=>exact⟨k+1,by omega,by go_num,jq ((az.out.alloc (by omega) _).trans H5.out.2),jq (by rw[HT.out,HG.out];exact H5.out.1)⟩
   case measure=>simp[intOf] <;> omega
  ·have HE':Hid (x.fresh.take k=x.fresh):=jq (kQ (by rw[HN.out];omega));rw[HE'.out] at HO;have lN:Hid (∀ s∈x.fresh.map (Np.jX x.signed d),Np.Ak s):=jq (λs hs=>by
    obtain⟨r,hr,rfl⟩:=List.mem_map.1 hs;exact Np.Wu HX.out yj (HF.out r hr))
   have uA:Hid ((x.fresh.map (Np.jX x.signed d)).length<=20000):=jq (by rw[List.length_map,HN.out];exact Yj);have ji:=jq (HO.out.slr (by have:=uA.out;omega));go_wp2_with fail;refine (P4 _ (x.fresh.map (Np.jX x.signed d)) uA.out lN.out wr ji.out).mono ?_;rintro e w5 ⟨v5,rfl,dp,aC⟩;have SR:Hid (Below w.heap.size w w5):=jq (ay.out.trans ((HB.out.trans (aC.mono ap)).mono ay.out.size));have mA:Hid (aK w.heap.size w5 v5 (Np.ep x d)):=jq (dp.weak (by omega));clear dp aC;go_wp2_with fail;go_ret;exact⟨_,rfl,mA.out,SR.out⟩
theorem asY{W:World}{B:Nat}{r:List Value}{x:Np.Held}{v:Value}{ps:List Np.Span}(h:iO W B r x)(hv:SlR cV 2 W B v ps):iO W B (r.set 7 v) ⟨x.zone,x.signed,x.fresh,ps⟩:=by
 obtain⟨z,s,dv,sv,fv,pv,rfl,h1,h2,h3,h4,h5,h6,h7,h8⟩:=h;exact⟨z,s,dv,sv,fv,v,rfl,h1,h2,h3,h4,h5,h6,h7,hv⟩
end
section
open Go.RowKit Go.Shelf
attribute [local go_sem] Oper.semAt_some
structure HC where
 z:ByteArray
 s:ByteArray
 ty:Int
 lf:Int
 dA:Option Addr
 dn:Nat
 dc:Nat
 gA:Option Addr
 gn:Nat
 gc:Nat
 fA:Option Addr
 fn:Nat
 fc:Nat
 pA:Option Addr
 pn:Nat
 pc:Nat
def HC.cells(x:HC):Array Value:=#[.string x.z,.string x.s,.int .i64 x.ty,.int .i64 x.lf,.slice x.dA x.dn x.dc,.slice x.gA x.gn x.gc,.slice x.fA x.fn x.fc,.slice x.pA x.pn x.pc]
structure xr(w:World)(B:Nat)(x:HC)(h:Np.Held):Prop where
 zone:x.z.data.toList=h.zone
 name:x.s.data.toList=h.signed.set.name
 short:x.s.size<=140737488355328
 type:x.ty=h.signed.set.type
 life:x.lf=h.signed.set.life
 data:SlR bF 3 w B (.slice x.dA x.dn x.dc) h.signed.set.data
 sigs:SlR dm 6 w B (.slice x.gA x.gn x.gc) h.signed.sigs
 spans:SlR cV 2 w B (.slice x.pA x.pn x.pc) h.spans
theorem xr.keep{w w':World}{B:Nat}{x:HC}{h:Np.Held}(k:xr w B x h)(hb:Below B w w'):xr w' B x h:=⟨k.zone,k.name,k.short,k.type,k.life,k.data.keep cH hb,k.sigs.keep dH hb,k.spans.keep dT hb⟩
theorem XI{w:World}{B n c:Nat}{A:Option Addr}{xs:List Np.Held}(h:SlR iO 8 w B (.slice A n c) xs){k:Nat}{x:Np.Held}(hx:xs[k]?=some x):∃ (b o:Nat) (z s:ByteArray) (dv sv fv pv:Value),A=some ⟨b,o,none⟩/\b<B/\z.data.toList=x.zone/\s.data.toList=x.signed.set.name/\s.size<=140737488355328/\
 SlR bF 3 w B dv x.signed.set.data/\SlR dm 6 w B sv x.signed.sigs/\SlR cV 2 w B fv x.fresh/\SlR cV 2 w B pv x.spans/\
 ai w b (o+k * 8) [.string z,.string s,.int .i64 x.signed.set.type,.int .i64 x.signed.set.life,dv,sv,fv,pv]:=by
 obtain⟨A',c',hA',_,_,bV⟩:=h
 cases hA'
 obtain⟨b,o,e,hA,bC,hlen,hce,z,s,dv,sv,fv,pv,he,h1,_,h3,h4,h5,h6,h7,h8⟩:=bV k _ hx;subst he;exact⟨b,o,z,s,dv,sv,fv,pv,hA,bC,h1,h3,h4,h5,h6,h7,h8,hce⟩
theorem Xw{w:World}{B n c:Nat}{A:Option Addr}{xs:List Np.Held}(h:SlR iO 8 w B (.slice A n c) xs):∃ L:List (HC×Np.Held),L.map (·.2)=xs/\L.length=n/\∀ i x,L[i]?=some x->xr w B x.1 x.2/\∃ b o,A=some ⟨b,o,none⟩/\b<B/\ai w b (o+i * 8) x.1.cells.toList:=by
 have hn:n=xs.length:=by
  obtain⟨A',c',hA,_,_,_⟩:=h;simp only[Value.slice.injEq] at hA;exact hA.2.1
 have aA:∀ k,k<=xs.length->∃ L:List (HC×Np.Held),L.map (·.2)=xs.take k/\∀ i x,L[i]?=some x->xr w B x.1 x.2/\∃ b o,A=some ⟨b,o,none⟩/\b<B/\ai w b (o+i * 8) x.1.cells.toList:=by
  intro k
  induction k with
  | zero=>exact λ_=>⟨[],by simp,λi x hx=>by simp at hx⟩
  | succ k ih=>
   intro hk;obtain⟨L,h1,h2⟩:=ih (by omega);have hlen:L.length=k:=by have:=Qd List.length h1;simp at this;omega
   obtain⟨b,o,z,s,dv,sv,fv,pv,hA,hb,hz,hs,n7,aV,aR,mO,mX,hce⟩:=XI h (aQ (by omega:k<xs.length));obtain⟨d1,d2,rfl,_⟩:=al aV;obtain⟨g1,g2,rfl,_⟩:=al aR;obtain⟨t1,t2,rfl,_⟩:=al mO;obtain⟨p1,p2,rfl,_⟩:=al mX;refine⟨L ++ [(⟨z,s,xs[k].signed.set.type,xs[k].signed.set.life,d1,xs[k].signed.set.data.length,d2,g1,xs[k].signed.sigs.length,g2,t1,xs[k].fresh.length,t2,p1,xs[k].spans.length,p2⟩,xs[k])],by rw[List.map_append,h1,fQ (by omega)];rfl,λi x hx=>?_⟩;rcases Nat.lt_or_ge i L.length with aa | lZ
   ·rw[List.getElem?_append_left aa] at hx;exact h2 i x hx
   ·rw[oQ lZ] at hx;have h0:i - L.length=0:=by have:=(cQ.1 hx).1;simp at this;omega
    rw[h0] at hx;simp at hx;subst hx;obtain rfl:i=k:=by omega
    exact⟨⟨hz,hs,n7,rfl,rfl,aV,aR,mX⟩,b,o,hA,hb,hce⟩
 obtain⟨L,h1,h2⟩:=aA xs.length (bQ _);rw[List.take_length] at h1;exact⟨L,h1,by rw[hn,<-h1,List.length_map],h2⟩
theorem W7(v:Value)(A:Option Addr)(n c:Nat)(hv:v = .slice A n c)(t:Int)(w:World) :
 Calls prog 58 #[v,.int .i64 t] w λe w'=>e = .returned (.func (.func 127) #[] #[.pointer (some ⟨w.heap.size,0,none⟩),.pointer (some ⟨w.heap.size+1,0,none⟩)])/\w'=(w.alloc (.cells #[v] 52)).alloc (.cells #[.int .i64 t] 3):=by
 subst hv;go_enter func58,ntmps58;go_wp2_with fail;go_ret;exact⟨rfl,rfl⟩
theorem VU:∀ args w,(callFunc 127 args).run prog w = .ok (.enter 127 args) w:=enters_of func127 (by kernel_rfl) rfl
theorem W8(L:List (HC×Np.Held))(t:Int)(X Tb n c:Nat)(Dr:Nat->Prop)(A:Option Addr)(w:World)(hX:Dr X)(hT:Dr Tb)(kX:w.cell? ⟨X,0,none⟩=some (.slice A n c))(kT:w.cell? ⟨Tb,0,none⟩=some (.int .i64 t))(AU:L.length=n)(I0:n<=20000)
 (hL:∀ i x,L[i]?=some x->∃ b o,A=some ⟨b,o,none⟩/\Dr b/\ai w b (o+i * 8) x.1.cells.toList)
 (hp:∀ x∈L,∀ W,dU Dr w W->SlR cV 2 W W.heap.size (.slice x.1.pA x.1.pn x.1.pc) x.2.spans) :
 Ag prog 127 (λy=>#[y,.pointer (some ⟨X,0,none⟩),.pointer (some ⟨Tb,0,none⟩)]) (λx:HC×Np.Held=>#[.agg x.1.cells]) (L.filter λx=>Np.Cy x.2.spans t) Dr w:=by
 intro l J Jx S W hW hJ DV hY hS hS' h0;have k1:=(hW.cell (p:=⟨X,0,none⟩) hX).trans kX;have HW:=jq hW;have HL:=jq hL;have HP:=jq hp;have jK:=jq AU;have KT:=jq kT;have tf:=hW.1;obtain⟨p,I5⟩:∃ p:HC×Np.Held->Bool,(λx=>Np.Cy x.2.spans t)=p:=⟨_,rfl⟩;have TE:=jq (λx:HC×Np.Held=>congrFun I5 x);rw[I5] at hY |-;clear hW hL hp kX AU kT I5;refine callsIn_of_wp func127 rfl trivial ?_ rfl;simp only[ntmps127,List.size_toArray,List.length_cons,List.length_nil,Nat.reduceAdd,Nat.reduceSub,Array.replicate_succ,Array.replicate_zero,List.push_toArray,List.append_toArray,List.nil_append,List.cons_append];gi_wp2_with fail;gi_loopw [8] (λi wr=>∃ (k:Nat) (S1:Nat->Prop),k<=n/\i = .int .i64 k/\J ((L.take k).filter p) S1 wr/\(∀ k,S1 k->k<wr.heap.size)/\(∀ k,S1 k->S k\/W.heap.size<=k)/\Hid (dU Dr w wr)/\W.heap.size<=wr.heap.size) (λi _=>n - (intOf i).toNat)
 case atStart=>exact⟨0,S,jQ _,rfl,by simpa using h0,hS',λ_ e=>.inl e,HW,bQ _⟩
 case round=>
  obtain⟨k,S1,hk,rfl,hj,dG,bd,bH,ap⟩:=hrel;by_cases aa:k<n
  ·obtain⟨x,ab⟩:∃ x,L[k]?=some x:=⟨_,aQ (by rw[jK.out];exact aa)⟩;obtain⟨b,o,rfl,hb,hce⟩:=HL.out k x ab;have fL:dU Dr w wr:=bH.out;have Gx:=jq (gQ ab);obtain⟨⟨xz,xs,xty,xlf,dA,dn,dc,gA,gn,gc,fA,fn,fc,pA,pn,pc⟩,cc⟩:=x;have f0:wr.cell? ⟨b,o+k * 8,none⟩=some (.string xz):=(fL.cell (p:=⟨b,o+k * 8,none⟩) hb).trans (hce 0 _ rfl);have f1:wr.cell? ⟨b,o+k * 8+1,none⟩=some (.string xs):=(fL.cell (p:=⟨b,o+k * 8+1,none⟩) hb).trans (hce 1 _ rfl);have f2:wr.cell? ⟨b,o+k * 8+2,none⟩=some (.int .i64 xty):=(fL.cell (p:=⟨b,o+k * 8+2,none⟩) hb).trans (hce 2 _ rfl);have f3:wr.cell? ⟨b,o+k * 8+3,none⟩=some (.int .i64 xlf):=(fL.cell (p:=⟨b,o+k * 8+3,none⟩) hb).trans (hce 3 _ rfl);have f4:wr.cell? ⟨b,o+k * 8+4,none⟩=some (.slice dA dn dc):=(fL.cell (p:=⟨b,o+k * 8+4,none⟩) hb).trans (hce 4 _ rfl);have f5:wr.cell? ⟨b,o+k * 8+5,none⟩=some (.slice gA gn gc):=(fL.cell (p:=⟨b,o+k * 8+5,none⟩) hb).trans (hce 5 _ rfl);have f6:wr.cell? ⟨b,o+k * 8+6,none⟩=some (.slice fA fn fc):=(fL.cell (p:=⟨b,o+k * 8+6,none⟩) hb).trans (hce 6 _ rfl);have f7:wr.cell? ⟨b,o+k * 8+7,none⟩=some (.slice pA pn pc):=(fL.cell (p:=⟨b,o+k * 8+7,none⟩) hb).trans (hce 7 _ rfl);have sJ:=jq ab;clear hce ab;have bX:(0:Int)<=(k:Int):=by omega
   have bW:(k:Int)<(n:Int):=by omega
   obtain⟨w2,ae⟩:∃ w2,wr.alloc (.cells #[.string xz,.string xs,.int .i64 xty,.int .i64 xlf,.slice dA dn dc,.slice gA gn gc,.slice fA fn fc,.slice pA pn pc] 57)=w2:=⟨_,rfl⟩;have aM:w2.heap.size=wr.heap.size+1:=by rw[<-ae];simp
   have ac:Below wr.heap.size wr w2:=by rw[<-ae];exact (vQ _ _).alloc (bQ _) _
   have ea:=jq (jV _ _ rfl ae);have p0:=ea.out 0 _ rfl;have p1:=ea.out 1 _ rfl;have p2:=ea.out 2 _ rfl;have p3:=ea.out 3 _ rfl;have p4:=ea.out 4 _ rfl;have p5:=ea.out 5 _ rfl;have p6:=ea.out 6 _ rfl;have p7:=ea.out 7 _ rfl;have wv:dU Dr w w2:=fL.of_below ac;have qT:=(wv.cell (p:=⟨Tb,0,none⟩) hT).trans KT.out;have ak:=jq ac;have er:=jq wv;clear fL ac wv;gi_wp2_with fail;refine⟨trivial,rfl,?_⟩;refine (callsIn_wide.2 (WY _ cc.spans t w2 (HP.out _ Gx.out w2 er.out))).mono ?_;rw[TE.out ((⟨xz,xs,xty,xlf,dA,dn,dc,gA,gn,gc,fA,fn,fc,pA,pn,pc⟩:HC),cc)];rintro e w3 ⟨rfl,am⟩;have bP:=jq (ea.out.keep am (by omega));replace p0:=bP.out 0 _ rfl;replace p1:=bP.out 1 _ rfl;replace p2:=bP.out 2 _ rfl;replace p3:=bP.out 3 _ rfl;replace p4:=bP.out 4 _ rfl;replace p5:=bP.out 5 _ rfl;replace p6:=bP.out 6 _ rfl;replace p7:=bP.out 7 _ rfl;have dP:=am.size;have rn:Below wr.heap.size wr w3:=ak.out.trans (am.mono (by omega));have vM:=hJ _ _ _ _ hj (ItStep.of_below rn);have az:=jq (bH.out.of_below rn);have HT:=jq (Rq (p:=p) sJ.out);clear ae am hj qT
   cases bw:p (⟨xz,xs,xty,xlf,dA,dn,dc,gA,gn,gc,fA,fn,fc,pA,pn,pc⟩,cc) with
   | false=>
    have HX:=jq bw;clear bw rn;gi_wp2_with fail;refine⟨λ_ _=>trivial,?_⟩;gi_wp2_with fail;go_roundw
    case rel=>exact⟨k+1,S1,by omega,by go_num,by rw[HT.out,HX.out];exact vM,λk e=>by have:=dG k e;omega,bd,az,by omega⟩
    case measure=>simp[intOf] <;> omega
   | true=>
    have HX:=jq bw;have fI:(L.take k).filter p ++ [(⟨xz,xs,xty,xlf,dA,dn,dc,gA,gn,gc,fA,fn,fc,pA,pn,pc⟩,cc)] <+: L.filter p:=by
     have h1:=HT.out;rw[HX.out,Qb rfl] at h1;rw[<-h1];exact Rr p L (k+1)
    obtain⟨fn',tmps,assign,body,hy,hR⟩:=hY ((L.take k).filter p) (⟨xz,xs,xty,xlf,dA,dn,dc,gA,gn,gc,fA,fn,fc,pA,pn,pc⟩,cc) S1 w3 fI vM (λk e=>by have:=dG k e;omega) (by omega);have mg:Sem.run prog (Instr.yield l #[.agg #[.string xz,.string xs,.int .i64 xty,.int .i64 xlf,.slice dA dn dc,.slice gA gn gc,.slice fA fn fc,.slice pA pn pc]]) w3 = .ok (.round l fn' tmps assign body) w3:=hy;have Db:=jq fI;clear hy fI bw rn;gi_wp2_with fail;refine⟨rfl,hR.mono ?_⟩;rintro e w4 ⟨S4,aJ,B6,IW,(⟨rfl,Ig⟩ | ⟨rfl,Ih⟩)⟩
    ·have br:Hid (dU Dr w w4):=jq (az.out.round aJ (λk e hd=>by
      rcases bd k e with e | e
      ·exact hS k e hd
      ·have:=(HW.out.2 k hd).1;omega))
     have eC:=aJ.size;clear aJ mg hR;gi_wp2_with fail;go_roundw
     case rel=>
      refine⟨k+1,S4,by omega,by go_num,by rw[HT.out,HX.out];exact Ig,IW,λk e=>?_,br,by omega⟩;rcases B6 k e with e | e
      ·exact bd k e
      ·right;omega
     case measure=>simp[intOf] <;> omega
    ·have eC:=aJ.size;clear aJ mg hR;gi_wp2_with fail;refine bodyPost_ret (results_none rfl _ _ _) rfl ?_;refine⟨⟨_,rfl⟩,.inr ⟨_,S4,Db.out,Ih,λk e=>?_⟩⟩;rcases B6 k e with e | e
     ·exact bd k e
     ·right;omega
  ·have eK:Hid (L.take k=L):=jq (kQ (by rw[jK.out];omega));rw[eK.out] at hj;gi_wp2_with fail;go_end0;exact⟨⟨_,rfl⟩,.inl ⟨S1,hj,bd⟩⟩
end
end Go.Proofs.YtfnopgdcaanaiaaGreatDoor
