/- Parts of the proof. No condition. -/
import Derived.Test.YtfnopgdcaanaiaaGreatDoorH41
import Derived.Test.YtfnopgdcaanaiaaGreatDoorH42
set_option linter.all false
set_option maxRecDepth 100000
set_option maxHeartbeats 8000000
namespace Go.Proofs.YtfnopgdcaanaiaaGreatDoor
open Go.Proofs.Tryz
section
open Go.RowKit
def Np.xF(h:Np.Hist)(t:Int)(s:Np.Signed)(c:Np.Copy):Bool:=decide (t - min t (c.til - 1)<max 1 s.set.life+2 * h.drift)&&(match s.sigs with | []=>true | g::_=>decide (t<=g.til+h.drift))
def Np.gb(h:Np.Hist)(t:Int)(s:Np.Signed)(c:Np.Copy):Bool:=decide (c.frm<=t)&&(decide (s∈c.zone.sets)&&(decide (min t (c.til - 1)=t)||Np.xF h t s c))
theorem Np.ZM{h:Np.Hist}(hl:Np.ix h.copies){t:Int}{s:Np.Signed}(k:Np.sK h t s):(h.copies.any (Np.gb h t s))=true:=by
 obtain⟨c,hc,h1,h2,h3⟩:=Np.MM hl k;rw[List.any_eq_true];refine⟨c,hc,?_⟩;unfold Np.gb;rw[uQ h1,uQ h2,Bool.true_and,Bool.true_and,Bool.or_eq_true,Qa];rcases h3 with h3 | ⟨h3,h4⟩
 ·exact .inl h3
 ·refine .inr ?_;unfold Np.xF;rw[uQ h3,Bool.true_and]
  cases hs:s.sigs with
  | nil=>rfl
  | cons g r=>exact uQ (h4 g r hs)
theorem Q3{α:Type}{p:α->Bool}{l:List α}{k:Nat}{x:α}(h:l[k]?=some x):(l.take (k+1)).any p=((l.take k).any p||p x):=by
 obtain⟨hl,he⟩:=cQ.1 h;rw[fQ hl,he,List.any_append];simp
theorem Np.Xi{h:Np.Hist}(v:Np.VHist h){t:Int}{s:Np.Signed}(k:Np.sK h t s):Np.UseB s:=by
 obtain⟨c,hc,_,h2,_⟩:=Np.MM v.full k;exact Np.OE (v.each c hc).zone h2
theorem Sk(e:List Value)(h:Np.Hist)(q:ByteArray)(hq:q.size<=140737488355328)(qt t:Int)(w:World)(hV:gP w.heap.size w)(hh:ed w w.heap.size e h)(hs:Np.jo h):Calls prog 3 #[.agg e.toArray,.agg #[.string q,.int .i64 qt],.int .i64 t] w λe w'=>e = .returned (.bool true)/\Below w.heap.size w w':=by
 obtain⟨A1,n1,c1,A2,n2,c2,s,ty,lf,A3,n3,c3,A4,n4,c4,dr,st,rfl,bl,bP,aA,yw,qW⟩:=vI hh;have ud:Hid (h.drift=dr):=jq (by
  obtain⟨hv,cv,s',dv,cN,he,_⟩:=hh;simp only[List.cons.injEq,Value.int.injEq,true_and,and_true] at he;exact he.2.2.2.2.2.2.2.1.symm)
 have HS:=jq hs;have jO:=jq bP;have cP:=jq aA;obtain⟨X,hX⟩:∃ X,w.heap.size=X:=⟨_,rfl⟩;obtain⟨w1,ah⟩:∃ w1,(w.alloc (.cells #[.slice A1 n1 c1,.slice A2 n2 c2,.string s,.int .i64 ty,.int .i64 lf,.slice A3 n3 c3,.slice A4 n4 c4,.int .i64 dr,.int .i64 st] 29)).alloc (.cells #[.string q,.int .i64 qt] 31)=w1:=⟨_,rfl⟩;have bj:w1.heap.size=X+2:=by rw[<-ah,<-hX];simp
 have hb:Below w.heap.size w w1:=by rw[<-ah];exact ((vQ _ _).alloc (bQ _) _).alloc (by simp) _
 have aw:=jq hb;have ea:=jq (hV.next hb);have uh:Hid (ed w1 w1.heap.size [.slice A1 n1 c1,.slice A2 n2 c2,.string s,.int .i64 ty,.int .i64 lf,.slice A3 n3 c3,.slice A4 n4 c4,.int .i64 dr,.int .i64 st] h):=jq (kg _ _ _ _ _ (kf _ _ _ _ _ hh hb) hb.size);have Ho:=jq (qW.later g8 ma hb);have aY:Hid (nR w1 X [.slice A1 n1 c1,.slice A2 n2 c2,.string s,.int .i64 ty,.int .i64 lf,.slice A3 n3 c3,.slice A4 n4 c4,.int .i64 dr,.int .i64 st]):=jq (by
  rw[<-ah,<-hX];exact (ku [.slice A1 n1 c1,.slice A2 n2 c2,.string s,.int .i64 ty,.int .i64 lf,.slice A3 n3 c3,.slice A4 n4 c4,.int .i64 dr,.int .i64 st] 29 rfl rfl).keep ((vQ _ _).alloc (bQ _) _) (by simp))
 have q0:w1.cell? ⟨X+1,0,none⟩=some (.string q):=by rw[<-ah,<-hX];simp[go_sem]
 have q1:w1.cell? ⟨X+1,1,none⟩=some (.int .i64 qt):=by rw[<-ah,<-hX];simp[go_sem]
 clear hb hV hh hs bl bP aA yw qW;have qA:=jq hq;clear hq;have k0:=aY.out 0 _ rfl;have k1:=aY.out 1 _ rfl;have k2:=aY.out 2 _ rfl;have k3:=aY.out 3 _ rfl;have k4:=aY.out 4 _ rfl;have k5:=aY.out 5 _ rfl;have k6:=aY.out 6 _ rfl;have k7:=aY.out 7 _ rfl;have k8:=aY.out 8 _ rfl;go_enter func3,ntmps3;go_wp2_with fail;clear ah;refine (Kz w1 ea.out).mono ?_;rintro e w2 ⟨rfl,hb⟩;have aJ:=hb.size;have aq:=jq hb;have gz:=jq (ea.out.next hb);have sf:Hid (ed w2 w2.heap.size [.slice A1 n1 c1,.slice A2 n2 c2,.string s,.int .i64 ty,.int .i64 lf,.slice A3 n3 c3,.slice A4 n4 c4,.int .i64 dr,.int .i64 st] h):=jq (kg _ _ _ _ _ (kf _ _ _ _ _ uh.out hb) hb.size);have bE:=jq (aY.out.keep hb (by omega));replace q0:=(cl hb (by omega)).trans q0;replace q1:=(cl hb (by omega)).trans q1;clear hb;replace k0:=bE.out 0 _ rfl;replace k1:=bE.out 1 _ rfl;replace k2:=bE.out 2 _ rfl;replace k3:=bE.out 3 _ rfl;replace k4:=bE.out 4 _ rfl;replace k5:=bE.out 5 _ rfl;replace k6:=bE.out 6 _ rfl;replace k7:=bE.out 7 _ rfl;replace k8:=bE.out 8 _ rfl;go_wp2_with fail;refine (N8 _ h w2 sf.out).mono ?_;rintro e w3 ⟨rfl,hb⟩;have el:=hb.size;have aj:=jq hb;have kq:=jq (gz.out.next hb);have wF:Hid (ed w3 w3.heap.size [.slice A1 n1 c1,.slice A2 n2 c2,.string s,.int .i64 ty,.int .i64 lf,.slice A3 n3 c3,.slice A4 n4 c4,.int .i64 dr,.int .i64 st] h):=jq (kg _ _ _ _ _ (kf _ _ _ _ _ sf.out hb) hb.size);have bF:=jq (bE.out.keep hb (by omega));replace q0:=(cl hb (by omega)).trans q0;replace q1:=(cl hb (by omega)).trans q1;clear hb;replace k0:=bF.out 0 _ rfl;replace k1:=bF.out 1 _ rfl;replace k2:=bF.out 2 _ rfl;replace k3:=bF.out 3 _ rfl;replace k4:=bF.out 4 _ rfl;replace k5:=bF.out 5 _ rfl;replace k6:=bF.out 6 _ rfl;replace k7:=bF.out 7 _ rfl;replace k8:=bF.out 8 _ rfl;by_cases hU:Np.xE h
 case neg=>
  rw[Np.aF hU];have HE:=jq ((aw.out.trans ((aq.out.trans (aj.out.mono (by omega))).mono (by omega))));go_wp2_with fail;exact bodyPost_ret (v:=.bool true) (by simp[results,results3,go_sem]) rfl ⟨rfl,HE.out⟩
 case pos=>
  rw[Np.bB hU];have lA:Hid (Np.me h):=jq hU.1;have eX:Hid (Np.VHist h):=jq hU.2;have qv:Hid (iC w3 [.slice A1 n1 c1,.slice A2 n2 c2,.string s,.int .i64 ty,.int .i64 lf,.slice A3 n3 c3,.slice A4 n4 c4,.int .i64 dr,.int .i64 st] h):=jq ⟨wF.out,hU.1.use,HS.out⟩;clear hU;go_wp2_with fail;refine (Nc q qA.out qt w3).mono ?_;rintro e w4 ⟨rfl,hb⟩;have em:=hb.size;have ar:=jq hb;have qD:=jq (kq.out.next hb);have Do:Hid (ed w4 w4.heap.size [.slice A1 n1 c1,.slice A2 n2 c2,.string s,.int .i64 ty,.int .i64 lf,.slice A3 n3 c3,.slice A4 n4 c4,.int .i64 dr,.int .i64 st] h):=jq (kg _ _ _ _ _ (kf _ _ _ _ _ wF.out hb) hb.size);have dh:=jq (bF.out.keep hb (by omega));have zY:=jq (qv.out.keep hb);replace q0:=(cl hb (by omega)).trans q0;replace q1:=(cl hb (by omega)).trans q1;clear hb;replace k0:=dh.out 0 _ rfl;replace k1:=dh.out 1 _ rfl;replace k2:=dh.out 2 _ rfl;replace k3:=dh.out 3 _ rfl;replace k4:=dh.out 4 _ rfl;replace k5:=dh.out 5 _ rfl;replace k6:=dh.out 6 _ rfl;replace k7:=dh.out 7 _ rfl;replace k8:=dh.out 8 _ rfl;by_cases hQ:Np.QOk q.data.toList qt
  case neg=>
   rw[Np.aF hQ];have HE:=jq ((aw.out.trans ((aq.out.trans ((aj.out.trans (ar.out.mono (by omega))).mono (by omega))).mono (by omega))));go_wp2_with fail;exact bodyPost_ret (v:=.bool true) (by simp[results,results3,go_sem]) rfl ⟨rfl,HE.out⟩
  case pos=>
   rw[Np.bB hQ];have HQ:=jq hQ;clear hQ;go_wp2_with fail;refine (Yk t w4).mono ?_;rintro e w5 ⟨rfl,hb⟩;have iX:=hb.size;have ba:=jq hb;have xe:=jq (qD.out.next hb);have HU:Hid (ed w5 w5.heap.size [.slice A1 n1 c1,.slice A2 n2 c2,.string s,.int .i64 ty,.int .i64 lf,.slice A3 n3 c3,.slice A4 n4 c4,.int .i64 dr,.int .i64 st] h):=jq (kg _ _ _ _ _ (kf _ _ _ _ _ Do.out hb) hb.size);have kk:=jq (dh.out.keep hb (by omega));have Dq:=jq (zY.out.keep hb);replace q0:=(cl hb (by omega)).trans q0;replace q1:=(cl hb (by omega)).trans q1;clear hb;replace k0:=kk.out 0 _ rfl;replace k1:=kk.out 1 _ rfl;replace k2:=kk.out 2 _ rfl;replace k3:=kk.out 3 _ rfl;replace k4:=kk.out 4 _ rfl;replace k5:=kk.out 5 _ rfl;replace k6:=kk.out 6 _ rfl;replace k7:=kk.out 7 _ rfl;replace k8:=kk.out 8 _ rfl;by_cases hT:Np.xD t
   case neg=>
    rw[Np.aF hT];have HE:=jq ((aw.out.trans ((aq.out.trans ((aj.out.trans ((ar.out.trans (ba.out.mono (by omega))).mono (by omega))).mono (by omega))).mono (by omega))));go_wp2_with fail;exact bodyPost_ret (v:=.bool true) (by simp[results,results3,go_sem]) rfl ⟨rfl,HE.out⟩
   case pos=>
    rw[Np.bB hT];have HT:=jq hT;clear hT;go_wp2_with fail;refine (uz _ h q qA.out qt t w5 xe.out Dq.out).mono ?_;rw[Np.zm ⟨eX.out,HQ.out,HT.out⟩];rintro e w6 ⟨Ap,np,cp,rfl,hl,hr,hb⟩;have DZ:=jq hr;have km:Hid ((Np.dP (Np.cK h) q.data.toList qt t).length=np):=jq hl;clear hr hl;have gm:=hb.size;have cx:=jq hb;have xg:=jq (xe.out.next hb);have Dp:Hid (ed w6 w6.heap.size [.slice A1 n1 c1,.slice A2 n2 c2,.string s,.int .i64 ty,.int .i64 lf,.slice A3 n3 c3,.slice A4 n4 c4,.int .i64 dr,.int .i64 st] h):=jq (kg _ _ _ _ _ (kf _ _ _ _ _ HU.out hb) hb.size);have fS:=jq (kk.out.keep hb (by omega));have wG:=jq (Dq.out.keep hb);replace q0:=(cl hb (by omega)).trans q0;replace q1:=(cl hb (by omega)).trans q1;clear hb;replace k0:=fS.out 0 _ rfl;replace k1:=fS.out 1 _ rfl;replace k2:=fS.out 2 _ rfl;replace k3:=fS.out 3 _ rfl;replace k4:=fS.out 4 _ rfl;replace k5:=fS.out 5 _ rfl;replace k6:=fS.out 6 _ rfl;replace k7:=fS.out 7 _ rfl;replace k8:=fS.out 8 _ rfl;have ue:Hid (Below w.heap.size w w6):=jq ((aw.out.trans ((aq.out.trans ((aj.out.trans ((ar.out.trans ((ba.out.trans (cx.out.mono (by omega))).mono (by omega))).mono (by omega))).mono (by omega))).mono (by omega))));have Hp:=jq (Ho.out.later g8 ma (aq.out.trans ((aj.out.trans ((ar.out.trans ((ba.out.trans (cx.out.mono (by omega))).mono (by omega))).mono (by omega))).mono (by omega))));have hdr:0<=dr/\dr<=1000:=by rw[<-ud.out];exact eX.out.drift
    have vq:0<=t/\t<=20000000:=HT.out;have UA:np<=2100:=by rw[<-km.out];have h1:=Np.Gr (Np.cK h) q.data.toList qt t;have h2:(Np.cK h).length<=2100:=(by unfold Np.cK;rw[List.length_map];exact wG.out.use.pubAll);omega
    have bP:n2<=21:=by rw[<-jO.out];exact wG.out.use.copies
    have IJ:Hid (SlR bh 5 w6 w6.heap.size (.slice Ap np cp) (Np.dP (Np.cK h) q.data.toList qt t)):=jq DZ.out;have hcp:np<=cp:=by
     obtain⟨A',c',h1,h2,_⟩:=al IJ.out;simp only[Value.slice.injEq] at h1
     have:=km.out
     omega
    have afK:n2<=c2:=by
     obtain⟨A',c',h1,h2,_⟩:=al Hp.out;simp only[Value.slice.injEq] at h1
     have:=jO.out
     omega
    have wP:=jq (And.intro q0 q1);go_wp2_with fail;clear q0 q1 k0 k1 k2 k3 k4 k5 k6 k7 k8;go_loopw [43] (λi wr=>∃ k:Nat,k<=np/\i = .int .i64 k/\Hid (Below w6.heap.size w6 wr)) (λi _=>np - (intOf i).toNat)
    case atStart=>exact⟨0,jQ _,rfl,jq (vQ _ _)⟩
    case round=>
     obtain⟨k,hk,rfl,HB⟩:=hrel;have an:=HB.out.size;by_cases aa:k<np
     ·obtain⟨x,ab⟩:∃ x,(Np.dP (Np.cK h) q.data.toList qt t)[k]?=some x:=⟨_,aQ (by rw[km.out];exact aa)⟩;obtain⟨tz,Lj,UI⟩:=Np.Gl.1 (gQ ab);have QF:=jq (Np.ZM eX.out.full tz);have IT:=jq (Np.Xi eX.out tz);obtain⟨b2,o2,c9,sy,dv2,sv2,fl,Kn,_,eU,_,nw,mC,f0,f1,f2,f3,f4⟩:=eq (IJ.out.later aX cj HB.out) ab;simp only[Value.slice.injEq] at fl;obtain⟨rfl,-,rfl⟩:=fl;obtain rfl:sy=q:=kL (eU.trans Lj);obtain rfl:x.set.type=qt:=UI;have mj:=jq eU;have oY:=jq nw;have qC:=jq mC;obtain⟨dA,dn,dc,rfl⟩:=vL nw;obtain⟨gA,gn,gc,rfl⟩:=vL mC;have j5:x.sigs.length=gn:=Cz mC;have zX:=jq j5;have tp:=IT.out.life;obtain⟨xl,mE⟩:∃ a,x.set.life=a:=⟨_,rfl⟩;have sI:=jq mE;rw[mE] at f2 tp;have hmx:1<=max 1 xl/\max 1 xl<=1000000:=by omega
      obtain⟨wS,BY⟩:∃ w',wr.alloc (.cells #[.string sy,.int .i64 x.set.type,.int .i64 xl,.slice dA dn dc,.slice gA gn gc] 42)=w':=⟨_,rfl⟩;obtain⟨E,hE⟩:∃ E,wr.heap.size=E:=⟨_,rfl⟩;have E5:Below wr.heap.size wr wS:=by rw[<-BY];exact (vQ _ _).alloc (bQ _) _
      have LU:E<wS.heap.size:=by rw[<-BY,<-hE];simp
      have Ht:=jq (ku _ _ hE BY);have fI:Hid (Below w6.heap.size w6 wS):=jq (HB.out.trans (E5.mono an));have nU:=jq E5;have bO:(0:Int)<=(k:Int):=by omega
      have bM:(k:Int)<(np:Int):=by omega
      have k1:=(fS.out.keep fI.out (by omega)) 1 _ rfl;have iW:=fI.out.size;clear ab tz eU Lj nw mC j5 E5 mE;go_wp2_with fail;clear BY f0 f1 f2 f3 f4 k1;go_loopw [12,50] (λg i wr=>∃ j:Nat,j<=n2/\i = .int .i64 j/\g = .bool ((h.copies.take j).any (Np.gb h t x))/\Hid (Below wS.heap.size wS wr)) (λ_ i _=>n2 - (intOf i).toNat)
      case atStart=>exact⟨0,jQ _,rfl,by simp,jq (vQ _ _)⟩
      case round=>
       obtain⟨j,hj,rfl,rfl,HC⟩:=hrel;have FO:=HC.out.size;obtain⟨g,hg⟩:∃ g,(h.copies.take j).any (Np.gb h t x)=g:=⟨_,rfl⟩;have Hx:=jq hg;rw[hg];clear hg;by_cases Us:j<n2
       ·obtain⟨c,k9⟩:∃ c,h.copies[j]?=some c:=⟨_,aQ (by rw[jO.out];exact Us)⟩;obtain⟨b,o,sc,sv,rfl,qR,ay,j8,aM,e0,e1,e2,e3,e4⟩:=pq (Hp.out.later g8 ma (fI.out.trans (HC.out.mono iW))) k9;have IN:=jq aM;obtain⟨S1,m1,rfl,_,_⟩:=al aM;obtain⟨sl,cD⟩:∃ n,c.zone.sets.length=n:=⟨_,rfl⟩;rw[cD] at e4 IN;have anJ:sl<=100:=by rw[<-cD];exact (lA.out.use.each c (gQ k9)).1
        have tC:=(eX.out.each c (gQ k9)).times;have U6:=eX.out.stop;have cJ:=jq (Q3 (p:=Np.gb h t x) k9);rw[Hx.out] at cJ;obtain⟨cf,Fh⟩:∃ a,c.frm=a:=⟨_,rfl⟩;obtain⟨cu,Fk⟩:∃ a,c.til=a:=⟨_,rfl⟩;have zR:=jq (And.intro Fh Fk);rw[Fh] at e1 tC;rw[Fk] at e2 tC;obtain⟨wc,lp⟩:∃ w',wr.alloc (.cells #[.int .i64 c.host,.int .i64 cf,.int .i64 cu,.string sc,.slice S1 sl m1] 46)=w':=⟨_,rfl⟩;have cL:Below wr.heap.size wr wc:=by rw[<-lp];exact (vQ _ _).alloc (bQ _) _
        have gr:=jq (ku _ _ rfl lp);have aP:=jq cL;have nV:Hid (Below wS.heap.size wS wc):=jq (HC.out.trans (cL.mono FO));have mg:=jq (Ht.out.keep nV.out LU);have iP:(0:Int)<=(j:Int):=by omega
        have rc:(j:Int)<(n2:Int):=by omega
        have LV:wr.heap.size<wc.heap.size:=by rw[<-lp];simp
        have d0:=gr.out 0 _ rfl;have d1:=gr.out 1 _ rfl;have d2:=gr.out 2 _ rfl;have d3:=gr.out 3 _ rfl;have d4:=gr.out 4 _ rfl;have y0:=mg.out 0 _ rfl;have y1:=mg.out 1 _ rfl;have y2:=mg.out 2 _ rfl;have y3:=mg.out 3 _ rfl;have y4:=mg.out 4 _ rfl;clear k9 ay j8 aM cL cD Fh Fk;by_cases h1:t<cf
        ·have jt:decide (t<cf)=true:=uQ h1;have HR:Hid ((h.copies.take (j+1)).any (Np.gb h t x)=g):=jq (by
          rw[cJ.out];unfold Np.gb;rw[show decide (c.frm<=t)=false from tQ (by rw[zR.out.1];omega),Bool.false_and,Bool.or_false])
         go_wp2_with fail;go_roundw
         case rel=>exact⟨j+1,by omega,by go_num,by rw[HR.out],nV⟩
         case measure=>simp[intOf] <;> omega
        ·have jt:decide (t<cf)=false:=tQ h1;go_wp2_with fail;clear lp;have HXQ:Hid (x.set.life=xl):=sI;refine (show Calls prog 18 #[.slice S1 sl m1,.agg #[.string sy,.int .i64 x.set.type,.int .i64 xl,.slice dA dn dc,.slice gA gn gc]] wc (λe w'=>e = .returned (.bool (decide (x∈c.zone.sets)))/\Below wc.heap.size wc w') by
          have:=Mm c.zone.sets x sy mj.out dA dn dc gA gn gc S1 sl m1 (by omega) wc (IN.out.later aX cj aP.out) (oY.out.later de eN (nU.out.trans (nV.out.mono (by omega)))) (qC.out.later ep gp (nU.out.trans (nV.out.mono (by omega))))
          rwa [sI.out] at this).mono ?_
         rintro e wd ⟨rfl,hb⟩;have jL:=jq (gr.out.keep hb LV);have ww:=jq (mg.out.keep hb (by omega));have ia:Hid (Below wS.heap.size wS wd):=jq (nV.out.trans (hb.mono (by omega)));have Hq:Hid (Below wr.heap.size wr wd):=jq (aP.out.trans (hb.mono (by omega)));clear hb d0 y0 d1 y1 d2 y2 d3 y3 d4 y4;have d0:=jL.out 0 _ rfl;have d1:=jL.out 1 _ rfl;have d2:=jL.out 2 _ rfl;have d3:=jL.out 3 _ rfl;have d4:=jL.out 4 _ rfl;have y0:=ww.out 0 _ rfl;have y1:=ww.out 1 _ rfl;have y2:=ww.out 2 _ rfl;have y3:=ww.out 3 _ rfl;have y4:=ww.out 4 _ rfl;by_cases hin:x∈c.zone.sets
         case neg=>
          rw[tQ hin];have HR:Hid ((h.copies.take (j+1)).any (Np.gb h t x)=g):=jq (by
           rw[cJ.out];unfold Np.gb;rw[tQ hin,Bool.false_and,Bool.and_false,Bool.or_false])
          clear hin;go_wp2_with fail;go_roundw
          case rel=>exact⟨j+1,by omega,by go_num,by rw[HR.out],ia⟩
          case measure=>simp[intOf] <;> omega
         case pos=>
          rw[uQ hin];have iB:=jq hin;clear hin;have k7:=(fS.out.keep (fI.out.trans (ia.out.mono iW)) (by omega)) 7 _ rfl;obtain⟨la,fB⟩:∃ a,min t (cu - 1)=a:=⟨_,rfl⟩;have lC:=jq fB;have KX : -1<=la/\la<=t:=by omega
          have HR:Hid (∀ a:Bool,Np.xF h t x c=a->(h.copies.take (j+1)).any (Np.gb h t x)=(g||(decide (la=t)||a))):=jq (λa ha=>by
           rw[cJ.out];unfold Np.gb;rw[show decide (c.frm<=t)=true from uQ (by rw[zR.out.1];omega),uQ iB.out,Bool.true_and,Bool.true_and,ha,zR.out.2,lC.out])
          have aZ:Hid (Np.xF h t x c=(decide (t - la<max 1 xl+2 * dr)&&(match x.sigs with | []=>true | g::_=>decide (t<=g.til+dr)))):=jq (by
           unfold Np.xF;rw[zR.out.2,lC.out,sI.out,ud.out])
          by_cases h2:t - la<max 1 xl+2 * dr
          case neg=>
           have Ba:decide (t - la<max 1 xl+2 * dr)=false:=tQ h2;have fK:=jq (HR.out false (by rw[aZ.out,Ba];rfl));clear h2
           cases g with
           | true=>
            have fu:Hid ((h.copies.take (j+1)).any (Np.gb h t x)=true):=jq (by rw[fK.out];rfl);go_wp2_with fail;clear fB;go_quiet (fail);go_wp2_with fail;go_roundw
            case rel=>exact⟨j+1,by omega,by go_num,by rw[fu.out],jq (below_drewN ia.out _)⟩
            case measure=>simp[intOf] <;> omega
           | false=>
            by_cases eS:la=t
            ·have kE:(la == t)=true:=by simpa using eS
             have fO:decide (la=t)=true:=uQ eS;have fu:Hid ((h.copies.take (j+1)).any (Np.gb h t x)=true):=jq (by rw[fK.out,fO];rfl);clear eS;go_wp2_with fail;clear fB;go_quiet (fail);go_wp2_with fail;go_roundw
             case rel=>exact⟨j+1,by omega,by go_num,by rw[fu.out],jq (below_drewN ia.out _)⟩
             case measure=>simp[intOf] <;> omega
            ·have kE:(la == t)=false:=by simpa using eS
             have fO:decide (la=t)=false:=tQ eS;have fu:Hid ((h.copies.take (j+1)).any (Np.gb h t x)=false):=jq (by rw[fK.out,fO];rfl);clear eS;go_wp2_with fail;clear fB;go_quiet (fail);go_wp2_with fail;go_roundw
             case rel=>exact⟨j+1,by omega,by go_num,by rw[fu.out],jq (below_drewN ia.out _)⟩
             case measure=>simp[intOf] <;> omega
          case pos=>
           have Ba:decide (t - la<max 1 xl+2 * dr)=true:=uQ h2;clear h2
           cases j6:x.sigs with
           | nil=>
            obtain rfl:gn=0:=by have:=zX.out;rw[j6] at this;exact this.symm
            have fK:=jq (HR.out true (by rw[aZ.out,Ba,j6];rfl));clear j6
            cases g with
            | true=>
             have fu:Hid ((h.copies.take (j+1)).any (Np.gb h t x)=true):=jq (by rw[fK.out];rfl);go_wp2_with fail;clear fB;go_quiet (fail);go_wp2_with fail;go_roundw
             case rel=>exact⟨j+1,by omega,by go_num,by rw[fu.out],jq (below_drewN ia.out _)⟩
             case measure=>simp[intOf] <;> omega
            | false=>
             by_cases eS:la=t
             ·have kE:(la == t)=true:=by simpa using eS
              have fO:decide (la=t)=true:=uQ eS;have fu:Hid ((h.copies.take (j+1)).any (Np.gb h t x)=true):=jq (by rw[fK.out,fO];rfl);clear eS;go_wp2_with fail;clear fB;go_quiet (fail);go_wp2_with fail;go_roundw
              case rel=>exact⟨j+1,by omega,by go_num,by rw[fu.out],jq (below_drewN ia.out _)⟩
              case measure=>simp[intOf] <;> omega
             ·have kE:(la == t)=false:=by simpa using eS
              have fO:decide (la=t)=false:=tQ eS;have fu:Hid ((h.copies.take (j+1)).any (Np.gb h t x)=true):=jq (by rw[fK.out,fO];rfl);clear eS;go_wp2_with fail;clear fB;go_quiet (fail);go_wp2_with fail;go_roundw
              case rel=>exact⟨j+1,by omega,by go_num,by rw[fu.out],jq (below_drewN ia.out _)⟩
              case measure=>simp[intOf] <;> omega
           | cons gg rr=>
            have uV:x.sigs[0]?=some gg:=by rw[j6];rfl
            obtain⟨b3,o3,c3',t3,sW,Kl,_,_,_,_,_,_,g4,_⟩:=mJ (qC.out.later ep gp (nU.out.trans (ia.out.mono (by omega)))) uV;simp only[Value.slice.injEq] at sW;obtain⟨rfl,-,rfl⟩:=sW;have dm:=IT.out.sig gg rr j6;have agX:1<=gn:=by rw[<-zX.out,j6];simp
            have gU:(0:Int)<(gn:Int):=by omega
            have lP:((gn:Int) == 0)=false:=beq_eq_false_iff_ne.2 (by omega);have nB:wd.cell? ⟨b3,o3+4,none⟩=some (.int .i64 gg.til):=by simpa using g4
            obtain⟨gt,nA⟩:∃ a,gg.til=a:=⟨_,rfl⟩;rw[nA] at nB dm;obtain⟨r,hr⟩:∃ r,decide (t<=gt+dr)=r:=⟨_,rfl⟩;have fK:=jq (HR.out r (by rw[aZ.out,Ba,j6];show (true&&decide (t<=gg.til+dr))=r;rw[nA,hr,Bool.true_and]));clear j6 uV g4 nA
            cases r with
            | false=>
             cases g with
             | true=>
              have fu:Hid ((h.copies.take (j+1)).any (Np.gb h t x)=true):=jq (by rw[fK.out];rfl);go_wp2_with fail;clear fB;go_quiet (fail);go_wp2_with fail;go_roundw
              case rel=>exact⟨j+1,by omega,by go_num,by rw[fu.out],jq (below_drewN ia.out _)⟩
              case measure=>simp[intOf] <;> omega
             | false=>
              by_cases eS:la=t
              ·have kE:(la == t)=true:=by simpa using eS
               have fO:decide (la=t)=true:=uQ eS;have fu:Hid ((h.copies.take (j+1)).any (Np.gb h t x)=true):=jq (by rw[fK.out,fO];rfl);clear eS;go_wp2_with fail;clear fB;go_quiet (fail);go_wp2_with fail;go_roundw
               case rel=>exact⟨j+1,by omega,by go_num,by rw[fu.out],jq (below_drewN ia.out _)⟩
               case measure=>simp[intOf] <;> omega
              ·have kE:(la == t)=false:=by simpa using eS
               have fO:decide (la=t)=false:=tQ eS;have fu:Hid ((h.copies.take (j+1)).any (Np.gb h t x)=false):=jq (by rw[fK.out,fO];rfl);clear eS;go_wp2_with fail;clear fB;go_quiet (fail);go_wp2_with fail;go_roundw
               case rel=>exact⟨j+1,by omega,by go_num,by rw[fu.out],jq (below_drewN ia.out _)⟩
               case measure=>simp[intOf] <;> omega
            | true=>
             cases g with
             | true=>
              have fu:Hid ((h.copies.take (j+1)).any (Np.gb h t x)=true):=jq (by rw[fK.out];rfl);go_wp2_with fail;clear fB;go_quiet (fail);go_wp2_with fail;go_roundw
              case rel=>exact⟨j+1,by omega,by go_num,by rw[fu.out],jq (below_drewN ia.out _)⟩
              case measure=>simp[intOf] <;> omega
             | false=>
              by_cases eS:la=t
              ·have kE:(la == t)=true:=by simpa using eS
               have fO:decide (la=t)=true:=uQ eS;have fu:Hid ((h.copies.take (j+1)).any (Np.gb h t x)=true):=jq (by rw[fK.out,fO];rfl);clear eS;go_wp2_with fail;clear fB;go_quiet (fail);go_wp2_with fail;go_roundw
               case rel=>exact⟨j+1,by omega,by go_num,by rw[fu.out],jq (below_drewN ia.out _)⟩
               case measure=>simp[intOf] <;> omega
              ·have kE:(la == t)=false:=by simpa using eS
               have fO:decide (la=t)=false:=tQ eS;have fu:Hid ((h.copies.take (j+1)).any (Np.gb h t x)=true):=jq (by rw[fK.out,fO];rfl);clear eS;go_wp2_with fail;clear fB;go_quiet (fail);go_wp2_with fail;go_roundw
               case rel=>exact⟨j+1,by omega,by go_num,by rw[fu.out],jq (below_drewN ia.out _)⟩
               case measure=>simp[intOf] <;> omega
       ·have nA:g=true:=by
         rw[<-Hx.out,kQ (by rw[jO.out];omega)];exact QF.out
        subst nA;have hne:(x.set.type != x.set.type)=false:=by simp
        have mS:Hid (Below w6.heap.size w6 wr):=jq (fI.out.trans (HC.out.mono iW));have q0:=(cl mS.out (by omega)).trans wP.out.1;have q1:=(cl mS.out (by omega)).trans wP.out.2;have mg:=jq (Ht.out.keep HC.out LU);have y0:=mg.out 0 _ rfl;have y1:=mg.out 1 _ rfl;have y2:=mg.out 2 _ rfl;have y3:=mg.out 3 _ rfl;have y4:=mg.out 4 _ rfl;go_wp2_with fail;go_roundw
        case rel=>exact⟨k+1,by omega,by go_num,mS⟩
        case measure=>simp[intOf] <;> omega
     ·have Pr:=jq (ue.out.trans (HB.out.mono ue.out.size));go_wp2_with fail;exact bodyPost_ret (v:=.bool true) (by simp[results,results3,go_sem]) rfl ⟨rfl,Pr.out⟩
end
end Go.Proofs.YtfnopgdcaanaiaaGreatDoor
