/- Parts of the proof. No condition. -/
import Derived.Test.YtbfbobfbgabjiaaGreatDoorP41
set_option linter.all false
set_option maxRecDepth 100000
set_option maxHeartbeats 8000000
namespace Go.Proofs.YtbfbobfbgabjiaaGreatDoor
open Go.Proofs.Tryz
section
open Go.RowKit
theorem Rv{α:Type}{R:World->Nat->List Value->α->Prop}{sz:Nat}{w:World}{B n c:Nat}{A:Option Addr}{xs:List α}(h:SlR R sz w B (.slice A n c) xs):xs.length=n:=by
 obtain⟨A',c',h1,_⟩:=ah h;simp only[Value.slice.injEq] at h1;exact h1.2.1.symm
theorem Np.Rz:∀ (l:List Np.Span) (p:Option Int),Np.ApartS l->(∀ s∈l,0<=s.frm/\s.til<=20000000)->(∀ u,p=some u->∀ s∈l,u<s.frm)->Np.nS p l=true
 | [],_,_,_,_=>by unfold Np.nS; rfl
 | s::r,p,ha,hb,hp=>by
   have h1:=hb s (List.mem_cons_self ..);have h2:=ha.full s (List.mem_cons_self ..);have ih:=Np.Rz r (some s.til) ha.tail (λx hx=>hb x (mQ _ hx)) (λu hu x hx=>by cases hu; exact (List.pairwise_cons.1 ha.apart).1 x hx);unfold Np.nS;rw[ih,Bool.and_true]
   cases p with
   | none=>simp[Np.kS,h1,h2]
   | some u=>simp[Np.kS,h1,h2,hp u rfl s (List.mem_cons_self ..)]
theorem Np.asQ{h:Np.Hist}(v:Np.VHist h){zone:List UInt8}(hl:(Np.dt h.copies zone).length<=20000){x:Np.Held}(hx:x∈Np.pub h.copies zone):Np.xp x.fresh=true:=by
 obtain⟨_,_,m3,_,m5⟩:=Np.yV v.full hx;have h1:x.fresh.length<=20000:=by
  unfold Np.pub Np.rP at hx;obtain⟨s,_,rfl⟩:=List.mem_map.1 hx;exact yQ (Fb _) (yQ (RH _ _) hl)
 unfold Np.xp;rw[uQ h1,Bool.true_and];refine Np.Rz _ _ m3 (λs hs=>?_) (λu hu=>by cases hu);have hf:=m3.full s hs;obtain⟨c,hc,_,_,k1,_⟩:=(m5 s.frm).1 ⟨s,hs,Int.le_refl _,hf⟩;obtain⟨d,hd,_,_,_,k2⟩:=(m5 (s.til - 1)).1 ⟨s,hs,by omega,by omega⟩;have e1:=(v.each c hc).times;have e2:=(v.each d hd).times;have e3:=v.stop;omega
def Np.xd(l:List Np.Placed)(z:List UInt8)(x:Np.Signed):Bool:=l.any λp=>decide (p.zone.apex=z)&&p.zone.sets.any λy=>decide (y=x)
theorem Np.Kx{l:List Np.Placed}{z:List UInt8}{x:Np.Signed} : Np.xd l z x=true↔∃ p∈l,p.zone.apex=z/\x∈p.zone.sets:=by
 unfold Np.xd;rw[List.any_eq_true];refine exists_congr λp=>and_congr Iff.rfl ?_;rw[Bool.and_eq_true,Qa,List.any_eq_true];exact and_congr Iff.rfl ⟨λ⟨y,h1,h2⟩=>by rw[Qa] at h2; exact h2 ▸ h1,λh=>⟨x,h,by simp⟩⟩
theorem Np.Ku{α:Type}{l:List α}{k:Nat}{x:α}{P:α->Prop}(hk:l[k]?=some x)(h:∀ y∈l.take k,¬ P y)(hx:¬ P x):∀ y∈l.take (k+1),¬ P y:=λy hy=>by
 obtain⟨hl,he⟩:=cQ.1 hk;rw[fQ hl,he,List.mem_append,List.mem_singleton] at hy;rcases hy with hy | rfl
 ·exact h y hy
 ·exact hx
theorem alZ(x:Np.Signed)(sx:ByteArray)(qL:sx.data.toList=x.set.name)(dA:Option Addr)(dn dc:Nat)(gA:Option Addr)(gn gc:Nat)(z:ByteArray)(zones:List Np.Placed)(A:Option Addr)(n c:Nat)(hn:zones.length=n)(O8:n<=1000)(hs:∀ p∈zones,p.zone.sets.length<=1000)(b1 b4:Nat)(w:World)(h1:b1<w.heap.size)(h4:b4<w.heap.size)(aV:w.cell? ⟨b1,1,none⟩=some (.slice A n c))(vT:w.cell? ⟨b4,0,none⟩=some (.string z))
 (hd:SlR cr 3 w w.heap.size (.slice dA dn dc) x.set.data) (hg:SlR fj 6 w w.heap.size (.slice gA gn gc) x.sigs) (hz:SlR jm 3 w w.heap.size (.slice A n c) zones) :
 Calls prog 32 #[.agg #[.string sx,.int .i64 x.set.type,.int .i64 x.set.life,.slice dA dn dc,.slice gA gn gc],.pointer (some ⟨b1,0,none⟩),.pointer (some ⟨b4,0,none⟩)] w λe w'=>e = .returned (.bool (Np.xd zones z.data.toList x))/\Below w.heap.size w w':=by
 obtain⟨X,hX⟩:∃ X,w.heap.size=X:=⟨_,rfl⟩;obtain⟨w1,ak⟩:∃ w1,w.alloc (.cells #[.string sx,.int .i64 x.set.type,.int .i64 x.set.life,.slice dA dn dc,.slice gA gn gc] 68)=w1:=⟨_,rfl⟩;have hb:Below w.heap.size w w1:=by rw[<-ak]; exact (vQ _ _).alloc (bQ _) _
 have bL:w1.heap.size=X+1:=by rw[<-ak,<-hX]; simp
 have ay:=jq hb;have oY:=jq (fm _ _ hX ak);have bJ:Hid (w1.cell? ⟨b1,1,none⟩=some (.slice A n c)):=jq ((hb.cell (p:=⟨b1,1,none⟩) h1).trans aV);have dj:Hid (w1.cell? ⟨b4,0,none⟩=some (.string z)):=jq ((hb.cell (p:=⟨b4,0,none⟩) h4).trans vT);have HD:=jq (hd.later cB cZ hb);have HG:=jq (hg.later el fx hb);have HZ:=jq (hz.later fV fW hb);have HS:=jq hs;have HN:=jq hn;have p1:=bJ.out;have h1':b1<w1.heap.size:=lQ h1 hb.size;have h4':b4<w1.heap.size:=lQ h4 hb.size;clear hb hd hg hz hs hn aV vT h1 h4;go_enter func32,ntmps32;go_wp2_with fail
 try clear ak
 clear p1;go_loopw [12] (λi wr=>∃ k:Nat,k<=n/\i = .int .i64 k/\Hid (∀ p∈zones.take k,¬ (p.zone.apex=z.data.toList/\x∈p.zone.sets))/\Hid (Below w1.heap.size w1 wr)) (λi _=>n - (intOf i).toNat)
 case atStart=>exact⟨0,jQ _,rfl,jq (by simp),jq (vQ _ _)⟩
 case round=>
  obtain⟨k,hk,rfl,km,HB⟩:=hrel;obtain⟨wo,rfl⟩:∃ w',w'=wr:=⟨_,rfl⟩;have am:=HB.out.size;by_cases aa:k<n
  ·obtain⟨p,ac⟩:∃ x,zones[k]?=some x:=⟨_,aQ (by rw[HN.out]; exact aa)⟩;obtain⟨b,o,sp,sv,rfl,bZ,uh,_,ax,e0,e1,e2⟩:=Cz (HZ.out.later fV fW HB.out) ac;obtain⟨SA,sc,rfl,_,_⟩:=ah ax;obtain⟨m,hm⟩:∃ m,p.zone.sets.length=m:=⟨_,rfl⟩;rw[hm] at ax e2;have jw:m<=1000:=by rw[<-hm]; exact HS.out p (gQ ac)
   have HM:=jq hm;have fC:=jq ax;have xW:=jq uh;have nZ:=jq ac;have bH:(0:Int)<=(k:Int):=by omega
   have bG:(k:Int)<(n:Int):=by omega
   obtain⟨wb,gB⟩:∃ w',wo.alloc (.cells #[.int .i64 p.host,.string sp,.slice SA m sc] 60)=w':=⟨_,rfl⟩;have cg:Below wo.heap.size wo wb:=by rw[<-gB]; exact (vQ _ _).alloc (bQ _) _
   have eG:=jq (fm _ _ rfl gB);have bI:Hid (Below w1.heap.size w1 wb):=jq (HB.out.trans (cg.mono am));have aB:=jq cg;have jz:wo.heap.size<wb.heap.size:=by rw[<-gB]; simp
   have d2:=eG.out 2 _ rfl;clear ac uh ax hm cg;go_wp2_with fail
   try clear gB
   clear d2;go_loopw [20] (λi wr=>∃ j:Nat,j<=m/\i = .int .i64 j/\Hid (∀ y∈p.zone.sets.take j,¬ (p.zone.apex=z.data.toList/\y=x))/\Hid (Below wb.heap.size wb wr)) (λi _=>m - (intOf i).toNat)
   case atStart=>exact⟨0,jQ _,rfl,jq (by simp),jq (vQ _ _)⟩
   case round=>
    obtain⟨j,hj,rfl,G4,HC⟩:=hrel;have sm:=HC.out.size;by_cases wI:j<m
    ·obtain⟨y,cj⟩:∃ y,p.zone.sets[j]?=some y:=⟨_,aQ (by rw[HM.out]; exact wI)⟩;obtain⟨b2,o2,c2,sy,dv2,sv2,lz,I9,_,iZ,_,lW,mb,f0,f1,f2,f3,f4⟩:=eE (fC.out.later aN bN (aB.out.trans (HC.out.mono aB.out.size))) cj;simp only[Value.slice.injEq] at lz;obtain⟨rfl,-,rfl⟩:=lz;have td:=jq iZ;have uK:=jq lW;have vm:=jq mb;have Gy:=jq cj;obtain⟨dA2,dn2,dc2,rfl⟩:=gD lW;obtain⟨gA2,gn2,gc2,rfl⟩:=gD mb;obtain⟨wc,gT⟩:∃ w',wr.alloc (.cells #[.string sy,.int .i64 y.set.type,.int .i64 y.set.life,.slice dA2 dn2 dc2,.slice gA2 gn2 gc2] 68)=w':=⟨_,rfl⟩;have iD:Below wr.heap.size wr wc:=by rw[<-gT]; exact (vQ _ _).alloc (bQ _) _
     have fZ:=jq (fm _ _ rfl gT);have eb:=jq (HC.out.trans (iD.mono sm));have ip:=jq iD;have xx:Hid (Below w1.heap.size w1 wc):=jq (bI.out.trans (eb.out.mono bI.out.size));have mp:=jq (eG.out.keep eb.out jz);have zJ:=jq (oY.out.keep xx.out (by omega));have iH:(0:Int)<=(j:Int):=by omega
     have pD:(j:Int)<(m:Int):=by omega
     have d1:=mp.out 1 _ rfl;have q4:=(xx.out.cell (p:=⟨b4,0,none⟩) h4').trans dj.out;have g0:=zJ.out 0 _ rfl; have g1:=zJ.out 1 _ rfl; have g2:=zJ.out 2 _ rfl; have g3:=zJ.out 3 _ rfl; have g4:=zJ.out 4 _ rfl;have c0':=fZ.out 0 _ rfl; have c1':=fZ.out 1 _ rfl; have c2':=fZ.out 2 _ rfl; have c3':=fZ.out 3 _ rfl; have c4':=fZ.out 4 _ rfl;clear cj iZ lW mb iD;by_cases jW:p.zone.apex=z.data.toList
     ·obtain rfl:sp=z:=iM (xW.out.trans jW);have qZ:=jq jW;clear jW;go_wp2_with fail
      try clear gT
      refine (Fy y x sy sx td.out qL _ _ _ _ wc (uK.out.later cB cZ ip.out) (vm.out.later el fx ip.out) (HD.out.later cB cZ xx.out) (HG.out.later el fx xx.out)).mono ?_;rintro e wd ⟨rfl,dF⟩;have em:=jq dF;have wT:=ip.out.size;clear dF d1 q4 g0 g1 g2 g3 g4 c0' c1' c2' c3' c4';by_cases bB:y=x
      ·rw[uQ bB];have HE:Hid (Below w.heap.size w wd):=jq (ay.out.trans ((xx.out.trans (em.out.mono xx.out.size)).mono (by omega)));have HT:Hid (Np.xd zones sp.data.toList x=true):=jq (Np.Kx.2 ⟨p,gQ nZ.out,qZ.out,bB ▸ gQ Gy.out⟩);clear bB;go_wp2_with fail;exact bodyPost_ret (v:=.bool true) (by simp[results,results32,go_sem]) rfl ⟨by rw[HT.out],HE.out⟩
      ·rw[tQ bB];have fJ:=jq (eb.out.trans (em.out.mono eb.out.size));have mv:=jq (Np.Ku Gy.out G4.out (λh=>bB h.2));clear bB;go_wp2_with fail;go_roundw
       case rel=>exact⟨j+1,by omega,by go_num,mv,fJ⟩
       case measure=>simp[intOf] <;> omega
     ·have cN:(sp.toList == z.toList)=false:=beq_eq_false_iff_ne.2 (λe=>jW (by rw[<-xW.out,<-dQ,e,dQ]));have mv:=jq (Np.Ku Gy.out G4.out (λh=>jW h.1));clear jW;go_wp2_with fail;go_roundw
      case rel=>exact⟨j+1,by omega,by go_num,mv,eb⟩
      case measure=>simp[intOf] <;> omega
    ·obtain rfl:j=m:=by omega
     have TZ:=jq (Np.Ku nZ.out km.out (λh=>G4.out x (by rw[<-HM.out,List.take_length]; exact h.2) ⟨h.1,rfl⟩));have fJ:Hid (Below w1.heap.size w1 wr):=jq (bI.out.trans (HC.out.mono bI.out.size));go_wp2_with fail;go_roundw
     case rel=>exact⟨k+1,by omega,by go_num,TZ,fJ⟩
     case measure=>simp[intOf] <;> omega
  ·obtain rfl:k=n:=by omega
   have HE:Hid (Below w.heap.size w wo):=jq (ay.out.trans (HB.out.mono (by omega)));have HT:Hid (Np.xd zones z.data.toList x=false):=jq (by
    rw[Bool.eq_false_iff];intro h;obtain⟨p,h1,h2⟩:=Np.Kx.1 h;exact km.out p (by rw[<-HN.out,List.take_length]; exact h1) h2)
   go_wp2_with fail;exact bodyPost_ret (v:=.bool false) (by simp[results,results32,go_sem]) rfl ⟨by rw[HT.out],HE.out⟩
theorem asK(e:List Value)(h:Np.Hist)(z:ByteArray)(hz:z.size<=140737488355328)(t:Int)(w:World)(hV:iP w.heap.size w)(hh:bA w w.heap.size e h)(hs:Np.lj h):Calls prog 8 #[.agg e.toArray,.string z,.int .i64 t] w λe w'=>e = .returned (.bool true)/\Below w.heap.size w w':=by
 obtain⟨A1,n1,c1,A2,n2,c2,s,ty,lf,A3,n3,c3,A4,n4,c4,dr,st,rfl,aO,be,aq,pC,mE⟩:=CG hh;have rl:=jq hh;have HS:=jq hs;have fB:=jq aO;have iB:=jq be;have cI:=jq aq;obtain⟨X,hX⟩:∃ X,w.heap.size=X:=⟨_,rfl⟩;obtain⟨w1,ak⟩:∃ w1,(w.alloc (.cells #[.slice A1 n1 c1,.slice A2 n2 c2,.string s,.int .i64 ty,.int .i64 lf,.slice A3 n3 c3,.slice A4 n4 c4,.int .i64 dr,.int .i64 st] 29)).alloc (.cells #[.string z] 9)=w1:=⟨_,rfl⟩;have bL:w1.heap.size=X+2:=by rw[<-ak,<-hX]; simp
 have hb:Below w.heap.size w w1:=by rw[<-ak]; exact ((vQ _ _).alloc (bQ _) _).alloc (by simp <;> omega) _
 have aw:=jq hb;have lN:=jq hV;have gq:=jq (hV.next hb);have sV:Hid (bA w1 w1.heap.size [.slice A1 n1 c1,.slice A2 n2 c2,.string s,.int .i64 ty,.int .i64 lf,.slice A3 n3 c3,.slice A4 n4 c4,.int .i64 dr,.int .i64 st] h):=jq (de _ _ _ _ _ (da _ _ _ _ _ hh hb) hb.size);have GB:=jq (pC.later fw kP hb);have LH:=jq (mE.later fu jD hb);have zI:Hid (SlR dD 5 w X (.slice A2 n2 c2) h.copies):=jq (by rw[<-hX]; exact mE);have bJ:Hid (mS w1 X [.slice A1 n1 c1,.slice A2 n2 c2,.string s,.int .i64 ty,.int .i64 lf,.slice A3 n3 c3,.slice A4 n4 c4,.int .i64 dr,.int .i64 st]):=jq (by
  rw[<-ak,<-hX];exact (fm [.slice A1 n1 c1,.slice A2 n2 c2,.string s,.int .i64 ty,.int .i64 lf,.slice A3 n3 c3,.slice A4 n4 c4,.int .i64 dr,.int .i64 st] 29 rfl rfl).keep ((vQ _ _).alloc (bQ _) _) (by simp))
 have kz1:w1.cell? ⟨X+1,0,none⟩=some (.string z):=by rw[<-ak,<-hX]; simp[go_sem]
 have kz:=kz1;clear hb hV hh hs aO be aq pC mE;have k0:=bJ.out 0 _ rfl; have k1:=bJ.out 1 _ rfl; have k2:=bJ.out 2 _ rfl; have k3:=bJ.out 3 _ rfl; have k4:=bJ.out 4 _ rfl; have k5:=bJ.out 5 _ rfl; have k6:=bJ.out 6 _ rfl; have k7:=bJ.out 7 _ rfl; have k8:=bJ.out 8 _ rfl;go_enter func8,ntmps8;go_wp2_with fail;clear ak;refine (Jl w1 gq.out).mono ?_;rintro e w2 ⟨rfl,hb⟩;have aM:=hb.size;have ay:=jq hb;have jN:=jq (gq.out.next hb);have qh:Hid (bA w2 w2.heap.size [.slice A1 n1 c1,.slice A2 n2 c2,.string s,.int .i64 ty,.int .i64 lf,.slice A3 n3 c3,.slice A4 n4 c4,.int .i64 dr,.int .i64 st] h):=jq (de _ _ _ _ _ (da _ _ _ _ _ sV.out hb) hb.size);have bw:=jq (bJ.out.keep hb (by omega));replace kz:=(cl hb (by omega)).trans kz;clear hb;replace k0:=bw.out 0 _ rfl; replace k1:=bw.out 1 _ rfl; replace k2:=bw.out 2 _ rfl; replace k3:=bw.out 3 _ rfl; replace k4:=bw.out 4 _ rfl; replace k5:=bw.out 5 _ rfl; replace k6:=bw.out 6 _ rfl; replace k7:=bw.out 7 _ rfl; replace k8:=bw.out 8 _ rfl;go_wp2_with fail;refine (K7 _ h t w2 qh.out).mono ?_;rintro e w3 ⟨rfl,hb⟩;have er:=hb.size;have al:=jq hb;have mx:=jq (jN.out.next hb);have rm:Hid (bA w3 w3.heap.size [.slice A1 n1 c1,.slice A2 n2 c2,.string s,.int .i64 ty,.int .i64 lf,.slice A3 n3 c3,.slice A4 n4 c4,.int .i64 dr,.int .i64 st] h):=jq (de _ _ _ _ _ (da _ _ _ _ _ qh.out hb) hb.size);have bP:=jq (bw.out.keep hb (by omega));replace kz:=(cl hb (by omega)).trans kz;clear hb;replace k0:=bP.out 0 _ rfl; replace k1:=bP.out 1 _ rfl; replace k2:=bP.out 2 _ rfl; replace k3:=bP.out 3 _ rfl; replace k4:=bP.out 4 _ rfl; replace k5:=bP.out 5 _ rfl; replace k6:=bP.out 6 _ rfl; replace k7:=bP.out 7 _ rfl; replace k8:=bP.out 8 _ rfl;by_cases hU:Np.tn h t
 case neg=>
  rw[Np.aJ hU];have HE:=jq ((aw.out.trans ((ay.out.trans (al.out.mono (by omega))).mono (by omega))));go_wp2_with fail;exact bodyPost_ret (v:=.bool true) (by simp[results,results8,go_sem]) rfl ⟨rfl,HE.out⟩
 case pos=>
  rw[Np.bM hU];have en:Hid (Np.mT h):=jq hU.1;have fK:Hid (Np.VHist h):=jq hU.2.1;have HAT:Hid (Np.lG h t):=jq ⟨hU.2.1,hU.2.2.1,hU.2.2.2⟩;have sW:Hid (mr w3 [.slice A1 n1 c1,.slice A2 n2 c2,.string s,.int .i64 ty,.int .i64 lf,.slice A3 n3 c3,.slice A4 n4 c4,.int .i64 dr,.int .i64 st] h):=jq ⟨rm.out,hU.1.use,HS.out⟩;clear hU;have pj:=jq hz;clear hz;obtain⟨E1,N4⟩:∃ a,(Np.di h z.data.toList).1=a:=⟨_,rfl⟩;have xE:=jq N4;clear N4;go_wp2_with fail;refine (vH _ h z pj.out w3 mx.out sW.out).mono ?_;rintro e w4 ⟨Ap,np,cp,rfl,hl',hr,hb⟩;have Ar:=jq (hr.all zg);have pb:=jq hl';clear hr hl';have gC:=hb.size;have ar:=jq hb;have qn:=jq (mx.out.next hb);have C1:Hid (bA w4 w4.heap.size [.slice A1 n1 c1,.slice A2 n2 c2,.string s,.int .i64 ty,.int .i64 lf,.slice A3 n3 c3,.slice A4 n4 c4,.int .i64 dr,.int .i64 st] h):=jq (de _ _ _ _ _ (da _ _ _ _ _ rm.out hb) hb.size);have dj:=jq (bP.out.keep hb (by omega));have sX:=jq (sW.out.keep hb);replace kz:=(cl hb (by omega)).trans kz;clear hb;replace k0:=dj.out 0 _ rfl; replace k1:=dj.out 1 _ rfl; replace k2:=dj.out 2 _ rfl; replace k3:=dj.out 3 _ rfl; replace k4:=dj.out 4 _ rfl; replace k5:=dj.out 5 _ rfl; replace k6:=dj.out 6 _ rfl; replace k7:=dj.out 7 _ rfl; replace k8:=dj.out 8 _ rfl;rw[xE.out];go_wp2_with fail;refine (cAt _ h t w4 qn.out sX.out).mono ?_;rintro e w5 ⟨A1a,n1a,c1a,A2a,n2a,c2a,sa,tya,lfa,A3a,n3a,c3a,A4a,n4a,c4a,rfl,hw',hb⟩;rw[(Np.qq HAT.out).2];rw[(Np.qq HAT.out).1] at hw';have xZ:=jq hw';clear hw';have me:=hb.size;have bq:=jq hb;have rA:=jq (qn.out.next hb);have uP:Hid (bA w5 w5.heap.size [.slice A1 n1 c1,.slice A2 n2 c2,.string s,.int .i64 ty,.int .i64 lf,.slice A3 n3 c3,.slice A4 n4 c4,.int .i64 dr,.int .i64 st] h):=jq (de _ _ _ _ _ (da _ _ _ _ _ C1.out hb) hb.size);have cC:=jq (dj.out.keep hb (by omega));have rn:=jq (sX.out.keep hb);replace kz:=(cl hb (by omega)).trans kz;clear hb;replace k0:=cC.out 0 _ rfl; replace k1:=cC.out 1 _ rfl; replace k2:=cC.out 2 _ rfl; replace k3:=cC.out 3 _ rfl; replace k4:=cC.out 4 _ rfl; replace k5:=cC.out 5 _ rfl; replace k6:=cC.out 6 _ rfl; replace k7:=cC.out 7 _ rfl; replace k8:=cC.out 8 _ rfl;obtain⟨Ya,tC⟩:∃ Y,w5.heap.size=Y:=⟨_,rfl⟩;obtain⟨w6,bK⟩:∃ w',w5.alloc (.cells #[.slice A1a n1a c1a,.slice A2a n2a c2a,.string sa,.int .i64 tya,.int .i64 lfa,.slice A3a n3a c3a,.slice A4a n4a c4a] 34)=w':=⟨_,rfl⟩;have hb:Below w5.heap.size w5 w6:=by rw[<-bK]; exact (vQ _ _).alloc (bQ _) _
  have ZA:w6.heap.size=Ya+1:=by rw[<-bK,<-tC]; simp
  have Dq:=jq (fm _ _ tC bK);have il:=hb.size;have cS:=jq hb;have rB:=jq (rA.out.next hb);have zR:Hid (bA w6 w6.heap.size [.slice A1 n1 c1,.slice A2 n2 c2,.string s,.int .i64 ty,.int .i64 lf,.slice A3 n3 c3,.slice A4 n4 c4,.int .i64 dr,.int .i64 st] h):=jq (de _ _ _ _ _ (da _ _ _ _ _ uP.out hb) hb.size);have cD:=jq (cC.out.keep hb (by omega));have ro:=jq (rn.out.keep hb);replace kz:=(cl hb (by omega)).trans kz;clear hb;replace k0:=cD.out 0 _ rfl; replace k1:=cD.out 1 _ rfl; replace k2:=cD.out 2 _ rfl; replace k3:=cD.out 3 _ rfl; replace k4:=cD.out 4 _ rfl; replace k5:=cD.out 5 _ rfl; replace k6:=cD.out 6 _ rfl; replace k7:=cD.out 7 _ rfl; replace k8:=cD.out 8 _ rfl;have lJ:Hid (Below w.heap.size w w6):=jq ((aw.out.trans ((ay.out.trans ((al.out.trans ((ar.out.trans ((bq.out.trans (cS.out.mono (by omega))).mono (by omega))).mono (by omega))).mono (by omega))).mono (by omega))));have Yv:E1=0\/E1=1\/E1=4:=by rw[<-xE.out]; exact Np.aqJ h z.data.toList
  rcases Yv with rfl | rfl | rfl
  rotate_left
  ·go_wp2_with fail;exact bodyPost_ret (v:=.bool true) (by simp[results,results8,go_sem]) rfl ⟨rfl,lJ.out⟩
  ·go_wp2_with fail;exact bodyPost_ret (v:=.bool true) (by simp[results,results8,go_sem]) rfl ⟨rfl,lJ.out⟩
  have T9:Hid ((Np.di h z.data.toList).2=Np.pub h.copies z.data.toList):=jq (Np.aqX xE.out).2.2;obtain⟨l1,bi⟩:∃ l,Np.pub h.copies z.data.toList=l:=⟨_,rfl⟩;obtain⟨zl,xa⟩:∃ l,(Np.oT h t).zones=l:=⟨_,rfl⟩;have TT:Hid (∀ x∈l1,x.zone=z.data.toList/\x.spans = []/\x.fresh≠[]/\Np.xp x.fresh=true/\Np.ux x.fresh t=Np.xd zl z.data.toList x.signed):=jq (λx hx=>by
   subst bi xa;obtain⟨m1,m2,m3,_⟩:=Np.yV fK.out.full hx;refine⟨m1,m2,Np.Xd fK.out.full hx,Np.asQ fK.out (by have:=en.out.use.pairs z.data.toList; omega) hx,?_⟩;rw[Bool.eq_iff_iff,Np.Ry,Np.Kx];exact Np.asZ fK.out hx)
  have Uc:Hid (l1.Pairwise λx y=>x.signed≠y.signed):=jq (by subst bi; exact Np.arQ _ _);have UR:Hid (∀ p∈zl,p.zone.apex=z.data.toList->∀ s∈p.zone.sets,Np.oD l1 s t l1.length=true):=jq (λp hp ha s hs=>by
   subst bi xa;rw[Np.XN];obtain⟨y,h1,h2,h3⟩:=Np.aOZ fK.out hp hs ha;exact⟨y,h1,h2.symm,h3⟩)
  have Ds:Hid (∀ p∈zl,p.zone.sets.length<=100):=jq (λp hp=>by
   subst xa;obtain⟨c,hc,rfl⟩:=List.mem_map.1 hp;exact (en.out.use.each c (List.mem_filter.1 hc).1).1)
  rw[T9.out,bi] at Ar pb;have mu:Hid (np<=5000):=jq (by rw[<-pb.out,<-bi]; have h1:=Np.QN h.copies z.data.toList; have h2:=ro.out.use.pairs z.data.toList; omega);have MM:Hid (SlR jm 3 w6 w6.heap.size (.slice A2a n2a c2a) zl):=jq (by rw[<-xa]; exact (xZ.out.keep cS.out).zones.all nR);have H0:Hid (zl.length=n2a):=jq (by rw[<-xa]; exact xZ.out.len);have a3X:n2a<=20:=by rw[<-H0.out,<-xa]; show ((Np.ki h.copies t).map Np.im).length<=20; rw[List.length_map]; exact yQ (List.length_filter_le _ _) en.out.1.1
  have tc:=jq (Ar.out.later kN kg (bq.out.trans (cS.out.mono (by omega))));have hcp:np<=cp:=by
   obtain⟨A',c',h1,h2,_⟩:=ah tc.out;simp only[Value.slice.injEq] at h1;omega
  have mX:=jq kz;clear bi xa kz k0 k1 k2 k3 k4 k5 k6 k7 k8;have Za:=mu.out;go_wp2_with fail
  try clear bK
  go_loopw [64] (λi wr=>∃ k:Nat,k<=np/\i = .int .i64 k/\Hid (Below w6.heap.size w6 wr)) (λi _=>np - (intOf i).toNat)
  case atStart=>exact⟨0,jQ _,rfl,jq (vQ _ _)⟩
  case round=>
   obtain⟨k,hk,rfl,HB⟩:=hrel;obtain⟨wo,rfl⟩:∃ w',w'=wr:=⟨_,rfl⟩;have am:=HB.out.size;by_cases aa:k<np
   ·obtain⟨x,ac⟩:∃ x,l1[k]?=some x:=⟨_,aQ (by rw[pb.out]; exact aa)⟩;obtain⟨b,o,zs,sn,dv,sv,fv,pv,rfl,bZ,Kf,av,aL,ax,oE,qI,e0,e1,e2,e3,e4,e5,e6,e7⟩:=wl (tc.out.later kN kg HB.out) ac;obtain⟨m1,m2,m3,m4,m5⟩:=TT.out x (gQ ac);obtain rfl:zs=z:=iM (Kf.trans m1);have rk:=jq ac;have aH:=jq av;have iA:=jq aL;have fC:=jq ax;have xF:=jq oE;obtain⟨dA,dn,dc,rfl⟩:=gD aL;obtain⟨gA,gn,gc,rfl⟩:=gD ax;obtain⟨fA,fn,fc,rfl⟩:=gD oE;obtain⟨pA,pn,pc,rfl⟩:=gD qI;obtain rfl:pn=0:=by
     have:=Rv qI
     rw[m2] at this;exact this.symm
    have jt:fn≠0:=λe=>m3 (rQ ((Rv oE).trans e));obtain⟨r,hr⟩:∃ r,Np.ux x.fresh t=r:=⟨_,rfl⟩;have mw:=jq hr;have jM:Hid (Np.xd zl zs.data.toList x.signed=r):=jq (m5.symm.trans hr);have xW:=jq m4;obtain⟨wb,gB⟩:∃ w',wo.alloc (.cells #[.string zs,.string sn,.int .i64 x.signed.set.type,.int .i64 x.signed.set.life,.slice dA dn dc,.slice gA gn gc,.slice fA fn fc,.slice pA 0 pc] 70)=w':=⟨_,rfl⟩;have cg:Below wo.heap.size wo wb:=by rw[<-gB]; exact (vQ _ _).alloc (bQ _) _
    have eG:=jq (fm _ _ rfl gB);have aB:=jq cg;have bI:Hid (Below w6.heap.size w6 wb):=jq (HB.out.trans (cg.mono am));have jz:wo.heap.size<wb.heap.size:=by rw[<-gB]; simp
    have bH:(0:Int)<=(k:Int):=by omega
    have bG:(k:Int)<(np:Int):=by omega
    have nC:((fn:Int) == 0)=false:=beq_eq_false_iff_ne.2 (by omega);have qJ:(r != r)=false:=by simp
    have kz:wb.cell? ⟨X+1,0,none⟩=some (.string zs):=(cl bI.out (by omega)).trans mX.out;have PM:X+1<wb.heap.size:=by omega
    have rD:=jq (MM.out.later fV fW bI.out);have UV:Hid (wb.cell? ⟨Ya,1,none⟩=some (.slice A2a n2a c2a)):=jq ((Dq.out.keep bI.out (by omega)) 1 _ rfl);have PO:Ya<wb.heap.size:=by have:=bI.out.size; omega
    have d0:=eG.out 0 _ rfl; have d1:=eG.out 1 _ rfl; have d2:=eG.out 2 _ rfl; have d3:=eG.out 3 _ rfl; have d4:=eG.out 4 _ rfl; have d5:=eG.out 5 _ rfl; have d6:=eG.out 6 _ rfl; have d7:=eG.out 7 _ rfl;have nD:∀ (g:bF wb) (p:Addr),p.block<wb.heap.size->g.w.cell? p=wb.cell? p:=λg p h=>g.cell p h;have SM:Hid (∀ g:bF wb,Calls prog 33 #[.slice fA fn fc] g.w λe w'=>e = .returned (.bool true)/\Below g.w.heap.size g.w w'):=jq (λg=>by
     have:=aGX _ x.fresh g.w ((xF.out.later eZ jd aB.out).later eZ jd g.below)
     rwa [xW.out] at this)
    have SR:Hid (∀ g:bF wb,Calls prog 31 #[.slice fA fn fc,.int .i64 t] g.w λe w'=>e = .returned (.bool r)/\Below g.w.heap.size g.w w'):=jq (λg=>by
     have:=On _ x.fresh t g.w ((xF.out.later eZ jd aB.out).later eZ jd g.below)
     rwa [mw.out] at this)
    have SW:Hid (∀ g:bF wb,Calls prog 32 #[.agg #[.string sn,.int .i64 x.signed.set.type,.int .i64 x.signed.set.life,.slice dA dn dc,.slice gA gn gc],.pointer (some ⟨Ya,0,none⟩),.pointer (some ⟨X+1,0,none⟩)] g.w λe w'=>e = .returned (.bool r)/\Below g.w.heap.size g.w w'):=jq (λg=>by
     have:=alZ x.signed sn aH.out dA dn dc gA gn gc zs zl A2a n2a c2a H0.out (by omega) (λp hp=>yQ (Ds.out p hp) (by omega)) Ya (X+1) g.w (lQ PO g.below.size) (lQ PM g.below.size) ((g.below.cell (p:=⟨Ya,1,none⟩) PO).trans UV.out) ((g.below.cell (p:=⟨X+1,0,none⟩) PM).trans kz) ((iA.out.later cB cZ aB.out).later cB cZ g.below) ((fC.out.later el fx aB.out).later el fx g.below) (rD.out.later fV fW g.below)
     rwa [jM.out] at this)
    have eX:∀ w,(Instr.slice 43 (.slice (some ⟨b,o,none⟩) np cp) none (some (.int .i64 (k:Int))) none).run prog w = .ok (.slice (some ⟨b,o,none⟩) k cp) w:=λw=>by
     rw[run_slice_h w 43 _ _ _ underlying43 IntKind.i64 _ (by omega) (by omega)];by_cases h:cp=0 <;> simp[sliced,go_sem,Result.andThen,h,Addr.add]
    clear ac av aL ax oE qI cg hr m1 m2 m3 m4 m5 Kf;go_wp2_with fail;refine fe (by kernel_rfl) (by kernel_rfl) ?_
    repeat (go_big_quiet_step ((first
     | (go_at_call 33; exact Calls.grow_of (SM.out _))
     | (go_at_call 31; exact Calls.grow_of (SR.out _))
     | (go_at_call 32; exact Calls.grow_of (SW.out _)))))
    refine wpQuiet_nil ?_;rintro _ ⟨g,rfl⟩;obtain⟨wg,J6⟩:∃ w',g.w=w':=⟨_,rfl⟩;have yt:Below wb.heap.size wb wg:=by rw[<-J6]; exact g.below
    rw[J6];have Lt:=jq yt;have Pu:=yt.size;clear nD J6 g gB kz yt d0 d1 d2 d3 d4 d5 d6 d7;go_wp2_with fail;go_loopw [106] (λi wr=>∃ j:Nat,j<=k/\i = .int .i64 j/\Hid (Below wg.heap.size wg wr)) (λi _=>k - (intOf i).toNat)
    case atStart=>exact⟨0,jQ _,rfl,jq (vQ _ _)⟩
    case round=>
     obtain⟨j,hj,rfl,HC⟩:=hrel;have sm:=HC.out.size;have mj:Hid (Below w6.heap.size w6 wr):=jq (bI.out.trans ((Lt.out.trans (HC.out.mono Pu)).mono bI.out.size));by_cases wI:j<k
     ·obtain⟨y,cj⟩:∃ y,l1[j]?=some y:=⟨_,aQ (by rw[pb.out]; omega)⟩;obtain⟨b2,o2,zs2,sn2,dv2,sv2,fv2,pv2,tF,I9,PY,ug,lW,mb,qA,t8,f0,f1,f2,f3,f4,f5,f6,f7⟩:=wl (tc.out.later kN kg mj.out) cj;simp only[Option.some.injEq,Addr.mk.injEq,and_true] at tF;obtain⟨rfl,rfl⟩:=tF;have AF:Hid (x.signed≠y.signed):=jq (λe=>by
       obtain⟨g1,g2⟩:=cQ.1 cj;obtain⟨g3,g4⟩:=cQ.1 rk.out
       have:=(List.pairwise_iff_getElem.1 Uc.out) j k g1 g3 wI
       rw[g2,g4] at this;exact this e.symm)
      have Ax:=jq ug;have uK:=jq lW;have vm:=jq mb;obtain⟨dA2,dn2,dc2,rfl⟩:=gD lW;obtain⟨gA2,gn2,gc2,rfl⟩:=gD mb;obtain⟨fA2,fn2,fc2,rfl⟩:=gD qA;obtain⟨pA2,pn2,pc2,rfl⟩:=gD t8;obtain⟨wc,gT⟩:∃ w',wr.alloc (.cells #[.string zs2,.string sn2,.int .i64 y.signed.set.type,.int .i64 y.signed.set.life,.slice dA2 dn2 dc2,.slice gA2 gn2 gc2,.slice fA2 fn2 fc2,.slice pA2 pn2 pc2] 70)=w':=⟨_,rfl⟩;have iD:Below wr.heap.size wr wc:=by rw[<-gT]; exact (vQ _ _).alloc (bQ _) _
      have fZ:=jq (fm _ _ rfl gT);have ip:=jq iD;have LN:Hid (Below wb.heap.size wb wc):=jq ((Lt.out.trans (HC.out.mono Pu)).trans (iD.mono (by omega)));have MF:Hid (Below wo.heap.size wo wc):=jq (aB.out.trans (LN.out.mono aB.out.size));have eb:=jq (HC.out.trans (iD.mono sm));have mp:=jq (eG.out.keep LN.out jz);have iH:(0:Int)<=(j:Int):=by omega
      have pD:(j:Int)<(k:Int):=by omega
      have d1:=mp.out 1 _ rfl; have d2:=mp.out 2 _ rfl; have d3:=mp.out 3 _ rfl; have d4:=mp.out 4 _ rfl; have d5:=mp.out 5 _ rfl;have c1':=fZ.out 1 _ rfl; have c2':=fZ.out 2 _ rfl; have c3':=fZ.out 3 _ rfl; have c4':=fZ.out 4 _ rfl; have c5':=fZ.out 5 _ rfl;clear cj ug lW mb qA t8 iD;go_wp2_with fail
      try clear gT
      refine (Fy x.signed y.signed sn sn2 aH.out Ax.out _ _ _ _ wc (iA.out.later cB cZ MF.out) (fC.out.later el fx MF.out) (uK.out.later cB cZ ip.out) (vm.out.later el fx ip.out)).mono ?_;rw[tQ AF.out];rintro e wd ⟨rfl,dF⟩;have fJ:=jq (eb.out.trans (dF.mono eb.out.size));clear dF d1 d2 d3 d4 d5 c1' c2' c3' c4' c5';go_wp2_with fail;go_roundw
      case rel=>exact⟨j+1,by omega,by go_num,fJ⟩
      case measure=>simp[intOf] <;> omega
     ·obtain rfl:j=k:=by omega
      go_wp2_with fail;go_roundw
      case rel=>exact⟨j+1,by omega,by go_num,mj⟩
      case measure=>simp[intOf] <;> omega
   ·obtain⟨w7,rfl⟩:∃ w',w'=wo:=⟨_,rfl⟩;have hb:=HB.out;clear am;have mL:=hb.size;have ca:=jq hb;have tg:=jq (rB.out.next hb);have C2:Hid (bA w7 w7.heap.size [.slice A1 n1 c1,.slice A2 n2 c2,.string s,.int .i64 ty,.int .i64 lf,.slice A3 n3 c3,.slice A4 n4 c4,.int .i64 dr,.int .i64 st] h):=jq (de _ _ _ _ _ (da _ _ _ _ _ zR.out hb) hb.size);have dL:=jq (cD.out.keep hb (by omega));have uR:=jq (ro.out.keep hb);clear hb;have TG:Hid (w7.cell? ⟨X+1,0,none⟩=some (.string z)):=jq ((cl ca.out (by omega)).trans mX.out);have j1:=(Dq.out.keep ca.out (by omega)) 1 _ rfl;have uN:Hid (Below w.heap.size w w7):=jq (lJ.out.trans (ca.out.mono lJ.out.size));have Hk:=jq (tc.out.later kN kg ca.out);have UY:=jq (MM.out.later fV fW ca.out);go_wp2_with fail;clear j1 HB;go_loopw [120] (λi wr=>∃ k:Nat,k<=n2a/\i = .int .i64 k/\Hid (Below w7.heap.size w7 wr)) (λi _=>n2a - (intOf i).toNat)
    case atStart=>exact⟨0,jQ _,rfl,jq (vQ _ _)⟩
    case round=>
     obtain⟨k,hk,rfl,HB⟩:=hrel;obtain⟨wo,rfl⟩:∃ w',w'=wr:=⟨_,rfl⟩;have am:=HB.out.size;by_cases aa:k<n2a
     ·obtain⟨p,ac⟩:∃ x,zl[k]?=some x:=⟨_,aQ (by rw[H0.out]; exact aa)⟩;obtain⟨b,o,sp,sv,rfl,bZ,uh,_,ax,e0,e1,e2⟩:=Cz (UY.out.later fV fW HB.out) ac;obtain⟨SA,sc,rfl,_,_⟩:=ah ax;obtain⟨m,hm⟩:∃ m,p.zone.sets.length=m:=⟨_,rfl⟩;rw[hm] at ax e2;have Mk:=jq (gQ ac);have jw:m<=100:=by rw[<-hm]; exact Ds.out p Mk.out
      have HM:=jq hm;have fC:=jq ax;have xW:=jq uh;have bH:(0:Int)<=(k:Int):=by omega
      have bG:(k:Int)<(n2a:Int):=by omega
      obtain⟨wb,gB⟩:∃ w',wo.alloc (.cells #[.int .i64 p.host,.string sp,.slice SA m sc] 60)=w':=⟨_,rfl⟩;have cg:Below wo.heap.size wo wb:=by rw[<-gB]; exact (vQ _ _).alloc (bQ _) _
      have eG:=jq (fm _ _ rfl gB);have bI:Hid (Below w7.heap.size w7 wb):=jq (HB.out.trans (cg.mono am));have aB:=jq cg;have jz:wo.heap.size<wb.heap.size:=by rw[<-gB]; simp
      have d2:=eG.out 2 _ rfl;have jK:Hid ((sp.toList != z.toList)=false->p.zone.apex=z.data.toList):=jq (λh=>by
       have:=eq_of_beq (show (sp.toList == z.toList)=true by simpa [bne] using h)
       rw[<-xW.out,<-dQ,this,dQ])
      obtain⟨ne,hne⟩:∃ b,(sp.toList != z.toList)=b:=⟨_,rfl⟩;rw[hne] at jK;have wM:(sp.toList == z.toList)=!ne:=by rw[<-hne]; simp[bne]
      clear ac uh ax hm cg;go_wp2_with fail
      try clear gB
      clear d2;go_loopw [128] (λi wr=>∃ j:Nat,j<=m/\i = .int .i64 j/\Hid (Below wb.heap.size wb wr)) (λi _=>m - (intOf i).toNat)
      case atStart=>exact⟨0,jQ _,rfl,jq (vQ _ _)⟩
      case round=>
       obtain⟨j,hj,rfl,HC⟩:=hrel;obtain⟨wi,rfl⟩:∃ w',w'=wr:=⟨_,rfl⟩;have sm:=HC.out.size;by_cases wI:j<m
       ·obtain⟨x,cj⟩:∃ y,p.zone.sets[j]?=some y:=⟨_,aQ (by rw[HM.out]; exact wI)⟩;obtain⟨b2,o2,c2,sn,dv,sv,lz,I9,_,av,_,aL,ax,f0,f1,f2,f3,f4⟩:=eE (fC.out.later aN bN (aB.out.trans (HC.out.mono aB.out.size))) cj;simp only[Value.slice.injEq] at lz;obtain⟨rfl,-,rfl⟩:=lz;have Dk:=jq (gQ cj);have aH:=jq av;have iA:=jq aL;have UA:=jq ax;obtain⟨dA,dn,dc,rfl⟩:=gD aL;obtain⟨gA,gn,gc,rfl⟩:=gD ax;obtain⟨wc,gT⟩:∃ w',wi.alloc (.cells #[.string sn,.int .i64 x.set.type,.int .i64 x.set.life,.slice dA dn dc,.slice gA gn gc] 68)=w':=⟨_,rfl⟩;have iD:Below wi.heap.size wi wc:=by rw[<-gT]; exact (vQ _ _).alloc (bQ _) _
        have uL:=jq (fm _ _ rfl gT);have eb:=jq (HC.out.trans (iD.mono sm));have Gd:=jq iD;have uS:Hid (Below w7.heap.size w7 wc):=jq (bI.out.trans (eb.out.mono bI.out.size));have wT:wi.heap.size<wc.heap.size:=by rw[<-gT]; simp
        have d1:=(eG.out.keep eb.out jz) 1 _ rfl;have kz:=(cl uS.out (by omega)).trans TG.out;have iH:(0:Int)<=(j:Int):=by omega
        have pD:(j:Int)<(m:Int):=by omega
        clear cj av aL ax iD;go_wp2_with fail
        try clear gT
        clear d1 kz;go_loopw [21,139] (λr i wr=>∃ q:Nat,q<=np/\i = .int .i64 q/\r = .bool (ne||Np.oD l1 x t q)/\Hid (Below wc.heap.size wc wr)) (λ_ i _=>np - (intOf i).toNat)
        case atStart=>exact⟨0,jQ _,rfl,by simp[Np.oD,wM],jq (vQ _ _)⟩
        case round=>
         obtain⟨q,hq,rfl,rfl,HQ⟩:=hrel;have jx:=HQ.out.size;by_cases Ey:q<np
         ·obtain⟨y,cj⟩:∃ y,l1[q]?=some y:=⟨_,aQ (by rw[pb.out]; exact Ey)⟩;have mj:Hid (Below w7.heap.size w7 wr):=jq (uS.out.trans (HQ.out.mono uS.out.size));obtain⟨b3,o3,zs2,sn2,dv2,sv2,fv2,pv2,rfl,aWY,PY,ug,lW,mb,qA,t8,e0,e1,e2,e3,e4,e5,e6,e7⟩:=wl (Hk.out.later kN kg mj.out) cj;have dS:=jq (Np.XO (x:=x) (t:=t) cj);have Ax:=jq ug;have uK:=jq lW;have vm:=jq mb;have Gw:=jq qA;obtain⟨dA2,dn2,dc2,rfl⟩:=gD lW;obtain⟨gA2,gn2,gc2,rfl⟩:=gD mb;obtain⟨fA2,fn2,fc2,rfl⟩:=gD qA;obtain⟨pA2,pn2,pc2,rfl⟩:=gD t8;obtain⟨wd,su⟩:∃ w',wr.alloc (.cells #[.string zs2,.string sn2,.int .i64 y.signed.set.type,.int .i64 y.signed.set.life,.slice dA2 dn2 dc2,.slice gA2 gn2 gc2,.slice fA2 fn2 fc2,.slice pA2 pn2 pc2] 70)=w':=⟨_,rfl⟩;have dF:Below wr.heap.size wr wd:=by rw[<-su]; exact (vQ _ _).alloc (bQ _) _
          have fZ:=jq (fm _ _ rfl su);have em:=jq (HQ.out.trans (dF.mono jx));have ip:=jq dF;have UX:Hid (wr.heap.size<wd.heap.size):=jq (by rw[<-su]; simp);have zL:=jq (uL.out.keep em.out wT);have uH:Hid (Below wi.heap.size wi wd):=jq (Gd.out.trans (em.out.mono Gd.out.size));have oI:(0:Int)<=(q:Int):=by omega
          have EI:(q:Int)<(np:Int):=by omega
          have d0:=zL.out 0 _ rfl; have d1:=zL.out 1 _ rfl; have d2:=zL.out 2 _ rfl; have d3:=zL.out 3 _ rfl; have d4:=zL.out 4 _ rfl;have c1':=fZ.out 1 _ rfl; have c2':=fZ.out 2 _ rfl; have c3':=fZ.out 3 _ rfl; have c4':=fZ.out 4 _ rfl; have c5':=fZ.out 5 _ rfl; have c6':=fZ.out 6 _ rfl;clear cj ug lW mb qA t8 dF;obtain⟨r,hr⟩:∃ r,(ne||Np.oD l1 x t q)=r:=⟨_,rfl⟩;have HR:=jq hr;rw[hr];clear hr
          cases r with
          | true=>
           go_wp2_with fail;go_roundw
           case rel=>exact⟨q+1,by omega,by go_num,by rw[dS.out,<-Bool.or_assoc,HR.out]; rfl,em⟩
           case measure=>simp[intOf] <;> omega
          | false=>
           go_wp2_with fail
           try clear su
           refine (Fy x y.signed sn sn2 aH.out Ax.out _ _ _ _ wd (iA.out.later cB cZ uH.out) (UA.out.later el fx uH.out) (uK.out.later cB cZ ip.out) (vm.out.later el fx ip.out)).mono ?_;rintro e we ⟨rfl,cN⟩;have fJ:=jq cN;have PX:=ip.out.size;replace c6':=(cN.cell (p:=⟨wr.heap.size,6,none⟩) UX.out).trans c6';clear cN d0 d1 d2 d3 d4 c1' c2' c3' c4' c5';by_cases bB:x=y.signed
           ·rw[uQ bB];have mv:Hid ((ne||Np.oD l1 x t (q+1))=Np.ux y.fresh t):=jq (by rw[dS.out,<-Bool.or_assoc,HR.out,uQ bB]; rfl);clear bB;go_wp2_with fail;refine (On _ y.fresh t we (Gw.out.later eZ jd (ip.out.trans (fJ.out.mono ip.out.size)))).mono ?_;rintro e wf ⟨rfl,yr⟩;have sS:=jq ((em.out.trans (fJ.out.mono em.out.size)).trans (yr.mono (by have:=em.out.size; have:=fJ.out.size; omega)));clear yr c6';go_wp2_with fail;go_roundw
            case rel=>exact⟨q+1,by omega,by go_num,by rw[mv.out],sS⟩
            case measure=>simp[intOf] <;> omega
           ·rw[tQ bB];have mv:Hid ((ne||Np.oD l1 x t (q+1))=false):=jq (by rw[dS.out,<-Bool.or_assoc,HR.out,tQ bB]; rfl);have sS:=jq (em.out.trans (fJ.out.mono em.out.size));clear bB;go_wp2_with fail;go_roundw
            case rel=>exact⟨q+1,by omega,by go_num,by rw[mv.out],sS⟩
            case measure=>simp[intOf] <;> omega
         ·obtain rfl:q=np:=by omega
          have HR:Hid ((ne||Np.oD l1 x t q)=true):=jq (by
           cases ne with
           | true=>rfl
           | false=>rw[<-pb.out]; exact UR.out p Mk.out (jK.out rfl) x Dk.out)
          rw[HR.out];have fJ:Hid (Below wb.heap.size wb wr):=jq (eb.out.trans (HQ.out.mono eb.out.size));go_wp2_with fail;go_roundw
          case rel=>exact⟨j+1,by omega,by go_num,fJ⟩
          case measure=>simp[intOf] <;> omega
       ·obtain rfl:j=m:=by omega
        have fJ:Hid (Below w7.heap.size w7 wi):=jq (bI.out.trans (HC.out.mono bI.out.size));go_wp2_with fail;go_roundw
        case rel=>exact⟨k+1,by omega,by go_num,fJ⟩
        case measure=>simp[intOf] <;> omega
     ·have zN:=jq (uN.out.trans (HB.out.mono uN.out.size));go_wp2_with fail;exact bodyPost_ret (v:=.bool true) (by simp[results,results8,go_sem]) rfl ⟨rfl,zN.out⟩
end
end Go.Proofs.YtbfbobfbgabjiaaGreatDoor
