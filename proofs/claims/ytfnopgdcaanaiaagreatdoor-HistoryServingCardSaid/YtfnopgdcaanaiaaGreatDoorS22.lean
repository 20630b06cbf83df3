/- No condition. -/
import Derived.Test.YtfnopgdcaanaiaaGreatDoorS19
import Derived.Test.YtfnopgdcaanaiaaGreatDoorS20
import Derived.Test.YtfnopgdcaanaiaaGreatDoorS21
set_option linter.all false
set_option maxRecDepth 100000
set_option maxHeartbeats 8000000
namespace Go.Proofs.YtfnopgdcaanaiaaGreatDoor
open Go.Proofs.Tryz
section
open Go.RowKit
theorem Np.bdJ{h:Np.Hist}(v:Np.VHist h)(hl:h.copies.length<=20000)(zone:List UInt8)(k:Int):Np.zJ (Np.nT h.copies zone k)=true:=by
 obtain⟨m3,m5⟩:=Np.FG (Np.Pn v.full zone k);have h1:(Np.nT h.copies zone k).length<=20000:=yQ (TH h.copies zone k) hl;unfold Np.zJ;rw[uQ h1,Bool.true_and];refine Np.TT _ _ m3 (λs hs=>?_) (λu hu=>by cases hu);have hf:=m3.full s hs;obtain⟨c,hc,k1,_⟩:=(m5 s.frm).1 ⟨s,hs,Int.le_refl _,hf⟩;obtain⟨d,hd,_,k2⟩:=(m5 (s.til - 1)).1 ⟨s,hs,by omega,by omega⟩;obtain⟨c,hc',rfl⟩:=List.mem_map.1 hc;obtain⟨d,hd',rfl⟩:=List.mem_map.1 hd;have e1:=(v.each c (List.mem_filter.1 hc').1).times;have e2:=(v.each d (List.mem_filter.1 hd').1).times;have e3:=v.stop;dsimp only[Np.ia] at k1 k2;omega
theorem Np.bdK{h:Np.Hist}(v:Np.VHist h)(zone:List UInt8)(k t:Int):Np.C6 (Np.nT h.copies zone k) t=true↔Np.D5 (Np.ta h t) k zone:=by
 rw[Np.bgX];unfold Np.nT;rw[(Np.FG (Np.Pn v.full zone k)).2];constructor
 ·rintro⟨s,hs,h1,h2⟩;obtain⟨c,hc,rfl⟩:=List.mem_map.1 hs;obtain⟨m1,m2⟩:=List.mem_filter.1 hc;simp only[Bool.and_eq_true,Qa,beq_iff_eq] at m2;exact⟨Np.mf c,List.mem_map.2 ⟨c,Np.CX.2 ⟨m1,h1,h2⟩,rfl⟩,m2.1,m2.2⟩
 ·rintro⟨p,hp,h1,h2⟩;obtain⟨c,hc,rfl⟩:=List.mem_map.1 hp;obtain⟨m1,m2,m3⟩:=Np.CX.1 hc;exact⟨Np.ia c,List.mem_map.2 ⟨c,List.mem_filter.2 ⟨m1,by simp only[Bool.and_eq_true,Qa,beq_iff_eq];exact⟨h1,h2⟩⟩,rfl⟩,m2,m3⟩
theorem Np.avX{l:List Np.Host}{x:Np.Host}(hx:x∈l):¬ Np.lv l x.addr<0:=by
 have h1:=I7 (λh:Np.Host=>decide (h.addr=x.addr)) l;have h2:(l.any λh:Np.Host=>decide (h.addr=x.addr))=true:=List.any_eq_true.2 ⟨x,hx,by simp⟩;rw[h2,Qa] at h1;unfold Np.lv;omega
theorem bdY(e:List Value)(h:Np.Hist)(z:ByteArray)(hz:z.size<=140737488355328)(wh t:Int)(mF:0<=wh)(am:wh<256)(w:World)(hV:j9 w.heap.size w)(hh:ik w w.heap.size e h)(hs:Np.pr h):Calls prog 12 #[.agg e.toArray,.string z,.int .u8 wh,.int .i64 t] w λe w'=>e = .returned (.bool true)/\Below w.heap.size w w':=by
 obtain⟨A1,n1,c1,A2,n2,c2,s,ty,lf,A3,n3,c3,A4,n4,c4,dr,st,rfl,bE,bS,ax,Qq,JZ⟩:=Tt hh;have MS:=jq hh;have HS:=jq hs;have ii:=jq bE;have lK:=jq bS;have cV:=jq ax;obtain⟨X,hX⟩:=afZ w.heap.size;obtain⟨w1,am⟩:=afZ (w.alloc (.cells #[.slice A1 n1 c1,.slice A2 n2 c2,.string s,.int .i64 ty,.int .i64 lf,.slice A3 n3 c3,.slice A4 n4 c4,.int .i64 dr,.int .i64 st] 29));have bF:w1.heap.size=X+1:=by rw[<-am,<-hX];simp
 have hb:Below w.heap.size w w1:=by rw[<-am];exact blAl
 have aH:=jq hb;have n9:=jq hV;have jC:=jq (hV.next hb);have x7:Hid (ik w1 w1.heap.size [.slice A1 n1 c1,.slice A2 n2 c2,.string s,.int .i64 ty,.int .i64 lf,.slice A3 n3 c3,.slice A4 n4 c4,.int .i64 dr,.int .i64 st] h):=jq (sV _ _ _ _ _ (sU _ _ _ _ _ hh hb) hb.size);have VE:=jq (Qq.later gy mN hb);have bwJ:=jq (JZ.later mg zF hb);have bwZ:Hid (SlR lR 5 w X (.slice A2 n2 c2) h.copies):=jq (by rw[<-hX];exact JZ);have mS:=jq (eb _ _ hX am);clear hb hV hh hs bE bS ax Qq JZ;obtain⟨k0,k1,k2,k3,k4,k5,k6,k7,k8⟩:=cGet9 mS.out;go_enter func12,ntmps12;go_wp2_with fail;clear am;refine (aoX w1 jC.out).mono ?_;rintro e w2 ⟨rfl,hb⟩;have aO:=hb.size;have aF:=jq hb;have mq:=jq (jC.out.next hb);have iD:=jq (mS.out.keep hb (by omega));have x8:Hid (ik w2 w2.heap.size [.slice A1 n1 c1,.slice A2 n2 c2,.string s,.int .i64 ty,.int .i64 lf,.slice A3 n3 c3,.slice A4 n4 c4,.int .i64 dr,.int .i64 st] h):=jq (sV _ _ _ _ _ (sU _ _ _ _ _ x7.out hb) hb.size);clear hb;clear k0 k1 k2 k3 k4 k5 k6 k7 k8;obtain⟨k0,k1,k2,k3,k4,k5,k6,k7,k8⟩:=cGet9 iD.out;go_wp2_with fail;refine (bmY _ h t w2 x8.out).mono ?_;rintro e w3 ⟨rfl,hb⟩;have dR:=hb.size;have ah:=jq hb;have rE:=jq (mq.out.next hb);have o8:=jq (iD.out.keep hb (by omega));have Hd:Hid (ik w3 w3.heap.size [.slice A1 n1 c1,.slice A2 n2 c2,.string s,.int .i64 ty,.int .i64 lf,.slice A3 n3 c3,.slice A4 n4 c4,.int .i64 dr,.int .i64 st] h):=jq (sV _ _ _ _ _ (sU _ _ _ _ _ x8.out hb) hb.size);clear hb;clear k0 k1 k2 k3 k4 k5 k6 k7 k8;obtain⟨k0,k1,k2,k3,k4,k5,k6,k7,k8⟩:=cGet9 o8.out;by_cases hU:Np.yx h t
 case neg=>
  rw[Np.aR hU];have HE:=jq ((aH.out.trans ((aF.out.trans (ah.out.afK)).afK)));go_wp2_with fail;exact bodyPost_ret (v:=.bool true) (by simp[results,results12,go_sem]) rfl ⟨rfl,HE.out⟩
 case pos=>
  rw[Np.bV hU];have dZ:Hid (Np.qk h):=jq hU.1;have oa:Hid (Np.VHist h):=jq hU.2.1;have HAT:Hid (Np.oX h t):=jq ⟨hU.2.1,hU.2.2.1,hU.2.2.2⟩;have uT:Hid (rt w3 [.slice A1 n1 c1,.slice A2 n2 c2,.string s,.int .i64 ty,.int .i64 lf,.slice A3 n3 c3,.slice A4 n4 c4,.int .i64 dr,.int .i64 st] h):=jq ⟨Hd.out,hU.1.use,HS.out⟩;clear hU;have IG:=jq hz;have XJ:=jq (And.intro mF am);have HE:=jq ((aH.out.trans ((aF.out.trans (ah.out.afK)).afK)));clear hz mF am;by_cases h0:n1=0
  case pos=>
   have Ev:((n1:Int) == 0)=true:=by rw[h0];rfl
   go_wp2_with fail;exact bodyPost_ret (v:=.bool true) (by simp[results,results12,go_sem]) rfl ⟨rfl,HE.out⟩
  case neg=>
   have Ev:((n1:Int) == 0)=false:=beq_eq_false_iff_ne.2 (by omega);go_wp2_with fail;clear Ev HE;refine (xw z IG.out w3).mono ?_;rintro e w4 ⟨rfl,hb⟩;have fz:=hb.size;have aw:=jq hb;have yq:=jq (rE.out.next hb);have uN:=jq (o8.out.keep hb (by omega));have x9:=jq (uT.out.keep hb);clear hb;replace k0:=uN.out 0 _ rfl;have HE:=jq ((aH.out.trans ((aF.out.trans ((ah.out.trans (aw.out.afK)).afK)).afK)));by_cases dg:Np.al z.data.toList=true
   case neg=>
    rw[Bool.not_eq_true] at dg;rw[dg];go_wp2_with fail;exact bodyPost_ret (v:=.bool true) (by simp[results,results12,go_sem]) rfl ⟨rfl,HE.out⟩
   case pos=>
    rw[dg];have dV:=jq dg;clear dg HE;have bKX:n1<=70:=by rw[<-ii.out];exact dZ.out.use.hosts
    have zo:=XJ.out;obtain⟨ra,Rc⟩:∃ k:Nat,wh % (n1:Int)=(k:Int):=⟨_,(Int.toNat_of_nonneg (Int.emod_nonneg wh (by omega))).symm⟩;have hra:ra<n1:=by have:=Int.emod_lt_of_pos wh (show (0:Int)<(n1:Int) by omega);omega
    obtain⟨x,ae⟩:∃ x,h.hosts[ra]?=some x:=⟨_,aQ (by rw[ii.out];exact hra)⟩;obtain⟨b,o,sc,rfl,b7,_,_,e0,e1,e2⟩:=zf (VE.out.later gy mN (aF.out.trans ((ah.out.trans (aw.out.afK)).afK))) ae;have ry:Hid (0<=Np.lv h.hosts x.addr):=jq (Int.not_lt.1 (Np.avX (gQ ae)));have zj:wh.tmod (n1:Int)=(ra:Int):=by rw[Int.tmod_eq_emod_of_nonneg zo.1];exact Rc
    have gw:IntKind.i64.wrap (ra:Int)=(ra:Int):=IntWalk.i64_in _ (by omega);have hwt:IntKind.i64.wrap wh=wh:=IntWalk.i64_in _ (by omega);have nI:(0:Int)<=(ra:Int):=by omega
    have gJ:(ra:Int)<(n1:Int):=by omega
    have jh:((n1:Int) == 0)=false:=beq_eq_false_iff_ne.2 (by omega);clear ae Rc;go_wp2_with fail;go_quiet (fail);rename_i nq;generalize aK:World.drewN _ nq=w5;have hb:Below w4.heap.size w4 w5:=aK ▸ below_drewN (vQ _ _) _;clear aK e0 e1 e2 zj gw hwt nI gJ jh;have lB:=hb.size;have bi:=jq hb;have DW:=jq (yq.out.next hb);have uO:=jq (uN.out.keep hb (by omega));have tk:=jq (x9.out.keep hb);clear hb;clear k0 k1 k2 k3 k4 k5 k6 k7 k8;obtain⟨k0,k1,k2,k3,k4,k5,k6,k7,k8⟩:=cGet9 uO.out;go_wp2_with fail;obtain⟨kk,ll⟩:=afZ (Np.lv h.hosts x.addr);have Xj:Hid (Np.oT h z.data.toList x.addr=(0,Np.nT h.copies z.data.toList kk)):=jq (by rw[Np.C7 ⟨oa.out,dV.out⟩,Qc (Int.not_lt.2 ry.out),ll]);have uX:=jq ll;clear ll;refine (IS _ h z IG.out x.addr w5 DW.out tk.out).mono ?_;rintro e w6 ⟨Am,nm,cm,rfl,hl',hr,hb⟩;have NO:=jq (hr.all Tx);have Wf:=jq hl';clear hr hl';have eX:=hb.size;have cg:=jq hb;have AT:=jq (DW.out.next hb);have xW:=jq (uO.out.keep hb (by omega));have yc:=jq (tk.out.keep hb);clear hb;clear k0 k1 k2 k3 k4 k5 k6 k7 k8;obtain⟨k0,k1,k2,k3,k4,k5,k6,k7,k8⟩:=cGet9 xW.out;rw[Xj.out] at NO Wf |-;go_wp2_with fail;refine (cAt _ h t w6 AT.out yc.out).mono ?_;rintro e w7 ⟨A1a,n1a,c1a,A2a,n2a,c2a,sa,tya,lfa,A3a,n3a,c3a,A4a,n4a,c4a,rfl,hw',hb⟩;rw[(Np.yz HAT.out).2];rw[(Np.yz HAT.out).1] at hw';have ID:=jq hw';clear hw';have mG:=hb.size;have cn:=jq hb;have IA:=jq (AT.out.next hb);clear hb;obtain⟨Ya,BJ⟩:=afZ w7.heap.size;obtain⟨w8,gM⟩:=afZ (w7.alloc (.cells #[.slice A1a n1a c1a,.slice A2a n2a c2a,.string sa,.int .i64 tya,.int .i64 lfa,.slice A3a n3a c3a,.slice A4a n4a c4a] 68));have hb:Below w7.heap.size w7 w8:=by rw[<-gM];exact blAl
    have bNY:w8.heap.size=Ya+1:=by rw[<-gM,<-BJ];simp
    have XP:=jq (eb _ _ BJ gM);have p6:=hb.size;have cZ:=jq hb;have AU:=jq (IA.out.next hb);clear hb;clear k0 k1 k2 k3 k4 k5 k6 k7 k8;have XQ:=XP;obtain⟨j0,j1,j2,j3,j4,j5,j6⟩:=cGet7 XQ.out;go_wp2_with fail;clear gM;refine (Yv _ (Np.ta h t) (Np.bqX oa.out t) (by show ((Np.rj h.copies t).map Np.mf).length<=500;rw[List.length_map];exact yQ (List.length_filter_le _ _) (by have:=dZ.out.1.1;omega)) (λp hp=>by obtain⟨c,hc,rfl⟩:=List.mem_map.1 hp;have:=(dZ.out.use.each c (List.mem_filter.1 hc).1).1;show c.zone.sets.length<=20000;omega) (λp hp s hs=>by obtain⟨c,hc,rfl⟩:=List.mem_map.1 hp;have:=(dZ.out.use.each c (List.mem_filter.1 hc).1).2 s hs;omega) x.addr (Int.not_lt.2 ry.out) z IG.out dV.out w8 AU.out.rules (ID.out.keep cZ.out).all).mono ?_;rintro e w9 ⟨kd,A',n',m',cs,rfl,Ca,hb⟩;clear j0 j1 j2 j3 j4 j5 j6;have mT:Hid (Np.C6 (Np.nT h.copies z.data.toList kk) t=(kd == 1)):=jq (by rw[Bool.eq_iff_iff,Np.bdK oa.out,beq_iff_eq,<-uX.out];exact Ca.symm);clear Ca;have zu:=hb.size;have fd:=jq hb;have DX:=jq (AU.out.next hb);clear hb;obtain⟨G,hG⟩:=afZ w9.heap.size;obtain⟨w10,zm⟩:=afZ (w9.alloc (.cells #[.int .i64 kd,.slice A' n' m',.string cs] 104));have hb:Below w9.heap.size w9 w10:=by rw[<-zm];exact blAl
    have hsG:w10.heap.size=G+1:=by rw[<-zm,<-hG];simp
    have XN:=jq (eb _ _ hG zm);have Fs:=hb.size;have eN:=jq hb;have Iz:=jq (DX.out.next hb);clear hb;have HE:=jq ((aH.out.trans ((aF.out.trans ((ah.out.trans ((aw.out.trans ((bi.out.trans ((cg.out.trans ((cn.out.trans ((cZ.out.trans ((fd.out.trans (eN.out.afK)).afK)).afK)).afK)).afK)).afK)).afK)).afK)).afK)));have g0:=XN.out 0 _ rfl;have NH:=jq (NO.out.later gN mO (cn.out.trans ((cZ.out.trans ((fd.out.trans (eN.out.afK)).afK)).afK)));have lM:=jq (Np.bdJ oa.out (by have:=dZ.out.1.1;omega) z.data.toList kk);have GL:Hid (∀ g:bN w10,Calls prog 53 #[.slice Am nm cm] g.w λe w'=>e = .returned (.bool true)/\Below g.w.heap.size g.w w'):=jq (λg=>by
     have:=bgY _ _ g.w (NH.out.later gN mO g.below)
     rwa [lM.out] at this)
    have GN:Hid (∀ g:bN w10,Calls prog 46 #[.slice Am nm cm,.int .i64 t] g.w λe w'=>e = .returned (.bool (kd == 1))/\Below g.w.heap.size g.w w'):=jq (λg=>by
     have:=ajY _ _ t g.w (NH.out.later gN mO g.below)
     rwa [mT.out] at this)
    have nv:∀ (g:bN w10) (p:Addr),p.block<w10.heap.size->g.w.cell? p=w10.cell? p:=λg p h=>g.cell p h;have ll:((kd == 1) == (kd == 1))=true:=by simp
    go_wp2_with fail;refine agY ?_
    repeat (go_big_quiet_step ((first
     | (go_at_call 53;exact Calls.grow_of (GL.out _))
     | (go_at_call 46;exact Calls.grow_of (GN.out _)))))
    refine wpQuiet_nil ?_;rintro _ ⟨g,rfl⟩;have GZ:=jq (HE.out.trans (g.below.mono HE.out.size));go_wp2_with fail;exact bodyPost_ret (v:=.bool true) (by simp[results,results12,go_sem]) rfl ⟨rfl,GZ.out⟩
end
end Go.Proofs.YtfnopgdcaanaiaaGreatDoor
