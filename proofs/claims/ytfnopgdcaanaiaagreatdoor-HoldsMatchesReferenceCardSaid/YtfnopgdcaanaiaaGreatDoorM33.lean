/- Parts of the proof. No condition. -/
import Derived.Test.YtfnopgdcaanaiaaGreatDoorM19
import Derived.Test.YtfnopgdcaanaiaaGreatDoorM29
import Derived.Test.YtfnopgdcaanaiaaGreatDoorM30
import Derived.Test.YtfnopgdcaanaiaaGreatDoorM31
import Derived.Test.YtfnopgdcaanaiaaGreatDoorM32
set_option linter.all false
set_option maxRecDepth 100000
set_option maxHeartbeats 8000000
namespace Go.Proofs.YtfnopgdcaanaiaaGreatDoor
open Go.Proofs.Tryz
section
open Go.RowKit Go.Shelf
theorem K6(e:List Value)(h:Np.Hist)(w:World)(k:iW w e h) :
 Calls prog 28 #[.agg e.toArray] w λe w'=>∃ A n c,e = .returned (.tuple #[.slice A n c,.int .i64 (Np.nF h).1])/\(Np.nF h).2.length=n/\SlR db 8 w' w'.heap.size (.slice A n c) (Np.nF h).2/\Below w.heap.size w w':=by
 obtain⟨A1,n1,c1,A2,n2,c2,s,ty,lf,A3,n3,c3,A4,n4,c4,dr,st,rfl,-,-,-,-,-⟩:=tm k.rh;obtain⟨X,hX⟩:=acJ w.heap.size;obtain⟨w1,ah⟩:=acJ (w.alloc (.cells #[.slice A1 n1 c1,.slice A2 n2 c2,.string s,.int .i64 ty,.int .i64 lf,.slice A3 n3 c3,.slice A4 n4 c4,.int .i64 dr,.int .i64 st] 29));have bd:w1.heap.size=X+1:=by rw[<-ah,<-hX];simp
 have hb:Below w.heap.size w w1:=by rw[<-ah];exact (vQ _ _).alloc (bQ _) _
 have av:=jq hb;have fM:=jq (k.keep hb);have az:=jq (iq _ _ hX ah);obtain⟨ax,nL⟩:=acJ (Np.nF h);rw[nL];have jB:=jq nL;clear hb k nL;have k0:=az.out 0 _ rfl;have k1:=az.out 1 _ rfl;have k2:=az.out 2 _ rfl;have k3:=az.out 3 _ rfl;have k4:=az.out 4 _ rfl;have k5:=az.out 5 _ rfl;have k6:=az.out 6 _ rfl;have k7:=az.out 7 _ rfl;have k8:=az.out 8 _ rfl;go_enter func28,ntmps28;go_wp2_with fail;clear ah;refine (IP _ h w1 fM.out).mono ?_;rintro e w2 ⟨rfl,hb⟩;have aN:=hb.size;have ai:=acZ av hb;have iV:=jq (fM.out.keep hb);have aZ:=jq (az.out.keep hb (by omega));clear hb;clear k0 k1 k2 k3 k4 k5 k6 k7 k8;have k0:=aZ.out 0 _ rfl;have k1:=aZ.out 1 _ rfl;have k2:=aZ.out 2 _ rfl;have k3:=aZ.out 3 _ rfl;have k4:=aZ.out 4 _ rfl;have k5:=aZ.out 5 _ rfl;have k6:=aZ.out 6 _ rfl;have k7:=aZ.out 7 _ rfl;have k8:=aZ.out 8 _ rfl;by_cases cK:Np.VHist h
 case neg=>
  rw[Np.aF cK];have HN:=jq cK;clear cK;go_wp2_with fail;refine bodyPost_ret (v:=.tuple #[.slice none 0 0,.int .i64 1]) (by simp[results,results28,go_sem]) rfl ?_;rw[<-jB.out,Np.IH HN.out];exact⟨_,_,_,rfl,rfl,kG _ _ _ _,ai.out⟩
 case pos=>
  rw[Np.bh cK];have fu:=jq cK;clear cK;go_wp2_with fail;refine (aBK _ h fu.out w2 iV.out).mono ?_;rintro e w3 ⟨A,n,c,rfl,hl,hr,hb⟩;have ar:=jq (ai.out.trans (hb.mono ai.out.size));have HR:=jq hr;have HL:=jq hl;have hn:n<=2100:=by rw[<-hl];unfold Np.bp;rw[List.length_map];exact iV.out.use.pubAll
  have sO:decide ((20000:Int)<(n:Int))=false:=adJ;clear hb hr hl;go_wp2_with fail;refine bodyPost_ret (v:=.tuple #[.slice A n c,.int .i64 0]) (by simp[results,results28,go_sem]) rfl ?_;rw[<-jB.out,Np.we fu.out];exact⟨_,_,_,rfl,HL.out,HR.out,ar.out⟩
theorem VI{l:List Np.Held}{t:Int}{c:List Np.Ent22}{k:Nat}{x:Np.Ent22}(hx:c[k]?=some x)(h:∀ e∈c.take k,Np.iu l t e=true)(h1:Np.iu l t x=true):∀ e∈c.take (k+1),Np.iu l t e=true:=λy hy=>by
 rw[Ls hx] at hy;rcases List.mem_append.1 hy with hy | hy
 ·exact h y hy
 ·rw[List.mem_singleton] at hy;subst hy;exact h1
theorem VG{l:List Np.Held}{t:Int}{c:List Np.Ent22}{k:Nat}{x:Np.Ent22}(hx:c[k]?=some x)(h1:Np.iu l t x=false):Np.rc l c t=false:=by
 unfold Np.rc;rw[List.all_eq_false];exact⟨x,gQ hx,by rw[h1];decide⟩
theorem asZ{l:List Np.Held}{n:List UInt8}{ty t:Int}{k:Nat}{x:Np.Held}(hx:l[k]?=some x):Np.cN (l.take (k+1)) n ty t=if x.signed.set.name=n/\x.signed.set.type=ty/\Np.cN.l1 x.spans t=true then Np.gS (Np.cN (l.take k) n ty t) x.signed else Np.cN (l.take k) n ty t:=by
 unfold Np.cN;rw[Ls hx,List.filter_append,List.map_append];by_cases h:x.signed.set.name=n/\x.signed.set.type=ty/\Np.cN.l1 x.spans t=true
 ·have hb:((x.signed.set.name == n)&&(decide (x.signed.set.type=ty)&&Np.cN.l1 x.spans t))=true:=by simp[h.1,h.2.1,h.2.2]
  rw[Qb h,List.filter_cons,Qb hb,List.filter_nil,List.map_singleton,Np.tt]
 ·have hb:((x.signed.set.name == n)&&(decide (x.signed.set.type=ty)&&Np.cN.l1 x.spans t))=false:=by
   rw[Bool.eq_false_iff];intro e;rw[Bool.and_eq_true,Bool.and_eq_true,beq_iff_eq,Qa] at e;exact h e
  rw[Qc h,List.filter_cons,Qc (by rw[hb];decide)];simp
theorem aDK(e:List Value)(h:Np.Hist)(q:ByteArray)(hq:q.size<=140737488355328)(qt t:Int)(w:World)(k:iW w e h) :
 Calls prog 29 #[.agg e.toArray,.agg #[.string q,.int .i64 qt],.int .i64 t] w λe w'=>∃ A n c,e = .returned (.tuple #[.slice A n c,.int .i64 (Np.mV h q.data.toList qt t).1])/\(Np.mV h q.data.toList qt t).2.length=n/\SlR bO 5 w' w'.heap.size (.slice A n c) (Np.mV h q.data.toList qt t).2/\Below w.heap.size w w':=by
 obtain⟨A1,n1,c1,A2,n2,c2,s,ty,lf,A3,n3,c3,A4,n4,c4,dr,st,rfl,-,-,-,-,-⟩:=tm k.rh;obtain⟨X,hX⟩:=acJ w.heap.size;obtain⟨px,ba⟩:=acJ (Np.mV h q.data.toList qt t);rw[ba];have gw:=jq ba;obtain⟨w1,ah⟩:=acJ ((w.alloc (.cells #[.slice A1 n1 c1,.slice A2 n2 c2,.string s,.int .i64 ty,.int .i64 lf,.slice A3 n3 c3,.slice A4 n4 c4,.int .i64 dr,.int .i64 st] 29)).alloc (.cells #[.string q,.int .i64 qt] 31));have bd:w1.heap.size=X+2:=by rw[<-ah,<-hX];simp
 have hb:Below w.heap.size w w1:=by rw[<-ah];exact ((vQ _ _).alloc (bQ _) _).alloc (by simp) _
 have av:=jq hb;have fM:=jq (k.keep hb);have az:Hid (ls w1 X [.slice A1 n1 c1,.slice A2 n2 c2,.string s,.int .i64 ty,.int .i64 lf,.slice A3 n3 c3,.slice A4 n4 c4,.int .i64 dr,.int .i64 st]):=jq (by
  rw[<-ah,<-hX];exact (iq [.slice A1 n1 c1,.slice A2 n2 c2,.string s,.int .i64 ty,.int .i64 lf,.slice A3 n3 c3,.slice A4 n4 c4,.int .i64 dr,.int .i64 st] 29 rfl rfl).keep ((vQ _ _).alloc (bQ _) _) (by simp))
 have q0:w1.cell? ⟨X+1,0,none⟩=some (.string q):=by rw[<-ah,<-hX];simp[go_sem]
 have q1:w1.cell? ⟨X+1,1,none⟩=some (.int .i64 qt):=by rw[<-ah,<-hX];simp[go_sem]
 have iF:=jq (And.intro q0 q1);have yE:=jq hq;clear hb k ba hq;have k0:=az.out 0 _ rfl;have k1:=az.out 1 _ rfl;have k2:=az.out 2 _ rfl;have k3:=az.out 3 _ rfl;have k4:=az.out 4 _ rfl;have k5:=az.out 5 _ rfl;have k6:=az.out 6 _ rfl;have k7:=az.out 7 _ rfl;have k8:=az.out 8 _ rfl;go_enter func29,ntmps29;go_wp2_with fail;clear ah;refine (IP _ h w1 fM.out).mono ?_;rintro e w2 ⟨rfl,hb⟩;have aN:=hb.size;have ai:=acZ av hb;have iV:=jq (fM.out.keep hb);have aZ:=jq (az.out.keep hb (by omega));have kc:=jq hb;replace q0:=aaJ hb q0;replace q1:=aaJ hb q1;clear hb;clear k0 k1 k2 k3 k4 k5 k6 k7 k8;by_cases cK:Np.VHist h
 case neg=>
  rw[Np.aF cK];have HN:=jq cK;clear cK;have eJ:Hid (px=((1:Int),[])):=jq (by rw[<-gw.out];exact Np.xU (λk=>HN.out k.1));go_wp2_with fail;refine bodyPost_ret (v:=.tuple #[.slice none 0 0,.int .i64 1]) (by simp[results,results29,go_sem]) rfl ?_;rw[eJ.out];exact⟨_,_,_,rfl,rfl,kG _ _ _ _,ai.out⟩
 case pos=>
  rw[Np.bh cK];have fu:=jq cK;clear cK;go_wp2_with fail;refine (aDY q yE.out qt w2).mono ?_;rintro e w3 ⟨rfl,hb⟩;have eR:=hb.size;have ar:=acZ ai hb;have oF:=jq (iV.out.keep hb);have bi:=jq (aZ.out.keep hb (by omega));have ng:=acZ kc hb;clear hb q0 q1;by_cases hQ:Np.QOk q.data.toList qt
  case neg=>
   rw[Np.aF hQ];have HN:=jq hQ;clear hQ;have eJ:Hid (px=((1:Int),[])):=jq (by rw[<-gw.out];exact Np.xU (λk=>HN.out k.2.1));go_wp2_with fail;refine bodyPost_ret (v:=.tuple #[.slice none 0 0,.int .i64 1]) (by simp[results,results29,go_sem]) rfl ?_;rw[eJ.out];exact⟨_,_,_,rfl,rfl,kG _ _ _ _,ar.out⟩
  case pos=>
   rw[Np.bh hQ];have vP:=jq hQ;clear hQ;go_wp2_with fail;refine (R3 t w3).mono ?_;rintro e w4 ⟨rfl,hb⟩;have fl:=hb.size;have aU:=acZ ar hb;have tI:=jq (oF.out.keep hb);have bZ:=jq (bi.out.keep hb (by omega));have tA:=acZ ng hb;clear hb;by_cases hT:Np.wd t
   case neg=>
    rw[Np.aF hT];have HN:=jq hT;clear hT;have eJ:Hid (px=((1:Int),[])):=jq (by rw[<-gw.out];exact Np.xU (λk=>HN.out k.2.2));go_wp2_with fail;refine bodyPost_ret (v:=.tuple #[.slice none 0 0,.int .i64 1]) (by simp[results,results29,go_sem]) rfl ?_;rw[eJ.out];exact⟨_,_,_,rfl,rfl,kG _ _ _ _,aU.out⟩
   case pos=>
    rw[Np.bh hT];have jB:Hid (px=((0:Int),Np.cN (Np.bp h) q.data.toList qt t)):=jq (by rw[<-gw.out];exact Np.K0 ⟨fu.out,vP.out,hT⟩);clear hT;have k0:=bZ.out 0 _ rfl;have k1:=bZ.out 1 _ rfl;have k2:=bZ.out 2 _ rfl;have k3:=bZ.out 3 _ rfl;have k4:=bZ.out 4 _ rfl;have k5:=bZ.out 5 _ rfl;have k6:=bZ.out 6 _ rfl;have k7:=bZ.out 7 _ rfl;have k8:=bZ.out 8 _ rfl;go_wp2_with fail;refine (K6 _ h w4 tI.out).mono ?_;rw[Np.we fu.out];rintro e w5 ⟨Aa,na,ca,rfl,jO,qp,hb⟩;have ik:=hb.size;have bN:=acZ aU hb;have qX:Hid (SlR db 8 w5 w5.heap.size (.slice Aa na ca) (Np.bp h)):=jq qp;have ql:(Np.bp h).length=na:=jO;have P8:na<=2100:=by rw[<-ql];unfold Np.bp;rw[List.length_map];exact tI.out.use.pubAll
    have r9:=jq ql;have q0:=aaJ hb ((cl tA.out (by omega)).trans iF.out.1);have q1:=aaJ hb ((cl tA.out (by omega)).trans iF.out.2);obtain⟨si,Kg,Kh,Ki,Kj⟩:=info_parts Tryz.infoSignedP;obtain⟨B,hB⟩:=acJ w5.heap.size;have O1:X+1<B:=by omega
    obtain⟨nm,ig⟩:=acJ q.data.toList;have qS:=jq ig;rw[ig] at jB;clear hb qp jO ql ig;clear k0 k1 k2 k3 k4 k5 k6 k7 k8;go_wp2_with fail;go_loopw [10,11] (λvo i wr=>∃ (k m:Nat) (A:Option Addr) (c:Nat),k<=na/\i = .int .i64 k/\vo = .slice A m c/\(Np.cN ((Np.bp h).take k) nm qt t).length=m/\Hid (br bO 5 42 B (λj=>B<=j) wr (.slice A m c) (Np.cN ((Np.bp h).take k) nm qt t))/\Hid (Below B w5 wr)) (λ_ i _=>na - (intOf i).toNat)
    case atStart=>exact⟨0,0,none,0,jQ _,rfl,rfl,rfl,jq (br.nil _),jq (vQ _ _)⟩
    case round=>
     obtain⟨k,m,A,c,hk,rfl,rfl,hm,HO,HB⟩:=hrel;have an:=HB.out.size;have EX:m<=2100:=by
      have h1:=Np.RC ((Np.bp h).take k) nm qt t;rw[List.length_take,r9.out] at h1;omega
     have qF:Hid (Below w.heap.size w wr):=jq (bN.out.trans (HB.out.mono (by rw[<-hB];exact bN.out.size)));by_cases ab:k<na
     case neg=>
      have f9:Hid ((Np.bp h).take k=Np.bp h):=jq (kQ (by rw[r9.out];omega));rw[f9.out] at HO hm;have dt:=jq hm;clear hm;go_wp2_with fail;refine bodyPost_ret (v:=.tuple #[.slice A m c,.int .i64 0]) (by simp[results,results29,go_sem]) rfl ?_;rw[jB.out];exact⟨_,_,_,rfl,dt.out,HO.out.slr lT (by rw[dt.out];omega),qF.out⟩
     case pos=>
      obtain⟨x,aa⟩:∃ x,(Np.bp h)[k]?=some x:=⟨_,aQ (by rw[r9.out];exact ab)⟩;obtain⟨b,o,zs,sn,dv,sv,fv,pv,rfl,bB,fV,aw,aK,aS,jg,jj,e0,e1,e2,e3,e4,e5,e6,e7⟩:=wM (qX.out.later eY eZ (show Below w5.heap.size w5 wr by rw[hB];exact HB.out)) aa;obtain⟨b',o',zs2,sn2,dv2,sv2,fv2,pv2,qf,ac,_,ZU,QA,rq,rC,JR,Cw,EN⟩:=Px (qX.out.keep eY (show Below w5.heap.size w5 wr by rw[hB];exact HB.out)) aa;simp only[Option.some.injEq,Addr.mk.injEq,and_true] at qf;obtain⟨rfl,rfl⟩:=qf;obtain rfl:sn=sn2:=Value.string.inj (Option.some.inj (e1.symm.trans (EN 1 _ rfl)));obtain rfl:dv=dv2:=Option.some.inj (e4.symm.trans (EN 4 _ rfl));obtain rfl:sv=sv2:=Option.some.inj (e5.symm.trans (EN 5 _ rfl));have tP:=jq (asZ (n:=nm) (ty:=qt) (t:=t) aa);obtain⟨dA,dn,dc,rfl⟩:=om aK;obtain⟨gA,gn,gc,rfl⟩:=om aS;obtain⟨pA,pn,pc,rfl⟩:=om jj;have im:=jq aK;have pR:=jq aS;have pN:=jq jj;have Am:Hid (SlR bR 3 wr B (.slice dA dn dc) x.signed.set.data):=jq (by rw[<-hB];exact rq);have U3:Hid (SlR cS 6 wr B (.slice gA gn gc) x.signed.sigs):=jq (by rw[<-hB];exact rC);have aT:=jq (And.intro aw QA);have bJ:(0:Int)<=(k:Int):=by omega
      have bI:(k:Int)<(na:Int):=by omega
      obtain⟨E,hE⟩:=acJ wr.heap.size;obtain⟨w7,eX⟩:=acJ (wr.alloc (.cells #[.string sn,.int .i64 x.signed.set.type,.int .i64 x.signed.set.life,.slice dA dn dc,.slice gA gn gc] 42));have dO:Below wr.heap.size wr w7:=by rw[<-eX];exact (vQ _ _).alloc (bQ _) _
      have mR:w7.heap.size=E+1:=by rw[<-eX,<-hE];simp
      have ej:=jq (iq _ _ hE eX);have cD:=acZ HB dO;have vr:=jq dO;have Ho:=jq (HO.out.keep bj lT cC dO);have r0:=aaJ cD.out q0;have r1:=aaJ cD.out q1;have e7':=aaJ dO e7;have d0:=ej.out 0 _ rfl;have d1:=ej.out 1 _ rfl;have d2:=ej.out 2 _ rfl;have d3:=ej.out 3 _ rfl;have d4:=ej.out 4 _ rfl;have dt:=jq hm;have hbE:b<w7.heap.size:=by omega
      clear aa fV aw aK aS jg jj rq rC JR Cw EN QA ZU dO hm e0 e6;by_cases ig:sn.data.toList=nm
      case neg=>
       have hne:(sn.toList == q.toList)=false:=beq_eq_false_iff_ne.2 (λe=>ig (by rw[<-dQ,e,dQ];exact qS.out));have bC:Hid (Np.cN ((Np.bp h).take (k+1)) nm qt t=Np.cN ((Np.bp h).take k) nm qt t):=jq (by rw[tP.out,Qc (λe=>ig (aT.out.1.trans e.1))]);clear ig;go_wp2_with fail
       try rw[eX]
       clear eX;go_roundw
       case rel=>exact⟨k+1,m,A,c,by omega,by go_num,rfl,by rw[bC.out];exact dt.out,jq (by rw[bC.out];exact Ho.out),cD⟩
       case measure=>simp[intOf] <;> omega
      case pos=>
       obtain rfl:sn=q:=j9 (ig.trans qS.out.symm);by_cases pj:x.signed.set.type=qt
       case neg=>
        have xi:(x.signed.set.type == qt)=false:=by simpa using pj
        have bC:Hid (Np.cN ((Np.bp h).take (k+1)) nm qt t=Np.cN ((Np.bp h).take k) nm qt t):=jq (by rw[tP.out,Qc (λe=>pj e.2.1)]);clear ig pj;go_wp2_with fail
        try rw[eX]
        clear eX;go_roundw
        case rel=>exact⟨k+1,m,A,c,by omega,by go_num,rfl,by rw[bC.out];exact dt.out,jq (by rw[bC.out];exact Ho.out),cD⟩
        case measure=>simp[intOf] <;> omega
       case pos=>
        have Fc:(x.signed.set.type == qt)=true:=by simpa using pj
        have yA:=jq (And.intro ig pj);clear ig pj;obtain⟨Jt,PE⟩:=acJ (Np.cN.l1 x.spans t);have GW:=jq PE;clear PE;go_wp2_with fail
        try rw[eX]
        clear eX;refine (RP _ x.spans t w7 (pN.out.later eE jk vr.out)).mono ?_;rw[GW.out];rintro e w9 ⟨rfl,hb⟩;have qv:=hb.size;have yn:Hid (Below wr.heap.size wr w9):=acZ vr hb;have cR:=acZ cD hb;have cm:=jq (ej.out.keep hb (by omega));have tM:=jq (Ho.out.keep bj lT cC hb);clear hb d0 d1 d2 d3 d4 r0 r1 e7';have d0:=cm.out 0 _ rfl;have d1:=cm.out 1 _ rfl;have d2:=cm.out 2 _ rfl;have d3:=cm.out 3 _ rfl;have d4:=cm.out 4 _ rfl
        cases Jt with
        | false=>
         have bC:Hid (Np.cN ((Np.bp h).take (k+1)) nm qt t=Np.cN ((Np.bp h).take k) nm qt t):=jq (by rw[tP.out,Qc (λe=>by rw[GW.out] at e;exact absurd e.2.2 (by decide))]);go_wp2_with fail;go_roundw
         case rel=>exact⟨k+1,m,A,c,by omega,by go_num,rfl,by rw[bC.out];exact dt.out,jq (by rw[bC.out];exact tM.out),cR⟩
         case measure=>simp[intOf] <;> omega
        | true=>
         have oL:Hid (Np.cN ((Np.bp h).take (k+1)) nm qt t=Np.gS (Np.cN ((Np.bp h).take k) nm qt t) x.signed):=jq (by rw[tP.out,Qb ⟨aT.out.1.symm.trans yA.out.1,yA.out.2,GW.out⟩]);obtain⟨us,xy⟩:=acJ (Np.cN ((Np.bp h).take k) nm qt t);rw[xy] at tM oL dt;obtain⟨ib,PF⟩:=acJ (decide (x.signed∈us));have GX:=jq PF;have iG:=jq (tM.out.slr lT (by rw[dt.out];omega));clear xy PF;go_wp2_with fail;refine (aCK us x.signed sn aT.out.1 dA dn dc gA gn gc _ w9 iG.out (im.out.later bV cu yn.out) (pR.out.later cg cY yn.out)).mono ?_;rw[GX.out];rintro e wA ⟨rfl,hb⟩;have CR:=hb.size;have TR:Hid (Below wr.heap.size wr wA):=acZ yn hb;have dY:=acZ cR hb;have pE:=jq (cm.out.keep hb (by omega));have se:=jq (tM.out.keep bj lT cC hb);clear hb d0 d1 d2 d3 d4;have d0:=pE.out 0 _ rfl;have d1:=pE.out 1 _ rfl;have d2:=pE.out 2 _ rfl;have d3:=pE.out 3 _ rfl;have d4:=pE.out 4 _ rfl
         cases ib with
         | true=>
          have bC:Hid (Np.cN ((Np.bp h).take (k+1)) nm qt t=us):=jq (by rw[oL.out,Np.yO (of_decide_eq_true GX.out)]);go_wp2_with fail;go_roundw
          case rel=>exact⟨k+1,m,A,c,by omega,by go_num,rfl,by rw[bC.out];exact dt.out,jq (by rw[bC.out];exact se.out),dY⟩
          case measure=>simp[intOf] <;> omega
         | false=>
          have bC:Hid (Np.cN ((Np.bp h).take (k+1)) nm qt t=us ++ [x.signed]):=jq (by rw[oL.out,Np.gS,Qc (of_decide_eq_false GX.out)]);obtain⟨wR,pk⟩:=acJ (wA.alloc (.cells #[.string sn,.int .i64 x.signed.set.type,.int .i64 x.signed.set.life,.slice dA dn dc,.slice gA gn gc] 42));have EF:Below wA.heap.size wA wR:=by rw[<-pk];exact (vQ _ _).alloc (bQ _) _
          have hzR:wR.heap.size=wA.heap.size+1:=by rw[<-pk];simp
          have GE:Hid (eh wR wA.heap.size 0 [.string sn,.int .i64 x.signed.set.type,.int .i64 x.signed.set.life,.slice dA dn dc,.slice gA gn gc]):=jq (wl _ _ rfl pk.symm);have rT:=acZ dY EF;have DC:=jq (se.out.keep bj lT cC EF);have ei:Hid (Below B wr wR):=jq ((TR.out.trans (EF.adZ)).adZ);have yG:Hid (bO (bF wR λj=>B<=j) wR.heap.size [.string sn,.int .i64 x.signed.set.type,.int .i64 x.signed.set.life,.slice dA dn dc,.slice gA gn gc] x.signed):=jq ⟨sn,_,_,aT.out.1,aT.out.2,(Am.out.keep bV ei.out).around bV cu (λk e=>e) (by omega),(U3.out.keep cg ei.out).around cg cY (λk e=>e) (by omega),rfl⟩;have Is:=jq pk;clear EF pk;go_wp2_with (at_builtin;rw[Is.out];refine Dd (R:=bO) (M:=λj=>B<=j) wR rfl _ _ 36 rfl B 42 si (.agg #[.string ⟨#[]⟩,.int .i64 0,.int .i64 0,.slice none 0 0,.slice none 0 0]) 80 underlying36 Kg Kh Ki Kj rfl (by decide) (.slice A m c) us rfl DC.out (some ⟨wA.heap.size,0,none⟩) 1 [x.signed] rfl (C4 rfl yG.out GE.out) Sb (by rw[dt.out];simp[maxLen];omega) (by rw[dt.out];simp;omega) (by omega) bj lT cC ?_;intro v8 w8 eV dw iN;obtain⟨A8,c8,rfl⟩:=br.formN eV (n:=m+1) (by rw[List.length_append,dt.out];rfl);have H8:=jq (And.intro eV (And.intro dw iN));clear eV dw iN);have n7:=H8.out.2.1.size;go_roundw
          case rel=>exact⟨k+1,m+1,A8,c8,by omega,by go_num,rfl,by rw[bC.out,List.length_append,dt.out];rfl,jq (by rw[bC.out];exact H8.out.1.sameM (λj=>⟨λe=>e.elim id (λe=>(H8.out.1.lt j e).1),.inl⟩)),jq (rT.out.trans ((vQ _ _).grown H8.out.2.1 (by omega) (λg hg=>(DC.out.lt g hg).1)))⟩
          case measure=>simp[intOf] <;> omega
theorem aAX(e:List Value)(h:Np.Hist)(v:Value)(l:List Np.Ent22)(t:Int)(w:World)(k:iW w e h)(hd:SlR lE 7 w w.heap.size v l) :
 Calls prog 31 #[.agg e.toArray,.agg #[v],.int .i64 t] w λe w'=>e = .returned (.tuple #[.bool (Np.pX h l t).2,.int .i64 (Np.pX h l t).1])/\Below w.heap.size w w':=by
 obtain⟨A1,n1,c1,A2,n2,c2,s,ty,lf,A3,n3,c3,A4,n4,c4,dr,st,rfl,-,-,-,-,-⟩:=tm k.rh;have iB:=jq hd;obtain⟨cA,ck,rfl,_,_⟩:=ak hd;obtain⟨cn,ma⟩:=acJ l.length;rw[ma] at iB |-;have vt:=jq ma;obtain⟨X,hX⟩:=acJ w.heap.size;obtain⟨px,ba⟩:=acJ (Np.pX h l t);rw[ba];have gw:=jq ba;obtain⟨w1,ah⟩:=acJ ((w.alloc (.cells #[.slice A1 n1 c1,.slice A2 n2 c2,.string s,.int .i64 ty,.int .i64 lf,.slice A3 n3 c3,.slice A4 n4 c4,.int .i64 dr,.int .i64 st] 29)).alloc (.cells #[.slice cA cn ck] 76));have bd:w1.heap.size=X+2:=by rw[<-ah,<-hX];simp
 have hb:Below w.heap.size w w1:=by rw[<-ah];exact ((vQ _ _).alloc (bQ _) _).alloc (by simp) _
 have av:=jq hb;have fM:=jq (k.keep hb);have oC:=jq (iB.out.later mq uV hb);have az:Hid (ls w1 X [.slice A1 n1 c1,.slice A2 n2 c2,.string s,.int .i64 ty,.int .i64 lf,.slice A3 n3 c3,.slice A4 n4 c4,.int .i64 dr,.int .i64 st]):=jq (by
  rw[<-ah,<-hX];exact (iq [.slice A1 n1 c1,.slice A2 n2 c2,.string s,.int .i64 ty,.int .i64 lf,.slice A3 n3 c3,.slice A4 n4 c4,.int .i64 dr,.int .i64 st] 29 rfl rfl).keep ((vQ _ _).alloc (bQ _) _) (by simp))
 have q0:w1.cell? ⟨X+1,0,none⟩=some (.slice cA cn ck):=by rw[<-ah,<-hX];simp[go_sem]
 have iF:=jq q0;clear hb k ba hd ma;have k0:=az.out 0 _ rfl;have k1:=az.out 1 _ rfl;have k2:=az.out 2 _ rfl;have k3:=az.out 3 _ rfl;have k4:=az.out 4 _ rfl;have k5:=az.out 5 _ rfl;have k6:=az.out 6 _ rfl;have k7:=az.out 7 _ rfl;have k8:=az.out 8 _ rfl;go_enter func31,ntmps31;go_wp2_with fail;clear ah;refine (IP _ h w1 fM.out).mono ?_;rintro e w2 ⟨rfl,hb⟩;have aN:=hb.size;have ai:=acZ av hb;have iV:=jq (fM.out.keep hb);have aZ:=jq (az.out.keep hb (by omega));have kc:=jq hb;replace q0:=aaJ hb q0;clear hb;clear k0 k1 k2 k3 k4 k5 k6 k7 k8;by_cases cK:Np.VHist h
 case neg=>
  rw[Np.aF cK];have HN:=jq cK;clear cK;have eJ:Hid (px=((1:Int),false)):=jq (by rw[<-gw.out];exact Np.wg (λk=>HN.out k.1));go_wp2_with fail;refine bodyPost_ret (v:=.tuple #[.bool false,.int .i64 1]) (by simp[results,results31,go_sem]) rfl ?_;rw[eJ.out];exact⟨rfl,ai.out⟩
 case pos=>
  rw[Np.bh cK];have fu:=jq cK;clear cK;go_wp2_with fail;refine (axX _ l w2 (oC.out.later mq uV kc.out)).mono ?_;rintro e w3 ⟨rfl,hb⟩;have eR:=hb.size;have ar:=acZ ai hb;have oF:=jq (iV.out.keep hb);have bi:=jq (aZ.out.keep hb (by omega));have ng:=acZ kc hb;clear hb q0;by_cases hQ:Np.VCache l
  case neg=>
   rw[Np.aF hQ];have HN:=jq hQ;clear hQ;have eJ:Hid (px=((1:Int),false)):=jq (by rw[<-gw.out];exact Np.wg (λk=>HN.out k.2.1));go_wp2_with fail;refine bodyPost_ret (v:=.tuple #[.bool false,.int .i64 1]) (by simp[results,results31,go_sem]) rfl ?_;rw[eJ.out];exact⟨rfl,ar.out⟩
  case pos=>
   rw[Np.bh hQ];have qZ:=jq hQ;clear hQ;go_wp2_with fail;refine (R3 t w3).mono ?_;rintro e w4 ⟨rfl,hb⟩;have fl:=hb.size;have aU:=acZ ar hb;have tI:=jq (oF.out.keep hb);have bZ:=jq (bi.out.keep hb (by omega));have tA:=acZ ng hb;clear hb;by_cases hT:Np.wd t
   case neg=>
    rw[Np.aF hT];have HN:=jq hT;clear hT;have eJ:Hid (px=((1:Int),false)):=jq (by rw[<-gw.out];exact Np.wg (λk=>HN.out k.2.2));go_wp2_with fail;refine bodyPost_ret (v:=.tuple #[.bool false,.int .i64 1]) (by simp[results,results31,go_sem]) rfl ?_;rw[eJ.out];exact⟨rfl,aU.out⟩
   case pos=>
    rw[Np.bh hT];have jB:Hid (px=((0:Int),Np.rc (Np.bp h) l t)):=jq (by rw[<-gw.out];exact Np.NM ⟨fu.out,qZ.out,hT⟩);clear hT;have k0:=bZ.out 0 _ rfl;have k1:=bZ.out 1 _ rfl;have k2:=bZ.out 2 _ rfl;have k3:=bZ.out 3 _ rfl;have k4:=bZ.out 4 _ rfl;have k5:=bZ.out 5 _ rfl;have k6:=bZ.out 6 _ rfl;have k7:=bZ.out 7 _ rfl;have k8:=bZ.out 8 _ rfl;go_wp2_with fail;refine (K6 _ h w4 tI.out).mono ?_;rw[Np.we fu.out];rintro e w5 ⟨Aa,na,ca,rfl,jO,qp,hb⟩;have ik:=hb.size;have bN:=acZ aU hb;have qX:Hid (SlR db 8 w5 w5.heap.size (.slice Aa na ca) (Np.bp h)):=jq qp;have yi:=acZ tA hb;have q0:=aaJ yi.out iF.out;have TZ:=jq (oC.out.later mq uV yi.out);have YB:cn<=400:=by rw[<-vt.out];exact qZ.out.few
    have EA:X+1<w5.heap.size:=by omega
    clear hb qp jO;clear k0 k1 k2 k3 k4 k5 k6 k7 k8;go_wp2_with fail;go_loopw [10] (λi wr=>∃ k:Nat,k<=cn/\i = .int .i64 k/\Hid (Below w5.heap.size w5 wr)/\Hid (∀ e∈l.take k,Np.iu (Np.bp h) t e=true)) (λi _=>cn - (intOf i).toNat)
    case atStart=>exact⟨0,jQ _,rfl,jq (vQ _ _),jq (by simp)⟩
    case round=>
     obtain⟨k,hk,rfl,HB,HG⟩:=hrel;have an:=HB.out.size;have q0r:=aaJ HB.out q0;have qF:Hid (Below w.heap.size w wr):=jq (bN.out.trans (HB.out.mono bN.out.size));by_cases ab:k<cn
     case neg=>
      have HF:Hid (px=((0:Int),true)):=jq (by
       rw[jB.out];have h1:=HG.out;rw[kQ (by rw[vt.out];omega)] at h1;unfold Np.rc;rw[List.all_eq_true.2 h1])
      go_wp2_with fail;refine bodyPost_ret (v:=.tuple #[.bool true,.int .i64 0]) (by simp[results,results31,go_sem]) rfl ?_;rw[HF.out];exact⟨rfl,qF.out⟩
     case pos=>
      obtain⟨x,aa⟩:∃ x,l[k]?=some x:=⟨_,aQ (by rw[vt.out];exact ab)⟩;obtain⟨b,o,zs,ez,dA,dn,dc,gA,gn,gc,rfl,bB,aw,eW,fV,gL,aK,nS,ku,nR,hce⟩:=yU (TZ.out.keep mq HB.out) aa;have vT:=jq (λh1=>VI (l:=Np.bp h) (t:=t) aa HG.out h1);have Hk:=jq (λh1=>VG (l:=Np.bp h) (t:=t) aa h1);have f0:=hce 0 _ rfl;have f1:=hce 1 _ rfl;have f2:=hce 2 _ rfl;have f3:=hce 3 _ rfl;have f4:=hce 4 _ rfl;have f5:=hce 5 _ rfl;have f6:=hce 6 _ rfl;simp only[Nat.add_zero] at f0;have tL:=jq (And.intro aw fV);have im:=jq (aK.more cu an);have nk:=jq (nS.more cY an);have kK:=jq ku;have bJ:(0:Int)<=(k:Int):=by omega
      have bI:(k:Int)<(cn:Int):=by omega
      obtain⟨til,mO⟩:=acJ x.til;have Nc:=jq mO;rw[mO] at f6;obtain⟨E,hE⟩:=acJ wr.heap.size;obtain⟨w7,eX⟩:=acJ (wr.alloc (.cells #[.string zs,.int .i64 x.signed.set.type,.int .i64 x.signed.set.life,.slice dA dn dc,.slice gA gn gc,.string ez,.int .i64 til] 83));have dO:Below wr.heap.size wr w7:=by rw[<-eX];exact (vQ _ _).alloc (bQ _) _
      have mR:w7.heap.size=E+1:=by rw[<-eX,<-hE];simp
      have ej:=jq (iq _ _ hE eX);have cD:=acZ HB dO;have vr:=jq dO;have p0:=ej.out 0 _ rfl;have p1:=ej.out 1 _ rfl;have p2:=ej.out 2 _ rfl;have p3:=ej.out 3 _ rfl;have p4:=ej.out 4 _ rfl;have p5:=ej.out 5 _ rfl;have p6:=ej.out 6 _ rfl;clear aa aw eW fV gL aK nS ku nR hce mO dO;by_cases wJ:dn=0
      case pos=>
       subst wJ;have qH:Hid (Np.iu (Np.bp h) t x=true):=jq (by
        unfold Np.iu;rw[rQ kK.out];rfl)
       have bC:=jq (vT.out qH.out);go_wp2_with fail
       try rw[eX]
       clear eX;go_roundw
       case rel=>exact⟨k+1,by omega,by go_num,cD,bC⟩
       case measure=>simp[intOf] <;> omega
      case neg=>
       have lJ:decide ((0:Int)<(dn:Int))=true:=adK;have JN:0<dn:=by omega
       have pL:Hid (x.signed.set.data≠[]):=jq (λh=>wJ (by rw[<-kK.out,h];rfl));clear wJ;by_cases pi:til<=t
       case pos=>
        have jV:decide (t<til)=false:=adJ;have qH:Hid (Np.iu (Np.bp h) t x=true):=jq (by
         unfold Np.iu;rw[Nc.out,uQ pi];simp)
        have bC:=jq (vT.out qH.out);clear pi;go_wp2_with fail
        try rw[eX]
        clear eX;go_roundw
        case rel=>exact⟨k+1,by omega,by go_num,cD,bC⟩
        case measure=>simp[intOf] <;> omega
       case neg=>
        have jV:decide (t<til)=true:=adK;obtain⟨mb,EX⟩:=acJ (Np.pp (Np.bp h) x.zone x.signed t);have Uo:=jq EX;have qH:Hid (Np.iu (Np.bp h) t x=mb):=jq (by
         unfold Np.iu;rw[Nc.out,tQ pi,EX]
         cases hdd:x.signed.set.data with
         | nil=>exact absurd hdd pL.out
         | cons=>rfl)
        clear pi EX;go_wp2_with fail
        try rw[eX]
        clear eX;refine (aDQ (Np.bp h) ez x.signed zs tL.out.1 dA dn dc gA gn gc t _ w7 (qX.out.later eY eZ cD.out) (im.out.later bV cu vr.out) (nk.out.later cg cY vr.out)).mono ?_;rw[tL.out.2,Uo.out];rintro e w9 ⟨rfl,hb⟩;have cR:=acZ cD hb;clear hb
        cases mb with
        | true=>
         have bC:=jq (vT.out qH.out);go_wp2_with fail;go_roundw
         case rel=>exact⟨k+1,by omega,by go_num,cR,bC⟩
         case measure=>simp[intOf] <;> omega
        | false=>
         have HF:Hid (px=((0:Int),false)):=jq (by rw[jB.out,Hk.out qH.out]);have Tt:Hid (Below w.heap.size w w9):=jq (bN.out.trans (cR.out.mono bN.out.size));go_wp2_with fail;refine bodyPost_ret (v:=.tuple #[.bool false,.int .i64 0]) (by simp[results,results31,go_sem]) rfl ?_;rw[HF.out];exact⟨rfl,Tt.out⟩
end
section
open Go.RowKit
theorem alJ(e:List Value)(h:Np.Hist)(q:ByteArray)(hq:q.size<=140737488355328)(qt:Int)(v:Value)(l:List Np.Ent22)(t:Int)(w:World)(hV:jF w.heap.size w)(hh:gC w w.heap.size e h)(hs:Np.lG h)(hd:SlR lE 7 w w.heap.size v l)(CF:Np.IF l):Calls prog 7 #[.agg e.toArray,.agg #[.string q,.int .i64 qt],.agg #[v],.int .i64 t] w λe w'=>e = .returned (.bool true)/\Below w.heap.size w w':=by
 obtain⟨A1,n1,c1,A2,n2,c2,s,ty,lf,A3,n3,c3,A4,n4,c4,dr,st,rfl,bP,cr,aB,Cd,BZ⟩:=tm hh;have iB:=jq hd;obtain⟨cA,ck,rfl,YA,_⟩:=ak hd;obtain⟨cn,ma⟩:=acJ l.length;rw[ma] at iB YA |-;have sk:=jq CF;have HS:=jq hs;have yE:=jq hq;obtain⟨X,hX⟩:=acJ w.heap.size;obtain⟨w1,ah⟩:=acJ (((w.alloc (.cells #[.slice A1 n1 c1,.slice A2 n2 c2,.string s,.int .i64 ty,.int .i64 lf,.slice A3 n3 c3,.slice A4 n4 c4,.int .i64 dr,.int .i64 st] 29)).alloc (.cells #[.string q,.int .i64 qt] 31)).alloc (.cells #[.slice cA cn ck] 76));have bd:w1.heap.size=X+3:=by rw[<-ah,<-hX];simp
 have hb:Below w.heap.size w w1:=by rw[<-ah];exact (((vQ _ _).alloc (bQ _) _).alloc (by simp) _).alloc (by simp;omega) _
 have aG:=jq hb;have fN:=jq (hV.next hb);have T9:Hid (gC w1 w1.heap.size [.slice A1 n1 c1,.slice A2 n2 c2,.string s,.int .i64 ty,.int .i64 lf,.slice A3 n3 c3,.slice A4 n4 c4,.int .i64 dr,.int .i64 st] h):=jq (pu _ _ _ _ _ (mX _ _ _ _ _ hh hb) hb.size);have oC:Hid (SlR lE 7 w1 w1.heap.size (.slice cA cn ck) l):=jq (iB.out.later mq uV hb);have az:Hid (ls w1 X [.slice A1 n1 c1,.slice A2 n2 c2,.string s,.int .i64 ty,.int .i64 lf,.slice A3 n3 c3,.slice A4 n4 c4,.int .i64 dr,.int .i64 st]):=jq (by
  rw[<-ah,<-hX];exact ((iq [.slice A1 n1 c1,.slice A2 n2 c2,.string s,.int .i64 ty,.int .i64 lf,.slice A3 n3 c3,.slice A4 n4 c4,.int .i64 dr,.int .i64 st] 29 rfl rfl).keep ((vQ _ _).alloc (bQ _) _) (by simp)).keep ((vQ _ _).alloc (bQ _) _) (by simp;omega))
 have q0:w1.cell? ⟨X+1,0,none⟩=some (.string q):=by rw[<-ah,<-hX];simp[go_sem]
 have q1:w1.cell? ⟨X+1,1,none⟩=some (.int .i64 qt):=by rw[<-ah,<-hX];simp[go_sem]
 have q2:w1.cell? ⟨X+2,0,none⟩=some (.slice cA cn ck):=by rw[<-ah,<-hX];simp[go_sem]
 clear hb hV hh hs bP cr aB Cd BZ hd CF hq ma;have k0:=az.out 0 _ rfl;have k1:=az.out 1 _ rfl;have k2:=az.out 2 _ rfl;have k3:=az.out 3 _ rfl;have k4:=az.out 4 _ rfl;have k5:=az.out 5 _ rfl;have k6:=az.out 6 _ rfl;have k7:=az.out 7 _ rfl;have k8:=az.out 8 _ rfl;go_enter func7,ntmps7;go_wp2_with fail;clear ah;refine (YG w1 fN.out).mono ?_;rintro e w2 ⟨rfl,hb⟩;have aN:=hb.size;have av:=jq hb;have iH:=jq (fN.out.next hb);have Du:Hid (gC w2 w2.heap.size [.slice A1 n1 c1,.slice A2 n2 c2,.string s,.int .i64 ty,.int .i64 lf,.slice A3 n3 c3,.slice A4 n4 c4,.int .i64 dr,.int .i64 st] h):=jq (pu _ _ _ _ _ (mX _ _ _ _ _ T9.out hb) hb.size);have aZ:=jq (az.out.keep hb (by omega));replace q0:=aaJ hb q0;replace q1:=aaJ hb q1;replace q2:=aaJ hb q2;clear hb;replace k0:=aZ.out 0 _ rfl;replace k1:=aZ.out 1 _ rfl;replace k2:=aZ.out 2 _ rfl;replace k3:=aZ.out 3 _ rfl;replace k4:=aZ.out 4 _ rfl;replace k5:=aZ.out 5 _ rfl;replace k6:=aZ.out 6 _ rfl;replace k7:=aZ.out 7 _ rfl;replace k8:=aZ.out 8 _ rfl;go_wp2_with fail;refine (Xk _ h w2 Du.out).mono ?_;rintro e w3 ⟨rfl,hb⟩;have eR:=hb.size;have ai:=jq hb;have lA:=jq (iH.out.next hb);have Mk:Hid (gC w3 w3.heap.size [.slice A1 n1 c1,.slice A2 n2 c2,.string s,.int .i64 ty,.int .i64 lf,.slice A3 n3 c3,.slice A4 n4 c4,.int .i64 dr,.int .i64 st] h):=jq (pu _ _ _ _ _ (mX _ _ _ _ _ Du.out hb) hb.size);have bi:=jq (aZ.out.keep hb (by omega));replace q0:=aaJ hb q0;replace q1:=aaJ hb q1;replace q2:=aaJ hb q2;clear hb;replace k0:=bi.out 0 _ rfl;replace k1:=bi.out 1 _ rfl;replace k2:=bi.out 2 _ rfl;replace k3:=bi.out 3 _ rfl;replace k4:=bi.out 4 _ rfl;replace k5:=bi.out 5 _ rfl;replace k6:=bi.out 6 _ rfl;replace k7:=bi.out 7 _ rfl;replace k8:=bi.out 8 _ rfl;by_cases hU:Np.rR h
 case neg=>
  rw[Np.aF hU];have HE:=jq ((aG.out.trans ((av.out.trans (ai.out.adZ)).adZ)));go_wp2_with fail;exact bodyPost_ret (v:=.bool true) (by simp[results,results7,go_sem]) rfl ⟨rfl,HE.out⟩
 case pos=>
  rw[Np.bh hU];have iG:Hid (Np.Use h):=jq hU.use;have oF:Hid (iW w3 [.slice A1 n1 c1,.slice A2 n2 c2,.string s,.int .i64 ty,.int .i64 lf,.slice A3 n3 c3,.slice A4 n4 c4,.int .i64 dr,.int .i64 st] h):=jq ⟨Mk.out,hU.use,HS.out⟩;clear hU;go_wp2_with fail;refine (Xj _ l w3 (oC.out.later mq uV (av.out.trans (ai.out.adZ)))).mono ?_;rintro e w4 ⟨rfl,hb⟩;have fl:=hb.size;have ar:=jq hb;have vU:=jq (lA.out.next hb);have Ua:Hid (gC w4 w4.heap.size [.slice A1 n1 c1,.slice A2 n2 c2,.string s,.int .i64 ty,.int .i64 lf,.slice A3 n3 c3,.slice A4 n4 c4,.int .i64 dr,.int .i64 st] h):=jq (pu _ _ _ _ _ (mX _ _ _ _ _ Mk.out hb) hb.size);have bZ:=jq (bi.out.keep hb (by omega));have tI:=jq (oF.out.keep hb);replace q0:=aaJ hb q0;replace q1:=aaJ hb q1;replace q2:=aaJ hb q2;clear hb;replace k0:=bZ.out 0 _ rfl;replace k1:=bZ.out 1 _ rfl;replace k2:=bZ.out 2 _ rfl;replace k3:=bZ.out 3 _ rfl;replace k4:=bZ.out 4 _ rfl;replace k5:=bZ.out 5 _ rfl;replace k6:=bZ.out 6 _ rfl;replace k7:=bZ.out 7 _ rfl;replace k8:=bZ.out 8 _ rfl;by_cases Er:Np.Gg l
  case neg=>
   rw[Np.aF Er];have HE:=jq ((aG.out.trans ((av.out.trans ((ai.out.trans (ar.out.adZ)).adZ)).adZ)));go_wp2_with fail;exact bodyPost_ret (v:=.bool true) (by simp[results,results7,go_sem]) rfl ⟨rfl,HE.out⟩
  case pos=>
   rw[Np.bh Er];have GS:=jq Er;clear Er;by_cases qn:200<q.size
   case pos=>
    have ZB:decide (200<(q.size:Int))=true:=adK;clear qn;have HE:=jq ((aG.out.trans ((av.out.trans ((ai.out.trans (ar.out.adZ)).adZ)).adZ)));go_wp2_with fail;exact bodyPost_ret (v:=.bool true) (by simp[results,results7,go_sem]) rfl ⟨rfl,HE.out⟩
   case neg=>
    have ZB:decide (200<(q.size:Int))=false:=adJ;clear qn;obtain⟨ax,nL⟩:=acJ (Np.nF h);obtain⟨px,ba⟩:=acJ (Np.mV h q.data.toList qt t);obtain⟨bx,fw⟩:=acJ (Np.pX h l t);have jB:=jq nL;have gw:=jq ba;have ei:=jq fw;obtain⟨ae,al⟩:=ax;obtain⟨pe,pl⟩:=px;obtain⟨be,bb⟩:=bx;clear nL ba fw;go_wp2_with fail;refine (Br _ h w4 vU.out tI.out).mono ?_;rw[jB.out];dsimp only;rintro e w5 ⟨Aa,na,ca,rfl,hl,hr,hb⟩;have qX:=jq (hr.all fp);clear hl hr;have ik:=hb.size;have aU:=jq hb;have Im:=jq (vU.out.next hb);have Ub:Hid (gC w5 w5.heap.size [.slice A1 n1 c1,.slice A2 n2 c2,.string s,.int .i64 ty,.int .i64 lf,.slice A3 n3 c3,.slice A4 n4 c4,.int .i64 dr,.int .i64 st] h):=jq (pu _ _ _ _ _ (mX _ _ _ _ _ Ua.out hb) hb.size);have mu:=jq (bZ.out.keep hb (by omega));have Mn:=jq (tI.out.keep hb);replace q0:=aaJ hb q0;replace q1:=aaJ hb q1;replace q2:=aaJ hb q2;clear hb;replace k0:=mu.out 0 _ rfl;replace k1:=mu.out 1 _ rfl;replace k2:=mu.out 2 _ rfl;replace k3:=mu.out 3 _ rfl;replace k4:=mu.out 4 _ rfl;replace k5:=mu.out 5 _ rfl;replace k6:=mu.out 6 _ rfl;replace k7:=mu.out 7 _ rfl;replace k8:=mu.out 8 _ rfl;go_wp2_with fail;refine (K6 _ h w5 Mn.out).mono ?_;rw[jB.out];dsimp only;rintro e w6 ⟨Ab,nb,cb,rfl,hl,hr,hb⟩;have UR:=jq hr;clear hl hr;have iy:=hb.size;have bN:=jq hb;have DL:=jq (Im.out.next hb);have Uc:Hid (gC w6 w6.heap.size [.slice A1 n1 c1,.slice A2 n2 c2,.string s,.int .i64 ty,.int .i64 lf,.slice A3 n3 c3,.slice A4 n4 c4,.int .i64 dr,.int .i64 st] h):=jq (pu _ _ _ _ _ (mX _ _ _ _ _ Ub.out hb) hb.size);have oz:=jq (mu.out.keep hb (by omega));have Mo:=jq (Mn.out.keep hb);replace q0:=aaJ hb q0;replace q1:=aaJ hb q1;replace q2:=aaJ hb q2;clear hb;replace k0:=oz.out 0 _ rfl;replace k1:=oz.out 1 _ rfl;replace k2:=oz.out 2 _ rfl;replace k3:=oz.out 3 _ rfl;replace k4:=oz.out 4 _ rfl;replace k5:=oz.out 5 _ rfl;replace k6:=oz.out 6 _ rfl;replace k7:=oz.out 7 _ rfl;replace k8:=oz.out 8 _ rfl;go_wp2_with fail;refine (D0 _ h q yE.out qt t w6 DL.out Mo.out).mono ?_;rw[gw.out];dsimp only;rintro e w7 ⟨Ac,nc,cc,rfl,hl,hr,hb⟩;have US:=jq hr;clear hl hr;have mR:=hb.size;have dl:=jq hb;have In:=jq (DL.out.next hb);have Ud:Hid (gC w7 w7.heap.size [.slice A1 n1 c1,.slice A2 n2 c2,.string s,.int .i64 ty,.int .i64 lf,.slice A3 n3 c3,.slice A4 n4 c4,.int .i64 dr,.int .i64 st] h):=jq (pu _ _ _ _ _ (mX _ _ _ _ _ Uc.out hb) hb.size);have ej:=jq (oz.out.keep hb (by omega));have Mp:=jq (Mo.out.keep hb);replace q0:=aaJ hb q0;replace q1:=aaJ hb q1;replace q2:=aaJ hb q2;clear hb;replace k0:=ej.out 0 _ rfl;replace k1:=ej.out 1 _ rfl;replace k2:=ej.out 2 _ rfl;replace k3:=ej.out 3 _ rfl;replace k4:=ej.out 4 _ rfl;replace k5:=ej.out 5 _ rfl;replace k6:=ej.out 6 _ rfl;replace k7:=ej.out 7 _ rfl;replace k8:=ej.out 8 _ rfl;go_wp2_with fail;refine (aDK _ h q yE.out qt t w7 Mp.out).mono ?_;rw[gw.out];dsimp only;rintro e w8 ⟨Ad,nd,cd,rfl,hl,hr,hb⟩;have qY:=jq hr;clear hl hr;have n7:=hb.size;have cD:=jq hb;have AY:=jq (In.out.next hb);have GV:Hid (gC w8 w8.heap.size [.slice A1 n1 c1,.slice A2 n2 c2,.string s,.int .i64 ty,.int .i64 lf,.slice A3 n3 c3,.slice A4 n4 c4,.int .i64 dr,.int .i64 st] h):=jq (pu _ _ _ _ _ (mX _ _ _ _ _ Ud.out hb) hb.size);have cH:=jq (ej.out.keep hb (by omega));have Dv:=jq (Mp.out.keep hb);replace q0:=aaJ hb q0;replace q1:=aaJ hb q1;replace q2:=aaJ hb q2;clear hb;replace k0:=cH.out 0 _ rfl;replace k1:=cH.out 1 _ rfl;replace k2:=cH.out 2 _ rfl;replace k3:=cH.out 3 _ rfl;replace k4:=cH.out 4 _ rfl;replace k5:=cH.out 5 _ rfl;replace k6:=cH.out 6 _ rfl;replace k7:=cH.out 7 _ rfl;replace k8:=cH.out 8 _ rfl;go_wp2_with fail;refine (V5 _ h _ l t w8 AY.out Dv.out (oC.out.later mq uV (av.out.trans ((ai.out.trans ((ar.out.trans ((aU.out.trans ((bN.out.trans ((dl.out.trans (cD.out.adZ)).adZ)).adZ)).adZ)).adZ)).adZ))) sk.out).mono ?_;rw[ei.out];dsimp only;rintro e w9 ⟨rfl,hb⟩;have qv:=hb.size;have eF:=jq hb;have Io:=jq (AY.out.next hb);have Ue:Hid (gC w9 w9.heap.size [.slice A1 n1 c1,.slice A2 n2 c2,.string s,.int .i64 ty,.int .i64 lf,.slice A3 n3 c3,.slice A4 n4 c4,.int .i64 dr,.int .i64 st] h):=jq (pu _ _ _ _ _ (mX _ _ _ _ _ GV.out hb) hb.size);have cm:=jq (cH.out.keep hb (by omega));have Mr:=jq (Dv.out.keep hb);replace q0:=aaJ hb q0;replace q1:=aaJ hb q1;replace q2:=aaJ hb q2;clear hb;replace k0:=cm.out 0 _ rfl;replace k1:=cm.out 1 _ rfl;replace k2:=cm.out 2 _ rfl;replace k3:=cm.out 3 _ rfl;replace k4:=cm.out 4 _ rfl;replace k5:=cm.out 5 _ rfl;replace k6:=cm.out 6 _ rfl;replace k7:=cm.out 7 _ rfl;replace k8:=cm.out 8 _ rfl;go_wp2_with fail;refine (aAX _ h _ l t w9 Mr.out (oC.out.later mq uV (av.out.trans ((ai.out.trans ((ar.out.trans ((aU.out.trans ((bN.out.trans ((dl.out.trans ((cD.out.trans (eF.out.adZ)).adZ)).adZ)).adZ)).adZ)).adZ)).adZ)))).mono ?_;rw[ei.out];dsimp only;rintro e w10 ⟨rfl,hb⟩;have KF:=hb.size;have cR:=jq hb;have Il:=jq (Io.out.next hb);have aZZ:Hid (gC w10 w10.heap.size [.slice A1 n1 c1,.slice A2 n2 c2,.string s,.int .i64 ty,.int .i64 lf,.slice A3 n3 c3,.slice A4 n4 c4,.int .i64 dr,.int .i64 st] h):=jq (pu _ _ _ _ _ (mX _ _ _ _ _ Ue.out hb) hb.size);have rV:=jq (cm.out.keep hb (by omega));have Mm:=jq (Mr.out.keep hb);replace q0:=aaJ hb q0;replace q1:=aaJ hb q1;replace q2:=aaJ hb q2;clear hb;replace k0:=rV.out 0 _ rfl;replace k1:=rV.out 1 _ rfl;replace k2:=rV.out 2 _ rfl;replace k3:=rV.out 3 _ rfl;replace k4:=rV.out 4 _ rfl;replace k5:=rV.out 5 _ rfl;replace k6:=rV.out 6 _ rfl;replace k7:=rV.out 7 _ rfl;replace k8:=rV.out 8 _ rfl;clear k0 k1 k2 k3 k4 k5 k6 k7 k8 q0 q1 q2;go_wp2_with fail;refine (aJZ _ _ al w10 (qX.out.later eY eZ (bN.out.trans ((dl.out.trans ((cD.out.trans ((eF.out.trans (cR.out.adZ)).adZ)).adZ)).adZ))) (UR.out.later eY eZ (dl.out.trans ((cD.out.trans ((eF.out.trans (cR.out.adZ)).adZ)).adZ)))).mono ?_;rintro e wy ⟨rfl,ic⟩;have Dn:=jq ic;clear ic;go_wp2_with fail;refine (aJJ _ _ pl wy ((US.out.later bj cC (cD.out.trans ((eF.out.trans (cR.out.adZ)).adZ))).later bj cC Dn.out) ((qY.out.later bj cC (eF.out.trans (cR.out.adZ))).later bj cC Dn.out)).mono ?_;rintro e wz ⟨rfl,Pf⟩;have Md:=jq (((aG.out.trans ((av.out.trans ((ai.out.trans ((ar.out.trans ((aU.out.trans ((bN.out.trans ((dl.out.trans ((cD.out.trans ((eF.out.trans (cR.out.adZ)).adZ)).adZ)).adZ)).adZ)).adZ)).adZ)).adZ)).adZ))).trans ((Dn.out.trans (Pf.mono Dn.out.size)).adZ));clear Pf;go_wp2_with fail;exact bodyPost_ret (v:=.bool true) (by simp[results,results7,go_sem]) rfl ⟨rfl,by first | exact Md.out | (rw[<-hX];exact Md.out)⟩
end
end Go.Proofs.YtfnopgdcaanaiaaGreatDoor
