/- Parts of the proof. No condition. -/
import Derived.Test.YtfnopgdcaanaiaaGreatDoorT36
import Derived.Test.YtfnopgdcaanaiaaGreatDoorT37
set_option linter.all false
set_option maxRecDepth 100000
set_option maxHeartbeats 8000000
namespace Go.Proofs.YtfnopgdcaanaiaaGreatDoor
open Go.Proofs.Tryz
section
open Go.RowKit Go.Shelf
attribute [local go_sem] Oper.semAt_some
def qD(z:ByteArray)(rv:Value):Value->Value->Value
 | .agg xs,f=>.agg (#[.string z]++xs ++ #[f,rv])
 | _,_=>undef
def fI(oA:Option Addr)(m oc E:Nat)(zs sn:ByteArray)(sty slf:Int)(dA:Option Addr)(dn dc:Nat)(gA:Option Addr)(gn gc:Nat)(fA:Option Addr)(fn fc:Nat)(A7:Option Addr)(n7 c7:Nat)(e5:Value)(e8:Value)(e11:Value)(e12:Value)(i:Nat):Value:=[.slice oA m oc,.pointer (some ⟨E,0,none⟩),.string zs,.pointer (some ⟨E,1,none⟩),.agg #[.string sn,.int .i64 sty,.int .i64 slf,.slice dA dn dc,.slice gA gn gc],e5,.pointer (some ⟨E,6,none⟩),.slice fA fn fc,e8,.slice A7 n7 c7,qD zs (.slice A7 n7 c7) e5 e8,e11,e12,undef].getD i undef
def iL(i:Nat):Nat:=[50,51,52,53,54,55,56,57,58,59,60,61,62,6].getD i 0
def Rd:List Nat:=[0,1,2,3,4,6,7,9,10,5,8,11,12].map iL
theorem mv:∀ i∈[0,1,2,3,4,6,7,9,10,5,8,11,12],iL i<65/\iL i∈Rd:=by decide
theorem nC:∀ i∈[0,1,2,3,4,6,7,9,10,5,8,11,12],∀ j∈[0,1,2,3,4,6,7,9,10,5,8,11,12],j≠i->iL i≠iL j:=by decide
theorem Iz(e:List Value)(h:Np.Hist)(w:World)(hV:i6 w.heap.size w)(k:oG w e h) :
 Calls prog 42 #[.agg e.toArray] w λe w'=>∃ A n c,e = .returned (.tuple #[.slice A n c,.int .i64 (Np.gapsX h).1])/\(Np.gapsX h).2.length=n/\SlR fU 8 w' w'.heap.size (.slice A n c) (Np.gapsX h).2/\Below w.heap.size w w':=by
 obtain⟨A1,n1,c1,A2,n2,c2,s,ty,lf,A3,n3,c3,A4,n4,c4,dr,st,rfl,-,-,-,-,-⟩:=Lm k.rh;have ub:Hid (h.drift=dr):=jq (by
  obtain⟨hv,cv,s',dv,cW,he,_⟩:=k.rh;simp only[List.cons.injEq,Value.int.injEq,true_and,and_true] at he;exact he.2.2.2.2.2.2.2.1.symm)
 obtain⟨X,hX⟩:=abY w.heap.size;obtain⟨w1,am⟩:=abY (w.alloc (.cells #[.slice A1 n1 c1,.slice A2 n2 c2,.string s,.int .i64 ty,.int .i64 lf,.slice A3 n3 c3,.slice A4 n4 c4,.int .i64 dr,.int .i64 st] 29));have aK:w1.heap.size=X+1:=by rw[<-am,<-hX];simp
 have hb:Below w.heap.size w w1:=by rw[<-am];exact (vQ _ _).alloc (bQ _) _
 have aD:=jq hb;have qp:=jq (hV.next hb);have ug:=jq (k.keep hb);have cT:=jq (ft _ _ hX am);obtain⟨gx,eF⟩:=abY (Np.gapsX h);rw[eF];have rP:=jq eF;clear hb k hV eF;have k0:=cT.out 0 _ rfl;have k1:=cT.out 1 _ rfl;have k2:=cT.out 2 _ rfl;have k3:=cT.out 3 _ rfl;have k4:=cT.out 4 _ rfl;have k5:=cT.out 5 _ rfl;have k6:=cT.out 6 _ rfl;have k7:=cT.out 7 _ rfl;have k8:=cT.out 8 _ rfl;go_enter func42,ntmps42;go_wp2_with fail;clear am;refine (cAll _ h w1 qp.out ug.out).mono ?_;rintro e w2 ⟨A,n,c,rfl,hl,har,hb⟩;have sY:=har.all l3;have aC:=hb.size;have ai:=jq (aD.out.trans (hb.mono aD.out.size));have nw:=jq (qp.out.next hb);have oE:=jq (ug.out.keep hb);have de:=jq (cT.out.keep hb (by omega));clear hb har;clear k0 k1 k2 k3 k4 k5 k6 k7 k8;have k0:=de.out 0 _ rfl;have k1:=de.out 1 _ rfl;have k2:=de.out 2 _ rfl;have k3:=de.out 3 _ rfl;have k4:=de.out 4 _ rfl;have k5:=de.out 5 _ rfl;have k6:=de.out 6 _ rfl;have k7:=de.out 7 _ rfl;have k8:=de.out 8 _ rfl;by_cases ig:Np.VHist h
 case neg=>
  rw[Np.C2 ig];have HN:=jq ig;clear ig;go_wp2_with fail;refine bodyPost_ret (v:=.tuple #[.slice none 0 0,.int .i64 1]) (by simp[results,results42,go_sem]) rfl ?_;rw[<-rP.out];unfold Np.gapsX;rw[Np.C2 HN.out];exact⟨_,_,_,rfl,rfl,xD _ _ _ _,ai.out⟩
 case pos=>
  rw[Np.yV ig] at hl sY |-;dsimp only at hl sY;have F5:Hid (gx=(0,Np.gC dr (Np.iI h))):=jq (by rw[<-rP.out];unfold Np.gapsX;rw[Np.yV ig,ub.out]);have rL:Hid (0<=dr/\dr<=1000):=jq (by rw[<-ub.out];exact ig.drift);have F2:Hid (∀ x∈Np.iI h,Np.GapOk x):=jq (λx hx=>Np.C1 ig oE.out.use hx);have dj:n<=2100:=by rw[<-hl];unfold Np.iI;rw[List.length_map];exact oE.out.use.pubAll
  obtain⟨l,vM⟩:=abY (Np.iI h);rw[vM] at hl sY F5 F2;have O0:=jq sY;have nl:=jq hl;have ik:n<=c:=by
   obtain⟨A',c',h1,h2,_⟩:=ar sY;simp only[Value.slice.injEq] at h1;omega
  obtain⟨B,hB⟩:=abY w2.heap.size;have RR:X<B:=by omega
  obtain⟨i0,pm,bd,EK,EL⟩:=info_parts Tryz.infoHeldA;clear ig sY hl vM;clear k0 k1 k2 k3 k4 k5 k6 k7 k8;go_wp2_with fail;go_loopw [6,22] (λvo i wr=>∃ (k m:Nat) (oA:Option Addr) (oc:Nat) (M:Nat->Prop),k<=n/\i = .int .i64 k/\vo = .slice oA m oc/\Hid ((Np.gC dr (l.take k)).length=m)/\Hid (∀ j,M j->B<=j/\j<wr.heap.size)/\Hid (bh fU 8 57 B M wr (.slice oA m oc) (Np.gC dr (l.take k)))/\Hid (Below B w2 wr)) (λ_ i _=>n - (intOf i).toNat)
  case atStart=>exact⟨0,0,none,0,λ_=>False,jQ _,rfl,rfl,jq rfl,jq (λj h=>h.elim),jq (bh.nil _),jq (vQ _ _)⟩
  case round=>
   obtain⟨k,m,oA,oc,M,hk,rfl,rfl,cJ,Co,HO,HB⟩:=hrel;have ag:=HB.out.size;have qV:m<=2100:=by rw[<-cJ.out];have h1:=Np.Iw dr (l.take k);rw[List.length_take,nl.out] at h1;omega
   by_cases aa:k<n
   case neg=>
    have CH:Hid (l.take k=l):=jq (kQ (by rw[nl.out];omega));rw[CH.out] at HO cJ;have HE:Hid (Below w.heap.size w wr):=aaK ai HB.out;go_wp2_with fail;refine bodyPost_ret (v:=.tuple #[.slice oA m oc,.int .i64 0]) (by simp[results,results42,go_sem]) rfl ?_;rw[F5.out];exact⟨_,_,_,rfl,cJ.out,HO.out.slr l3 (by rw[cJ.out];omega),HE.out⟩
   case pos=>
    obtain⟨x,ac⟩:∃ x,l[k]?=some x:=⟨_,aQ (by rw[nl.out];exact aa)⟩;have rW:Hid (Np.gC dr (l.take (k+1))=Np.gC dr (l.take k)++Np.lE dr x):=jq (by rw[XE ac,Np.Re]);have jR:=jq (F2.out x (gQ ac));have xV:=jq (show Below w2.heap.size w2 wr by rw[hB];exact HB.out);obtain⟨A'',c'',hA'',_,_,aL⟩:=O0.out.later pO mW xV.out;simp only[Value.slice.injEq] at hA'';obtain⟨rfl,-,rfl⟩:=hA'';obtain⟨b,o,ec,rfl,bC,hlen,hce,Tr⟩:=aL k x ac;obtain⟨zs,sn,dv,sv,fv,pv,rfl,ri,rj,aP,mF,be,aY,qM,sX⟩:=Tr;obtain⟨dA,dn,dc,rfl,sD,_,_⟩:=ko be;obtain⟨gA,gn,gc,rfl,gD,_,_⟩:=ko aY;obtain⟨fA,fn,fc,rfl,fY,_,_⟩:=ko qM;obtain⟨pA,pn,pc,rfl,J0,_,_⟩:=ko sX;have fT:=jq (And.intro sD (And.intro gD (And.intro fY J0)));have uB:=jq (And.intro ri (And.intro rj (And.intro aP mF)));have CC:Hid ((⟨⟨sn.data.toList,x.signed.set.type,x.signed.set.life,x.signed.set.data⟩,x.signed.sigs⟩:Np.Signed)=x.signed):=jq (by rw[aP]);have mg:=jq be;have rV:=jq aY;have Cb:=jq qM;have yC:=jq sX;have f0:wr.cell? ⟨b,o+k * 8,none⟩=some _:=hce 0 _ rfl;have f1:wr.cell? ⟨b,o+k * 8+1,none⟩=some _:=hce 1 _ rfl;have f2:wr.cell? ⟨b,o+k * 8+2,none⟩=some _:=hce 2 _ rfl;have f3:wr.cell? ⟨b,o+k * 8+3,none⟩=some _:=hce 3 _ rfl;have f4:wr.cell? ⟨b,o+k * 8+4,none⟩=some _:=hce 4 _ rfl;have f5:wr.cell? ⟨b,o+k * 8+5,none⟩=some _:=hce 5 _ rfl;have f6:wr.cell? ⟨b,o+k * 8+6,none⟩=some _:=hce 6 _ rfl;have f7:wr.cell? ⟨b,o+k * 8+7,none⟩=some _:=hce 7 _ rfl;have cN:(0:Int)<=(k:Int):=by omega
    have cO:(k:Int)<(n:Int):=by omega
    obtain⟨E,hE⟩:=abY wr.heap.size;obtain⟨w5,aB⟩:=abY (wr.alloc (.cells #[.string zs,.string sn,.int .i64 x.signed.set.type,.int .i64 x.signed.set.life,.slice dA dn dc,.slice gA gn gc,.slice fA fn fc,.slice pA pn pc] 57));have aA:Below wr.heap.size wr w5:=by rw[<-aB];exact (vQ _ _).alloc (bQ _) _
    have jo:w5.heap.size=E+1:=by rw[<-aB,<-hE];simp
    have nh:=jq (ft _ _ hE aB);have db:=jq aA;have iB:=jq ((de.out.keep HB.out (by omega)).keep aA (by omega));have CL:=jq ((nw.out.next xV.out).next aA);have k0:=iB.out 0 _ rfl;have k1:=iB.out 1 _ rfl;have k2:=iB.out 2 _ rfl;have k3:=iB.out 3 _ rfl;have k4:=iB.out 4 _ rfl;have k5:=iB.out 5 _ rfl;have k6:=iB.out 6 _ rfl;have k7:=iB.out 7 _ rfl;have k8:=iB.out 8 _ rfl;have d0:=nh.out 0 _ rfl;have d1:=nh.out 1 _ rfl;have d2:=nh.out 2 _ rfl;have d3:=nh.out 3 _ rfl;have d4:=nh.out 4 _ rfl;have d5:=nh.out 5 _ rfl;have d6:=nh.out 6 _ rfl;have d7:=nh.out 7 _ rfl;clear ac aL hce ri rj aP mF be aY qM sX sD gD fY J0 aA hlen;go_wp2_with fail;clear aB f0 f1 f2 f3 f4 f5 f6 f7;refine (By sn uB.out.2.2.2 x.signed.set.type x.signed.set.life _ _ x.signed.set.data x.signed.sigs dr 20000000 w5 CL.out.rules (mg.out.later bq bD db.out) (rV.out.later cC cZ db.out)).mono ?_;rw[CC.out,Np.Fa jR.out.plain rL.out];rintro e w6 ⟨v6,rfl,kU,aI⟩;obtain⟨A6,n6,c6,rfl,qW,_,_⟩:=ko kU;have kj:=aI.size;have uv:=jq kU;have dB:=aaK db aI;have oz:=jq (iB.out.keep aI (by omega));have ni:=jq (nh.out.keep aI (by omega));clear k0 k1 k2 k3 k4 k5 k6 k7 k8;clear d0 d1 d2 d3 d4 d5 d6 d7;have d0:=ni.out 0 _ rfl;have d1:=ni.out 1 _ rfl;have d2:=ni.out 2 _ rfl;have d3:=ni.out 3 _ rfl;have d4:=ni.out 4 _ rfl;have d5:=ni.out 5 _ rfl;have d6:=ni.out 6 _ rfl;have d7:=ni.out 7 _ rfl;clear kU aI qW;go_wp2_with fail;refine (Vj pA A6 pn pc n6 c6 x.spans (Np.ew x.signed dr 20000000) jR.out.valid (Np.xG jR.out.plain rL.out).1 jR.out.few (Np.xG jR.out.plain rL.out).2 w6 (yC.out.later cI iw dB.out) uv.out).mono ?_;rintro e w7 ⟨v7,rfl,nV,cF⟩;replace nV:av w6.heap.size w7 v7 (Np.j8 dr x):=nV;obtain⟨gp,z6⟩:=abY (Np.j8 dr x);have qc:Hid (gp.length<=18000):=jq (by rw[<-z6];exact Np.Rb jR.out rL.out);rw[z6] at nV;obtain⟨n7,sP⟩:=abY gp.length;obtain⟨A7,c7,rfl⟩:∃ A c,v7 = .slice A n7 c:=by rw[<-sP];exact nV.form
    have yx:=jq (And.intro z6 sP);have yz:=jq nV;have tk:=cF.size;have fD:=aaK dB cF;have hZ:=jq (ni.out.keep cF (by omega));clear d0 d1 d2 d3 d4 d5 d6 d7;clear nV cF z6 sP;have Nb:Hid (Below B w2 w7):=aaK HB fD.out;by_cases kK:n7=0
    case pos=>
     subst kK;have HH:Hid (Np.lE dr x = []):=jq (by unfold Np.lE;rw[yx.out.1,Qb (rQ yx.out.2)]);have dO:=jq (HO.out.keep pO l3 mW fD.out);have d0:=hZ.out 0 _ rfl;have d1:=hZ.out 1 _ rfl;have d2:=hZ.out 2 _ rfl;have d3:=hZ.out 3 _ rfl;have d4:=hZ.out 4 _ rfl;have d5:=hZ.out 5 _ rfl;have d6:=hZ.out 6 _ rfl;have d7:=hZ.out 7 _ rfl;go_wp2_with fail;go_roundw
     case measure=>simp[intOf] <;> omega
     case rel=>exact⟨k+1,m,oA,oc,M,by omega,by go_num,rfl,jq (by rw[rW.out,HH.out,List.append_nil];exact cJ.out),jq (λj hj=>by have:=Co.out j hj;omega),jq (by rw[rW.out,HH.out,List.append_nil];exact dO.out),Nb⟩
    case neg=>
     have pk:decide ((0:Int)<(n7:Int))=true:=adQ;have HH:Hid (Np.lE dr x = [{ x with spans:=gp }]):=jq (by unfold Np.lE;rw[yx.out.1,Qc (λe=>kK (by rw[<-yx.out.2,e];rfl))]);have dW:Below w7.heap.size w7 w7.drew:=(vQ _ _).drew;obtain⟨w8,gI⟩:=abY w7.drew;rw[gI] at dW;have rg:w8.heap.size=w7.heap.size:=by rw[<-gI];rfl
     have eX:=aaK fD dW;have MU:=jq dW;have oC:=jq (hZ.out.keep dW (by omega));have d0:=hZ.out 0 _ rfl;have d1:=hZ.out 1 _ rfl;have d2:=hZ.out 2 _ rfl;have d3:=hZ.out 3 _ rfl;have d4:=hZ.out 4 _ rfl;have d5:=hZ.out 5 _ rfl;have d6:=hZ.out 6 _ rfl;have d7:=hZ.out 7 _ rfl;go_wp2_with fail;clear d0 d1 d2 d3 d4 d5 d6 d7;have d0:=oC.out 0 _ rfl;have d1:=oC.out 1 _ rfl;have d2:=oC.out 2 _ rfl;have d3:=oC.out 3 _ rfl;have d4:=oC.out 4 _ rfl;have d5:=oC.out 5 _ rfl;have d6:=oC.out 6 _ rfl;have d7:=oC.out 7 _ rfl;clear dW;refine YL λa0 cE=>?_;have nc:=jq cE;have eI:=jq (show a0.eval (.tmp 6) = .slice oA m oc by rw[cE];rfl);have pY:=jq (show a0.eval (.tmp 8) = .pointer (some ⟨E,0,none⟩) by rw[cE];rfl);have me:=jq (show a0.eval (.tmp 11) = .slice A7 n7 c7 by rw[cE];rfl);have HM:=jq (show a0.tmps.size=65 by rw[cE];rfl);clear cE;refine wp_region_any (by kernel_rfl) ?_
     try rw[show ({ heap:=w7.heap,tape:=w7.tape,drawn:=w7.drawn+1,os:=w7.os,output:=w7.output } : World)=w8 from gI]
     try rw[gI]
     refine iy 5 (D:=[0,1,2,3,4,6,7,9]) (val:=fI oA m oc E zs sn x.signed.set.type x.signed.set.life dA dn dc gA gn gc fA fn fc A7 n7 c7 undef undef undef undef) mv nC (vv HM.out) (by kernel_rfl) ?_ ?_
     ·intro i aU cn o ho a' hb aW;have k6':=adJ hb eI.out;have k8':=adJ hb pY.out;have k11':=adJ hb me.out;simp[Act.eval] at k6' k8' k11'
      repeat' (rcases aU with _ | ⟨_,aU⟩)
      all_goals first
       | (exfalso;simp at cn;done)
       | (cases ho
          try simp[Act.eval,Region.binds,fI,iL] at aW
          refine gZ (by simp[Region.wanted]) ?_;simp[Oper.quietAt,Oper.quietUpon,execOp,go_sem,fI,k6',k8',k11',d0,d1,d2,d3,d4,d5,d6,qD,aW])
     ·intro f listed a' hH hr hv;have av4:=hv 4;simp[Act.eval,fI,iL] at av4;simp only[wpOp];simp[Region.wanted];refine .inl ?_;simp[Oper.wp,go_sem,av4];refine (WF sn x.signed.set.type x.signed.set.life _ x.signed.set.data _ x.signed.sigs (by have:=Np.K7 jR.out.plain;omega) (by have:=Np.K7 jR.out.plain;omega) w8 (mg.out.later bq bD eX.out) (rV.out.later cC cZ eX.out)).mono ?_;rintro e w9 ⟨dv2,gv2,rfl,jH,bi⟩;have wV:=bi.size;replace d0:=aaJ bi d0;replace d1:=aaJ bi d1;replace d2:=aaJ bi d2;replace d3:=aaJ bi d3;replace d4:=aaJ bi d4;replace d5:=aaJ bi d5;replace d6:=aaJ bi d6;replace d7:=aaJ bi d7;have jP:Hid (xO w8.heap.size w9 dv2 gv2 x.signed.set.data x.signed.sigs):=jq jH;obtain⟨dA2,dc2,rfl,_,_⟩:=ar ((jH (λ_=>False) (λ_ e=>e.elim)).1);obtain⟨gA2,gc2,rfl,_,_⟩:=ar ((jH (λ_=>False) (λ_ e=>e.elim)).2);rw[fT.out.1,fT.out.2.1] at jP |-;have eb:=aaK eX bi;have MV:=jq bi;clear jH bi;dsimp only;refine iy 8 (D:=[0,1,2,3,4,6,7,9,5]) (val:=fI oA m oc E zs sn x.signed.set.type x.signed.set.life dA dn dc gA gn gc fA fn fc A7 n7 c7 (.agg #[.string sn,.int .i64 x.signed.set.type,.int .i64 x.signed.set.life,.slice dA2 dn dc2,.slice gA2 gn gc2]) undef undef undef) mv nC (hH.next mv nC hr) (by kernel_rfl) ?_ ?_
      ·intro i aU cn o ho a' hb aW;have k6':=adJ hb eI.out;have k8':=adJ hb pY.out;have k11':=adJ hb me.out;simp[Act.eval] at k6' k8' k11'
       repeat' (rcases aU with _ | ⟨_,aU⟩)
       all_goals first
        | (exfalso;simp at cn;done)
        | (cases ho
           try simp[Act.eval,Region.binds,fI,iL] at aW
           refine gZ (by simp[Region.wanted]) ?_;simp[Oper.quietAt,Oper.quietUpon,execOp,go_sem,fI,k6',k8',k11',d0,d1,d2,d3,d4,d5,d6,qD,aW])
      ·intro f listed a' hH hr hv;have av7:=hv 7;simp[Act.eval,fI,iL] at av7;simp only[wpOp];simp[Region.wanted];refine .inl ?_;simp[Oper.wp,go_sem,av7];refine (P7 _ x.fresh (by have:=jR.out.fresh;omega) w9 (Cb.out.later cI iw eb.out)).mono ?_;rintro e wC ⟨fv2,rfl,nX,cV⟩;have Km:=cV.size;replace d0:=aaJ cV d0;replace d1:=aaJ cV d1;replace d2:=aaJ cV d2;replace d3:=aaJ cV d3;replace d4:=aaJ cV d4;replace d5:=aaJ cV d5;replace d6:=aaJ cV d6;replace d7:=aaJ cV d7;obtain⟨fA2,fc2,rfl⟩:=nX.formL;rw[fT.out.2.2.1] at nX |-;have OJ:=jq nX;have iA:=aaK eb cV;have FH:=jq cV;clear nX cV;dsimp only;refine iy 11 (D:=[0,1,2,3,4,6,7,9,10,5,8]) (val:=fI oA m oc E zs sn x.signed.set.type x.signed.set.life dA dn dc gA gn gc fA fn fc A7 n7 c7 (.agg #[.string sn,.int .i64 x.signed.set.type,.int .i64 x.signed.set.life,.slice dA2 dn dc2,.slice gA2 gn gc2]) (.slice fA2 fn fc2) undef undef) mv nC (hH.next mv nC hr) (by kernel_rfl) ?_ ?_
       ·intro i aU cn o ho a' hb aW;have k6':=adJ hb eI.out;have k8':=adJ hb pY.out;have k11':=adJ hb me.out;simp[Act.eval] at k6' k8' k11'
        repeat' (rcases aU with _ | ⟨_,aU⟩)
        all_goals first
         | (exfalso;simp at cn;done)
         | (cases ho
            try simp[Act.eval,Region.binds,fI,iL] at aW
            refine gZ (by simp[Region.wanted]) ?_;simp[Oper.quietAt,Oper.quietUpon,execOp,go_sem,fI,k6',k8',k11',d0,d1,d2,d3,d4,d5,d6,qD,aW])
       ·intro f listed a' hH hr hv;have av10:=hv 10;simp[Act.eval,fI,iL] at av10;simp only[wpOp];simp[Region.wanted];refine .inl ?_;simp[qD] at av10;simp[Oper.wp,execOp,go_sem,av10];obtain⟨wX,mH⟩:=acQ (wC.alloc (.cells #[.string zs,.string sn,.int .i64 x.signed.set.type,.int .i64 x.signed.set.life,.slice dA2 dn dc2,.slice gA2 gn gc2,.slice fA2 fn fc2,.slice A7 n7 c7] 57));rw[<-mH];have dh:Below wC.heap.size wC wX:=by rw[mH];exact (vQ _ _).alloc (bQ _) _
        have vp:fC wX wC.heap.size 0 [.string zs,.string sn,.int .i64 x.signed.set.type,.int .i64 x.signed.set.life,.slice dA2 dn dc2,.slice gA2 gn gc2,.slice fA2 fn fc2,.slice A7 n7 c7]:=Hs (w:=wC) _ _ rfl mH;have TY:wX.heap.size=wC.heap.size+1:=by rw[mH];simp
        replace d0:=aaJ dh d0;replace d1:=aaJ dh d1;replace d2:=aaJ dh d2;replace d3:=aaJ dh d3;replace d4:=aaJ dh d4;replace d5:=aaJ dh d5;replace d6:=aaJ dh d6;replace d7:=aaJ dh d7;have t6:=jq vp;have ju:=aaK iA dh;have YV:=jq dh;have nu:Hid (fU (aR wX M) wX.heap.size [.string zs,.string sn,.int .i64 x.signed.set.type,.int .i64 x.signed.set.life,.slice dA2 dn dc2,.slice gA2 gn gc2,.slice fA2 fn fc2,.slice A7 n7 c7] { x with spans:=gp }):=jq (by
         have hM:∀ j,M j->j<wr.heap.size:=λj hj=>(Co.out j hj).2;have h1:=jP.out M (λj hj=>by have:=hM j hj;omega);have JJ:=Leaves'.of_below (M:=M) (FH.out.trans (dh.acJ));have h2:=JJ.slr bq gO bD h1.1;have h3:=JJ.slr cC jO cZ h1.2;have h4:SlR cm 2 (aR wC M) wC.heap.size (.slice fA2 fn fc2) x.fresh:=by
          have:=(OJ.out.sans (M:=M) (λj hj=>by have:=hM j hj;omega) (λr x h=>h)).slr iw (by rw[eW];omega) (by have:=jR.out.fresh;omega)
          rwa [eW] at this
         have h5:=(yz.out.around (n:=w6.heap.size) (bQ _) (by have:=qc.out;omega)) M (λj hj=>⟨jQ _,by have:=hM j hj;omega⟩);have h4':=(Leaves'.of_below (M:=M) dh).slr cI Lq iw h4;have h5':=(Leaves'.of_below (M:=M) ((((MU.out.trans (MV.out.acJ)).trans (FH.out.acJ)).trans (dh.acJ)))).slr cI Lq iw h5;exact⟨zs,sn,_,_,_,_,rfl,uB.out.1,uB.out.2.1,uB.out.2.2.1,uB.out.2.2.2,h2,h3,h4',h5'⟩)
        have ur:=jq (HO.out.keep pO l3 mW ju.out);clear mH dh vp;refine iy 12 (D:=[0,1,2,3,4,6,7,9,10,5,8,11]) (val:=fI oA m oc E zs sn x.signed.set.type x.signed.set.life dA dn dc gA gn gc fA fn fc A7 n7 c7 (.agg #[.string sn,.int .i64 x.signed.set.type,.int .i64 x.signed.set.life,.slice dA2 dn dc2,.slice gA2 gn gc2]) (.slice fA2 fn fc2) (.slice (some ⟨wC.heap.size,0,none⟩) 1 1) undef) mv nC (hH.next mv nC hr) (by kernel_rfl) ?_ ?_
        ·intro i aU cn o ho a' hb aW;have k6':=adJ hb eI.out;have k8':=adJ hb pY.out;have k11':=adJ hb me.out;simp[Act.eval] at k6' k8' k11'
         repeat' (rcases aU with _ | ⟨_,aU⟩)
         all_goals first
          | (exfalso;simp at cn;done)
          | (cases ho
             try simp[Act.eval,Region.binds,fI,iL] at aW
             refine gZ (by simp[Region.wanted]) ?_;simp[Oper.quietAt,Oper.quietUpon,execOp,go_sem,fI,k6',k8',k11',d0,d1,d2,d3,d4,d5,d6,qD,aW])
        ·intro f listed a' hH hr hv;have av0:=hv 0;have av11:=hv 11;simp[fI,iL] at av0 av11;simp only[wpOp];simp[Region.wanted];refine .inl ?_;refine Fv (R:=fU) (M:=M) wX (.tmp 50) (.tmp 61) 52 rfl B 57 i0 (.agg #[.string ⟨#[]⟩,.string ⟨#[]⟩,.int .i64 0,.int .i64 0,.slice none 0 0,.slice none 0 0,.slice none 0 0,.slice none 0 0]) 144 underlying52 pm bd EK EL rfl (by decide) (.slice oA m oc) (Np.gC dr (l.take k)) av0 ur.out (some ⟨wC.heap.size,0,none⟩) 1 [{ x with spans:=gp }] av11 (E1 rfl nu.out t6.out) Ll (by rw[cJ.out];simp[maxLen];omega) (by rw[cJ.out];simp;omega) (by omega) pO l3 mW ?_;intro v8 wY eH bX jE;obtain⟨A8,c8,rfl⟩:=eH.formN (n:=m+1) (by rw[List.length_append,cJ.out];rfl);have TZ:=bX.size;have pz:∀ j,(Value.slice oA m oc).ownBlock=some j->B<=j/\j<wr.heap.size:=λj e=>HO.out.lt j e;have iP:wY.heap[E]?=wX.heap[E]?:=bX.block _ (by omega) (λe=>by have:=(pz _ e.symm).2;omega);replace d0:=(iQ (a:=⟨E,0,none⟩) iP).trans d0;replace d1:=(iQ (a:=⟨E,1,none⟩) iP).trans d1;replace d2:=(iQ (a:=⟨E,2,none⟩) iP).trans d2;replace d3:=(iQ (a:=⟨E,3,none⟩) iP).trans d3;replace d4:=(iQ (a:=⟨E,4,none⟩) iP).trans d4;replace d5:=(iQ (a:=⟨E,5,none⟩) iP).trans d5;replace d6:=(iQ (a:=⟨E,6,none⟩) iP).trans d6;replace d7:=(iQ (a:=⟨E,7,none⟩) iP).trans d7;have Ng:Hid (Below B w2 wY):=jq (HB.out.trans ((ju.out.acJ).trans ((vQ _ _).grown bX (by omega) (λj e=>(pz j e).1))));have H8:=jq (And.intro eH (And.intro bX jE));clear eH bX jE iP pz;refine iy 13 (D:=[0,1,2,3,4,6,7,9,10,5,8,11,12]) (val:=fI oA m oc E zs sn x.signed.set.type x.signed.set.life dA dn dc gA gn gc fA fn fc A7 n7 c7 (.agg #[.string sn,.int .i64 x.signed.set.type,.int .i64 x.signed.set.life,.slice dA2 dn dc2,.slice gA2 gn gc2]) (.slice fA2 fn fc2) (.slice (some ⟨wC.heap.size,0,none⟩) 1 1) (.slice A8 (m+1) c8)) mv nC (hH.next mv nC hr) (by kernel_rfl) ?_ ?_
         ·intro i aU cn o ho a' hb aW;have k6':=adJ hb eI.out;have k8':=adJ hb pY.out;have k11':=adJ hb me.out;simp[Act.eval] at k6' k8' k11'
          repeat' (rcases aU with _ | ⟨_,aU⟩)
          all_goals first
           | (exfalso;simp at cn;done)
           | (cases ho
              try simp[Act.eval,Region.binds,fI,iL] at aW
              refine gZ (by simp[Region.wanted]) ?_;simp[Oper.quietAt,Oper.quietUpon,execOp,go_sem,fI,k6',k8',k11',d0,d1,d2,d3,d4,d5,d6,qD,aW])
         ·intro f listed a' hH hr hv;have av12:=hv 12;simp[Act.eval,fI,iL] at av12;simp only[wpOp];simp[Region.wanted];refine .inl ?_;simp[Oper.wp,execOp,go_sem,av12];refine BE hH hr HM.out mv (by kernel_rfl) λeP=>?_
          ·rw[eP,nc.out];simp[li,Act.put,fI,iL];clear hv hH eP;clear d0 d1 d2 d3 d4 d5 d6 d7;go_wp2_with fail;go_roundw
           case measure=>simp[intOf] <;> omega
           case rel=>
            refine⟨k+1,m+1,A8,c8,_,by omega,by go_num,rfl,jq (by rw[rW.out,HH.out,List.length_append,cJ.out];rfl),jq (λj hj=>?_),jq (by rw[rW.out,HH.out];exact H8.out.1),Ng⟩;rcases hj with hj | hj
            ·have:=Co.out j hj;omega
            ·have:=H8.out.1.lt j hj;exact this
end
section
open Go.RowKit Go.Shelf
attribute [local go_sem] Oper.semAt_some
theorem K8{ts:List Int}{en len d lf:Int}(k:Np.PlanOk ts en len d lf)(n:Nat)(hn:ts.length=n)(A:Option Addr)(c:Nat)(w:World)(hR:dS w w.heap.size)(hT:SlR eK 1 w w.heap.size (.slice A n c) ts) :
 Calls prog 47 #[.slice A n c,.int .i64 en,.int .i64 len,.int .i64 d,.int .i64 lf] w
  λe w'=>∃ l:List Value,e = .returned (.agg l.toArray)/\oG w' l (Np.eV ts en len d lf)/\Below w.heap.size w w':=by
 have hat:∀ t∈ts,∃ i,i<ts.length/\ts.getD i 0=t:=λt ht=>by
  obtain⟨i,hi⟩:=List.mem_iff_getElem?.1 ht;exact⟨i,(cQ.1 hi).1,by rw[List.getD_eq_getElem?_getD,hi];rfl⟩
 have wM:∀ t∈ts,Np.pT (t - d) (t+len)=true:=λt ht=>by
  obtain⟨i,hi,rfl⟩:=hat t ht
  have:=k.win hi
  simp only[Np.pT,Bool.and_eq_true,Qa];omega
 have h1:=k.d0;have h2:=k.d1;have h3:=k.l0;have h4:=k.l1;have h5:=k.e0;have h6:=k.e1;have h7:=k.few;refine (V6 ts en len d lf n hn (by omega) h1 h2 (by omega) h4 (by omega) h6 (λt ht=>by
  obtain⟨i,hi,rfl⟩:=hat t ht
  have:=k.low i hi;have:=k.high i hi
  omega) wM (λt ht=>Np.Wb k.f0 k.f1 (wM t ht)) (Np.V4 k.f0 k.f1) A c w hR hT).mono ?_
 rintro e w' ⟨L,rfl,hL,hb⟩;exact⟨L,rfl,⟨hL,k.use,Np.PlanOk.sums⟩,hb⟩
theorem Np.PlanOk.gapsX{ts:List Int}{en len d lf:Int}(k:Np.PlanOk ts en len d lf):Np.gapsX (Np.eV ts en len d lf)=(0,Np.gC d (Np.iI (Np.eV ts en len d lf))):=by
 unfold Np.gapsX;rw[Np.yV k.valid];rfl
theorem XI(b s l d f wh:Int)(pJ:0<=wh/\wh<256)(w:World)(hV:i6 w.heap.size w):Calls prog 11 #[.int .i64 b,.int .i64 s,.int .i64 l,.int .i64 d,.int .i64 f,.int .u8 wh] w (agQ w.heap.size w (.bool true)):=by
 have HV:=jq hV;clear hV;go_enter func11,ntmps11;go_wp2_with fail;refine (Sm w HV.out.rules).mono ?_;rintro e w1 ⟨rfl,aq⟩;have aK:=aq.size;have aD:=jq aq;have qp:=jq (HV.out.next aq);clear aq;go_wp2_with fail;refine (xI b s l d f w1).mono ?_;rintro e w2 ⟨tv,rfl,oe,ab⟩;have aC:=ab.size;have ai:=jq (aD.out.trans (ab.mono aK));have nw:=jq (qp.out.next ab);obtain⟨tA,tn,tc,rfl,ra,htc,od⟩:=ko oe;have gS:=jq oe;clear oe ab;by_cases he:Np.fm b s l d f=0
 case neg=>
  have jJ:tn=0:=by rw[<-ra,Np.XN he];rfl
  subst jJ;have Sr:(Np.fm b s l d f != 0)=true:=by simpa using he
  have Ss:(Np.fm b s l d f == 0)=false:=by simpa using he
  obtain⟨er,her⟩:=abY (Np.fm b s l d f);rw[her] at Sr Ss |-;clear he ra her;go_wp2_with fail;go_ret;exact⟨rfl,ai.out⟩
 case pos=>
 have jT:=jq (Np.WH he);rw[he];clear he;obtain⟨ts,oe⟩:=abY (Np.times b s l d f);rw[oe] at jT gS ra;clear oe;by_cases h6:6<tn
 ·have JB:(6:Int)<tn:=by omega
  clear ra;go_wp2_with fail;go_ret;exact⟨rfl,ai.out⟩
 have JB:¬ (6:Int)<tn:=by omega
 have jj:=jT.out.ne;rw[ra] at jj;obtain⟨x0,cR⟩:∃ x0,ts[0]?=some x0:=⟨_,aQ (by omega)⟩;have lU:x0=b:=by
  have h1:=jT.out.at' 0 (by omega);rw[List.getD_eq_getElem?_getD,cR] at h1;simpa using h1
 subst lU;obtain⟨tb,tq,rfl,TE,t0⟩:=rl gS.out cR;have kS:((tn:Int) == 0)=false:=by simp;omega
 have aeJ:tn<=6:=by omega
 have ia:=jq ra;clear cR ra JB h6;have t00:w2.cell? ⟨tb,tq,none⟩=some (.int .i64 x0):=by simpa using t0
 go_upto_region 7 with fail
 go_wp2_with fail;clear t0 t00;have JL:∀ k x,ts[k]?=some x->x<s:=λk x hx=>by
  have hk:=(cQ.1 hx).1;have h1:=jT.out.at' k hk;rw[List.getD_eq_getElem?_getD,hx] at h1;have h2:=jT.out.low k hk;have h3:x=x0+k * Np.iW l d f:=by simpa using h1
  omega
 have Ke:∀ k x y,ts[k]?=some x->ts[k+1]?=some y->x<y:=λk x y hx hy=>by
  have hk:=(cQ.1 hx).1;have fi:=(cQ.1 hy).1;have h1:=jT.out.at' k hk;have h2:=jT.out.at' (k+1) fi;rw[List.getD_eq_getElem?_getD,hx] at h1;rw[List.getD_eq_getElem?_getD,hy] at h2;have h3:=jT.out.mono (i:=k) (j:=k+1) (by omega);have h4:=jT.out.pos;have h5:x=x0+k * Np.iW l d f:=by simpa using h1
  have h6:y=x0+((k+1:Nat):Int) * Np.iW l d f:=by simpa using h2
  omega
 have Ot:=jq JL;have yH:=jq Ke;clear JL Ke;go_loopw [62] (λi wr=>∃ k:Nat,k<=tn/\i = .int .i64 k/\Hid (Below w2.heap.size w2 wr)) (λi _=>tn - (intOf i).toNat)
 case atStart=>exact⟨0,by omega,rfl,jq (vQ _ _)⟩
 case round=>
  obtain⟨k,hk,rfl,bH⟩:=hrel;obtain⟨ws,rfl⟩:=acQ wr;have AF:=bH.out.size;by_cases aa:k<tn
  ·have qn:=gS.out.later g9 l4 bH.out;obtain⟨x,hx⟩:∃ x,ts[k]?=some x:=⟨_,aQ (by rw[ia.out];exact aa)⟩;obtain⟨b2,q2,nD,_,c0⟩:=rl qn hx;simp only[Option.some.injEq,Addr.mk.injEq,and_true] at nD;obtain⟨rfl,rfl⟩:=nD;have jL:decide (s<=x)=false:=tQ (by have:=Ot.out k x hx;omega);have cO:(k:Int)<(tn:Int):=by omega
   have cN:(0:Int)<=(k:Int):=by omega
   by_cases zr:0<k
   ·obtain⟨m,rfl⟩:∃ m,k=m+1:=⟨k - 1,by omega⟩;obtain⟨y,hy⟩:∃ y,ts[m]?=some y:=⟨_,aQ (by rw[ia.out];omega)⟩;obtain⟨b3,q3,II,_,c1⟩:=rl qn hy;simp only[Option.some.injEq,Addr.mk.injEq,and_true] at II;obtain⟨rfl,rfl⟩:=II;have ep:decide (x<=y)=false:=tQ (by have:=yH.out m y x hy hx;omega);have nU:decide ((0:Int)<((m+1:Nat):Int))=true:=by simp
    have am:IntKind.i64.wrap (((m+1:Nat):Int) - 1)=(m:Int):=by rw[IntWalk.i64_in _ (by omega)];omega
    have pm:(0:Int)<=(m:Int):=by omega
    have Ab:(m:Int)<(tn:Int):=by omega
    clear hx hy qn zr aa;go_wp2_with fail;go_quiet (fail);go_wp2_with fail;go_roundw
    case rel=>exact⟨m+1+1,by omega,by go_num,jq (below_drewN bH.out _)⟩
    case measure=>simp[intOf] <;> omega
   ·have nU:decide ((0:Int)<(k:Int))=false:=by simp;omega
    have JN:decide (0<k)=false:=by simp;omega
    clear hx qn zr aa;go_wp2_with fail;go_quiet (fail);go_wp2_with fail;go_roundw
    case rel=>exact⟨k+1,by omega,by go_num,jq (below_drewN bH.out _)⟩
    case measure=>simp[intOf] <;> omega
  ·obtain rfl:tn=k:=by omega
   have ay:=aaK ai bH.out;have rX:=jq (nw.out.next bH.out);have qm:=jq (gS.out.later g9 l4 bH.out);have qi:=jq (jT.out.plan (by rw[ia.out];omega));have OE:=jq (jT.out.noGap (by rw[ia.out];omega));go_wp2_with fail;refine (K8 qi.out tn ia.out _ _ ws rX.out.rules qm.out).mono ?_;rintro e w4 ⟨L,rfl,hL,ah⟩;have gX:=ah.size;have HL:=jq hL;have bl:=jq (ay.out.trans (ah.mono ay.out.size));have GW:=jq (rX.out.next ah);have CG:=jq (qm.out.later g9 l4 ah);clear hL ah;go_wp2_with fail;refine (Iz L _ w4 GW.out HL.out).mono ?_;rw[qi.out.gapsX,OE.out];rintro e w5 ⟨gA,gn,gc,rfl,gD,-,aA⟩;have jo:=aA.size;have db:=jq (bl.out.trans (aA.mono bl.out.size));have CL:=jq (GW.out.next aA);have O7:=jq (CG.out.later g9 l4 aA);obtain rfl:gn=0:=by rw[<-gD];rfl
   clear gD aA HL;by_cases h2:tn<2
   ·have sI:(tn:Int)<2:=by omega
    go_wp2_with fail;go_ret;exact⟨rfl,db.out⟩
   have sI:decide ((tn:Int)<2)=false:=acK;by_cases hd:d=0
   ·have D5:(d == 0)=true:=by simpa using hd
    go_wp2_with fail;go_ret;exact⟨rfl,db.out⟩
   have D5:(d == 0)=false:=by simpa using hd
   go_upto_region 18 with fail
   have Kd:(0:Int)<(tn:Int) - 1:=by have:=of_decide_eq_false sI;omega
   have Tj:((tn:Int) - 1 == 0)=false:=by simp;omega
   obtain⟨r,hr⟩:=abY (wh.tmod ((tn:Int) - 1));have jj:0<=r:=by rw[<-hr];exact Int.tmod_nonneg _ pJ.1
   have dL:r<(tn:Int) - 1:=by rw[<-hr];exact Int.tmod_lt_of_pos _ Kd
   have TK:=pJ.1;have am:=pJ.2;go_upto_region 19 with fail
   obtain⟨q,hq⟩:∃ q:Nat,1+r=(q:Int):=⟨(1+r).toNat,by omega⟩;simp only[hq];have vS:1<=q:=by omega
   have mE:q<tn:=by omega
   have hq3:(q:Int)+1<=tn:=by omega
   have hq4:(0:Int)<=(q:Int)+1:=by omega
   clear hr jj dL hq Tj Kd;obtain⟨b9,o9,RA,lv,wl,eE,hown,bC⟩:=UV 27 mE ia.out (by omega) O7.out
   cases RA
   obtain⟨g,lc,cur,rfl,Am,kK,hg,JA,hcell⟩:=VO (n:=q+1) hown (by rw[List.length_take,ia.out];omega) (by omega);obtain⟨x,hx⟩:∃ x,ts[q]?=some x:=⟨_,aQ (by rw[ia.out];exact mE)⟩;have AP:ts.getD q 0=x:=by rw[List.getD_eq_getElem?_getD,hx];rfl
   have c9:wl.cell? ⟨g,q,none⟩=some (.int .i64 x):=hcell q x (by rw[List.getElem?_take,Qb (by omega)];exact hx);have fr9:wl.frozen? ⟨g,q,none⟩=false:=by simp[World.frozen?,JA]
   have jP:=jq hcell;have CP:=jq AP;have ll:=jq eE;have fE:=jq (db.out.trans (bC.mono db.out.size));have GY:=jq (CL.out.next bC);have afQ:0<=x:=by have:=qi.out.low q (by rw[ia.out];exact mE);rw[AP] at this;have:=qi.out.d0;omega
   have cS:x<s:=by rw[<-AP];exact qi.out.high q (by rw[ia.out];exact mE)
   have aN:s<=10000000:=qi.out.e1;have AC:(0:Int)<=(q:Int):=by omega
   have vT:(q:Int)<(q:Int)+1:=by omega
   clear eE hown JA hcell hx AP bC;by_cases pF:x+1<s
   case neg=>
    have qY:decide (s<=x+1)=true:=adQ;go_wp2_with (at_builtin;refine BH rfl _ _ 27 rfl _ _ _ wl rfl rfl ll.out ?_);go_ret;exact⟨rfl,fE.out.setCell (by have:=db.out.size;dsimp only;omega) _⟩
   case pos=>
   have qY:decide (s<=x+1)=false:=acK;go_wp2_with (at_builtin;refine BH rfl _ _ 27 rfl _ _ _ wl rfl rfl ll.out ?_);obtain⟨wm,lT⟩:=abY (wl.setCell ⟨g,q,none⟩ (.int .i64 (x+1)));have Ko:wm.heap.size=wl.heap.size:=by rw[<-lT];simp[World.setCell]
   have BT:=jq (show Below w.heap.size w wm by rw[<-lT];exact fE.out.setCell (by have:=db.out.size;dsimp only;omega) _);have GZ:=jq (HV.out.next BT.out);have CJ:Hid (SlR eK 1 wm wm.heap.size (.slice (some ⟨g,0,none⟩) (q+1) lc) (Np.oi ts q)):=jq (by
    have h1:=UW (w:=wl) (g:=g) (c:=lc) (q:=q) (ts:=ts) (by rw[ia.out];exact mE) Am hg (by rw[ia.out];omega) jP.out;rw[CP.out,lT] at h1;rw[Ko];exact h1)
   have GH:=jq (jT.out.late (by rw[ia.out];omega) (q:=q) (by rw[ia.out];exact mE) (by rw[CP.out];exact pF));have NZ:=jq (jT.out.gap (by rw[ia.out];omega) (q:=q) (by rw[ia.out];exact mE) vS (by rw[CP.out];exact pF) (by have:=qi.out.d0;omega));have yv:=jq (Np.AV (ts:=ts) (q:=q) (by rw[ia.out];exact mE));rw[lT];clear c9 fr9 lT;refine (K8 GH.out (q+1) yv.out _ _ wm GZ.out.rules CJ.out).mono ?_;rintro e w6 ⟨L2,rfl,zB,aI⟩;have Om:=jq zB;have dB:=jq (BT.out.trans (aI.mono BT.out.size));have Pa:=jq (GZ.out.next aI);clear zB aI;go_wp2_with fail;refine (Iz L2 _ w6 Pa.out Om.out).mono ?_;rw[GH.out.gapsX];dsimp only;rintro e w7 ⟨gA2,gn2,gc2,rfl,Jv,-,cF⟩;have fD:=jq (dB.out.trans (cF.mono dB.out.size));have nL:0<gn2:=by
    rcases Nat.eq_zero_or_pos gn2 with h0 | h0
    ·exact absurd (rQ (Jv.trans h0)) NZ.out
    ·exact h0
   have NV:=jq nL;clear Jv cF nL;go_wp2_with fail;go_ret;exact⟨show Ending.returned (.bool (decide (0<gn2)))=_ by rw[uQ NV.out],fD.out⟩
end
end Go.Proofs.YtfnopgdcaanaiaaGreatDoor
