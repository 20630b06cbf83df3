/- No condition. -/
import Derived.Test.YtadhigmjilijcaaGreatDoorH26
set_option linter.all false
set_option maxRecDepth 100000
set_option maxHeartbeats 8000000
namespace Go.Proofs.YtadhigmjilijcaaGreatDoor
open Go.Proofs.Tryz
section
open Go.RowKit
theorem bcX(s z:ByteArray)(hs:s.size<=140737488355328)(hz:z.size<=140737488355328)(v2:Np.ai z.data.toList=true)(w:World) :
 Calls prog 142 #[.string s,.string z] w (aCX w.heap.size w (.bool (Np.bA s.data.toList z.data.toList))):=by
 cases v1:Np.ai s.data.toList with
 | true=>exact (TY s z hs hz v1 v2 w).mono λe w' h=>⟨by rw[h.1];unfold Np.bA;rw[v1,v2];rfl,h.2⟩
 | false=>
  have V1:=jq v1;have HU:Hid (Np.bA s.data.toList z.data.toList=false):=jq (by unfold Np.bA;rw[v1];rfl);clear v1;go_enter func142,ntmps142;go_wp2_with fail;refine (Vc s z hs w V1.out).mono ?_;rintro e w2 ⟨rfl,hb⟩;have HB:=jq hb;clear hb;go_wp2_with fail;exact bodyPost_ret (v:=.bool false) (by simp[results,results142,go_sem]) rfl ⟨by rw[HU.out],HB.out⟩
theorem bqY(k:VwS)(eW:VhOk k)(wd:ByteArray)(bp:WdH k wd)(w:World)(h:VwIn k wd w) :
 Calls prog 71 #[.pointer (some ⟨k.V,0,none⟩)] w (rF k w):=by
 have hk:=eW.ok;have oP:=jq eW;have jd:=jq bp;obtain⟨R,hR⟩:=aaK w.heap.size;obtain⟨wa,HK,dw,gr,ja,lV,iA,bo⟩:=yp hk h hR;clear hk eW bp;have c3:=dw.out.cells 3 _ rfl;have c4:=dw.out.cells 4 _ rfl;have c5:=dw.out.cells 5 _ rfl;have c6:=dw.out.cells 6 _ rfl;go_enter func71,ntmps71;obtain⟨eq,RV⟩:=aaK (k.nm.toList == k.cut.toList);have aKY:((k.bh=false/\k.ty=6)\/(k.bh=false/\k.ty=8)\/(k.bh=false/\(k.ty == 6)=false/\(k.ty == 8)=false)\/(k.bh=true/\(k.nm.toList == k.cut.toList)=true/\k.ty=6)\/(k.bh=true/\(k.nm.toList == k.cut.toList)=true/\k.ty=8))\/
  ((k.bh=true/\(k.nm.toList == k.cut.toList)=false/\k.ty=6)\/(k.bh=true/\(k.nm.toList == k.cut.toList)=false/\k.ty=8)\/(k.bh=true/\(k.nm.toList == k.cut.toList)=false/\(k.ty == 6)=false/\(k.ty == 8)=false)\/(k.bh=true/\(k.nm.toList == k.cut.toList)=true/\(k.ty == 6)=false/\(k.ty == 8)=false)):=by
  have bm:k.ty=6\/k.ty=8\/((k.ty == 6)=false/\(k.ty == 8)=false):=by
   by_cases h6:k.ty=6
   ·exact .inl h6
   ·by_cases h8:k.ty=8
    ·exact .inr (.inl h8)
    ·exact .inr (.inr ⟨by simpa using h6,by simpa using h8⟩)
  rw[RV]
  cases hb:k.bh with
  | false=>
             rcases bm with h | h | h
             ·exact .inl (.inl ⟨rfl,h⟩)
             ·exact .inl (.inr (.inl ⟨rfl,h⟩))
             ·exact .inl (.inr (.inr (.inl ⟨rfl,h⟩)))
  | true=>
            cases eq with
            | true=>
                      rcases bm with h | h | h
                      ·exact .inl (.inr (.inr (.inr (.inl ⟨rfl,rfl,h⟩))))
                      ·exact .inl (.inr (.inr (.inr (.inr ⟨rfl,rfl,h⟩))))
                      ·exact .inr (.inr (.inr (.inr ⟨rfl,rfl,h⟩)))
            | false=>
                       rcases bm with h | h | h
                       ·exact .inr (.inl ⟨rfl,rfl,h⟩)
                       ·exact .inr (.inr (.inl ⟨rfl,rfl,h⟩))
                       ·exact .inr (.inr (.inr (.inl ⟨rfl,rfl,h⟩)))
 clear RV;rcases aKY with hA | hB
 ·rcases hA with ⟨gE,bm⟩ | ⟨gE,bm⟩ | ⟨gE,bm,Gh⟩ | ⟨gE,heq,bm⟩ | ⟨gE,heq,bm⟩
  all_goals
   rw[gE] at c6
   try rw[bm] at c4
   go_upto_region 2 with fail
   try rw[bo]
   try clear bo
   go_quiet (fail);generalize ar:World.drewN _ nq=w2;have ae:Below wa.heap.size wa w2:=ar ▸ below_drewN (vQ _ _) _;have am:=jq (gr.out.trans (ae.mono gr.out.size));have nn:=jq (dw.out.keep HK.out ae dw.out.lt);have fO:=jq ((ae.block R (by omega)).trans ja.out);have kR:=fD [_,_,_] fO.out;have kR0:=kR 0 _ rfl;have kR1:=kR 1 _ rfl;have kR2:=kR 2 _ rfl;have fR:∀ i,w2.frozen? ⟨R,i,none⟩=false:=λi=>by simp[World.frozen?,fO.out]
   clear ar ae c3 c4 c5 c6;go_wp2_with fail;exact ri jd.out rfl HK.out nn.out (qf am.out) hR iA fO.out 0 none 0 0 ⟨#[]⟩ false (by decide) [] (E6 _) (λh=>by cases h) _ rfl rfl rfl
 ·have gE:k.bh=true:=by rcases hB with h | h | h | h<;>exact h.1
  rw[gE] at c6;have Eh:=jq (HK.out.cut1 gE);have AZ:=jq (oP.out.cutH gE);clear gE;rcases hB with ⟨-,heq,bm⟩ | ⟨-,heq,bm⟩ | ⟨-,heq,bm,Gh⟩ | ⟨-,heq,bm,Gh⟩
  all_goals
   try rw[bm] at c4
   go_upto_region 2 with fail
   try rw[bo]
   try clear bo
   go_quiet (fail);generalize ar:World.drewN _ nq=w2;have ae:Below wa.heap.size wa w2:=ar ▸ below_drewN (vQ _ _) _;have Ni:=jq (gr.out.trans (ae.mono gr.out.size));have Er:=jq (dw.out.keep HK.out ae dw.out.lt);have YR:=jq ((ae.block R (by omega)).trans ja.out);have aFX:R+1<=w2.heap.size:=yQ lV ae.size;replace c5:=Er.out.cells 5 _ rfl;clear ar ae c3 c4 c6 heq bm
   try clear Gh
   go_wp2_with fail;refine (vL HK.out Er.out k.cut 2).mono ?_;rintro e w3 ⟨q1,b7Y,b8Q,rfl,hq,Gd,ae⟩;have N8:=jq Gd;clear Gd;have b7X:0<=q1:=hq.2 Eh.out.2;have Nj:=jq (Ni.out.trans (ae.mono Ni.out.size));have Es:=jq (Er.out.keep HK.out ae Er.out.lt);have YS:=jq ((ae.block R (by omega)).trans YR.out);have aFY:R+1<=w3.heap.size:=yQ aFX ae.size;replace c5:=Es.out.cells 5 _ rfl;clear ae hq;go_wp2_with fail;refine (vL HK.out Es.out k.cut 6).mono ?_;rintro e w4 ⟨q2,SG,SH,rfl,-,Ge,ae⟩;have Yq:=jq Ge;clear Ge;have Hl:=jq (Nj.out.trans (ae.mono Nj.out.size));have Bm:=jq (Es.out.keep HK.out ae Es.out.lt);have Om:=jq ((ae.block R (by omega)).trans YS.out);have Ru:R+1<=w4.heap.size:=yQ aFY ae.size;replace c5:=Bm.out.cells 5 _ rfl;clear ae;by_cases aVY:q2<0
   case' pos=>
    go_wp2_with fail;refine (vL HK.out Bm.out k.cut 8).mono ?_;rintro e w5 ⟨qp,Gd,Ge,rfl,-,SL,ae⟩;have N9:Hid (Np.je k.xs qp λx=>(x.set.type=2\/x.set.type=6\/x.set.type=8)/\x.set.name=k.cut.data.toList):=jq (SL.imp λx h=>⟨.inr (.inr (Prod.mk.inj h).2),(Prod.mk.inj h).1⟩);clear SL;have Hm:=jq (Hl.out.trans (ae.mono Hl.out.size));have vX:=jq (Bm.out.keep HK.out ae Bm.out.lt);have On:=jq ((ae.block R (by omega)).trans Om.out);have Rv:R+1<=w5.heap.size:=yQ Ru ae.size;replace c5:=vX.out.cells 5 _ rfl;clear ae
   case' neg=>
    obtain⟨w5,aS⟩:=aaX w4;obtain⟨qp,mT⟩:=aaX q2;have Gd : -1<=qp:=by omega
    have Ge:qp<k.n:=by omega
    have N9:Hid (Np.je k.xs qp λx=>(x.set.type=2\/x.set.type=6\/x.set.type=8)/\x.set.name=k.cut.data.toList):=jq (by rw[mT];exact Yq.out.imp λx h=>⟨.inr (.inl (Prod.mk.inj h).2),(Prod.mk.inj h).1⟩);have Hm:Hid (Below w.heap.size w w5):=by rw[aS];exact Hl
    have vX:Hid (VwIn k wd w5):=by rw[aS];exact Bm
    have On:Hid (w5.heap[R]?=some (.cells #[.int .i64 0,.slice none 0 0,.string ⟨#[]⟩] 29 (0,0))):=by rw[aS];exact Om
    have Rv:R+1<=w5.heap.size:=by rw[aS];exact Ru
    rw[<-aS] at c5 |-;rw[<-mT] at aVY |-;clear aS mT
   all_goals
    obtain⟨i,rfl⟩:∃ i:Nat,q1=(i:Int):=⟨q1.toNat,by omega⟩;have hin:i<k.n:=by omega
    obtain⟨x,fx⟩:∃ x,k.xs[i]?=some x:=⟨_,aQ (by rw[HK.out.len];exact hin)⟩;have OC:=jq fx;have rp:Hid (Np.bV x.set=(k.cut.data.toList,2)):=jq (N8.out (by omega) x (by simpa using fx));have gl:Hid (∀ p∈[(i:Int),qp],Np.je k.xs p (Np.BX k.cut.data.toList x)):=jq (λp hp=>by
     simp only[List.mem_cons,Qh,or_false] at hp;rcases hp with rfl | rfl
     ·exact N8.out.imp λy h=>.inl ⟨.inl (Prod.mk.inj h).2,(Prod.mk.inj h).1⟩
     ·exact N9.out.imp λy h=>.inl h)
    obtain⟨E,hE⟩:=aaK w5.heap.size;obtain⟨w6,cS⟩:=aaK (w5.alloc (.cells #[.int .i64 i,.int .i64 qp] 3));have ae:Below w5.heap.size w5 w6:=by rw[<-cS];exact blAl
    have kH:Hid (w6.ownsRow E 3 1 (.slice (some ⟨E,0,none⟩) 2 2) 2 ([(i:Int),qp].map (Value.int .i64))):=jq (by rw[<-cS,<-hE];exact World.ownsRow_lit w5 #[.int .i64 i,.int .i64 qp] 2 (bQ _) (by simp[maxLen]) rfl);have Wr:=jq (Hm.out.trans (ae.mono Hm.out.size));have Ir:=jq (vX.out.keep HK.out ae vX.out.lt);have YT:=jq ((ae.block R (by omega)).trans On.out);have bXZ:R+1<=w6.heap.size:=yQ Rv ae.size;have px:E+1<=w6.heap.size:=by rw[<-cS];simp[hE]
    obtain⟨b,o,c2,s,dv,sv,hA,cO,_,_,_,aV,aZ,_,_,_,e3,_⟩:=dN (Ir.out.all HK.out) fx;obtain⟨dA,dn,dc,rfl,jC,hdc,_⟩:=yj aV;have mK:dn<=1000:=by rw[<-jC];exact (HK.out.fewd x (gQ fx)).1
    have hVb:b<E:=by
     have h1:=(vX.out.all HK.out);obtain⟨b',o',_,_,_,_,hA',xn,_⟩:=dN h1 fx;rw[hA] at hA';simp only[Value.slice.injEq,Option.some.injEq,Addr.mk.injEq] at hA';omega
    have iX:Hid (SlR cm 3 w6 E (.slice dA dn dc) x.set.data):=jq (by
     obtain⟨_,_,_,_,dv',_,hA',_,_,_,_,CJ,_,_,_,_,e3',_⟩:=dN (vX.out.all HK.out) fx;rw[hA] at hA';simp only[Value.slice.injEq,Option.some.injEq,Addr.mk.injEq] at hA';obtain⟨⟨rfl,rfl,-⟩,-,rfl⟩:=hA';have h2:=aaQ ae e3';rw[e3] at h2
     cases h2
     rw[<-hE];exact CJ.keep bM ae)
    have Bb:=jq jC;have c1:=Ir.out.cells 1 _ rfl;rw[hA] at c1;have iO:(0:Int)<=(i:Int):=by omega
    have mP:(i:Int)<(k.n:Int):=by omega
    have xI:k.xs.length=k.n:=HK.out.len;rw[xI] at c1;have hVE:k.V<E:=by have:=vX.out.lt;omega
    have hRE:R+1<=E:=by omega
    clear ae aV aZ jC fx xI c5;go_wp2_with fail
    try rw[cS]
    clear cS c1 e3;go_loopw [7,79] (λv ix wr=>∃ (j m:Nat) (A:Option Addr) (c:Nat) (ps:List Int),j<=dn/\ix = .int .i64 j/\v = .slice A m c/\ps.length=m/\m<=2+j/\Hid ((∀ p∈ps,p<k.n)/\ps[0]?=some (i:Int)/\∀ p∈ps,Np.je k.xs p (Np.BX k.cut.data.toList x))/\Hid (wr.ownsRow E 3 1 v m (ps.map (Value.int .i64)))/\E+1<=wr.heap.size/\Hid (Below E w6 wr)) (λ_ ix _=>dn - (intOf ix).toNat)
    case atStart=>exact⟨0,2,_,_,[(i:Int),qp],by omega,rfl,rfl,rfl,by omega,jq ⟨λp hp=>by simp only[List.mem_cons,Qh,or_false] at hp;omega,rfl,gl.out⟩,kH,px,jq (vQ _ _)⟩
    case round=>
     obtain⟨j,m,A,c,ps,hj,rfl,rfl,il,iP,rr,HO,vz,eY⟩:=hrel;obtain⟨ws,rfl⟩:=aaX wr;have uj:=aaZ Wr eY.out;have my:=jq (Ir.out.keep HK.out eY.out hVE);have Oo:=jq ((eY.out.block R (by omega)).trans YT.out);have aGZ:R+1<=ws.heap.size:=by omega
     by_cases ag:j<dn
     ·obtain⟨y,Lv⟩:∃ y,x.set.data[j]?=some y:=⟨_,aQ (by rw[Bb.out];exact ag)⟩;obtain⟨bd,od,cd,ds,RT,xB,_,RU,hds,a0,a1,a2⟩:=B9 (iX.out.keep bM eY.out) Lv;simp only[Value.slice.injEq] at RT;obtain⟨rfl,-,rfl⟩:=RT;have rS:(0:Int)<=(j:Int):=by omega
      have uX:(j:Int)<(dn:Int):=by omega
      obtain⟨G,hG⟩:=aaK ws.heap.size;obtain⟨wg,oF⟩:=aaK (ws.alloc (.cells #[.string ds,.int .i64 y.n,.int .i64 y.m] 75));have ae:Below ws.heap.size ws wg:=by rw[<-oF];exact blAl
      have ro:=jq (jf [.string ds,.int .i64 y.n,.int .i64 y.m] 75 hG oF);have bRK:=jq (uj.out.trans (ae.mono uj.out.size));have Is:=jq (my.out.keep HK.out ae my.out.lt);have bSY:=jq ((ae.block R (by omega)).trans Oo.out);have hGg:G+1<=wg.heap.size:=by rw[<-oF];simp[hG]
      have yH:=aaZ eY ae;have yW:Hid (wg.ownsRow E 3 1 (.slice A m c) m (ps.map (Value.int .i64))):=jq (ra HO.out (λg hg=>ae.block g (HO.out.lt g hg).2));have PB:Hid (y∈x.set.data/\ds.data.toList=y.text):=jq ⟨gQ Lv,RU⟩;obtain⟨bb,eE⟩:=aaK (Np.bA ds.data.toList k.cut.data.toList);have ed:=jq eE;clear Lv ae RU eE;go_upto_region 12 with fail
      try rw[oF]
      clear oF a0 a1 a2;have g0:=ro.out 0 _ rfl;have c5:=Is.out.cells 5 _ rfl;go_region_with (go_at_call 142;refine (bcX ds k.cut hds HK.out.cut2 Eh.out.1 wg.drew).mono ?_;rw[ed.out];rintro e wh ⟨rfl,hb⟩;have ae:Below wg.heap.size wg wh:=(vQ wg.heap.size wg).drew.trans hb;have Xz:=jq (Is.out.keep HK.out ae Is.out.lt);have Ec:=aaZ yH ae;have II:Hid (wh.ownsRow E 3 1 (.slice A m c) m (ps.map (Value.int .i64))):=jq (ra yW.out (λg hg=>ae.block g (yW.out.lt g hg).2));have Xn:=jq (ro.out.keep ae (by omega));have hzh:=ae.size;clear hb ae c5 g0)
      all_goals
       cases bb with
       | false=>
        go_wp2_with fail;go_roundw
        case rel=>exact⟨j+1,m,A,c,ps,by omega,by go_num,rfl,il,by omega,rr,II,by omega,Ec⟩
        ·simp[intOf]<;>omega
       | true=>
        have g1:=Xn.out 0 _ rfl;go_wp2_with fail;clear g1;refine (vL HK.out Xz.out ds 1).mono ?_;rintro e wi ⟨qx,b8X,b8Y,rfl,-,SM,ae⟩;have Ys:Hid (Np.je k.xs qx (Np.BX k.cut.data.toList x)):=jq (SM.imp λz h=>.inr ⟨(Prod.mk.inj h).2,by rw[(Prod.mk.inj h).1];exact ed.out,y,PB.out.1,by rw[(Prod.mk.inj h).1];exact PB.out.2.symm⟩);clear SM;have Ww:=aaZ Ec ae;have NV:Hid (wi.ownsRow E 3 1 (.slice A m c) m (ps.map (Value.int .i64))):=jq (ra II.out (λg hg=>ae.block g (II.out.lt g hg).2));have hzi:=ae.size;clear ae;obtain⟨J,hJ⟩:=aaK wi.heap.size;obtain⟨wj,Lr⟩:=aaK (wi.alloc (.cells #[.int .i64 qx] 3));have ae:Below wi.heap.size wi wj:=by rw[<-Lr];exact blAl
        have rX:wj.ownsRow E 3 1 (.slice A m c) m (ps.map (Value.int .i64)):=ra NV.out (λg hg=>ae.block g (NV.out.lt g hg).2);have hzj:=ae.size;obtain⟨v',wk,jz,fe,cY⟩:=ajJ rX 164 J qx ((jf [.int .i64 qx] 3 hJ Lr) 0 _ rfl) (by omega) (by omega);obtain⟨vA,vc,rfl⟩:=sF fe;have nh:=jq jz;have Wz:=jq (Ww.out.trans ((ae.abQ).trans cY));have Yg:Hid (wk.ownsRow E 3 1 (.slice vA (m+1) vc) (m+1) ((ps ++ [qx]).map (Value.int .i64))):=jq (by rw[List.map_append];exact fe);have hzk:=cY.size;have g9:Hid ((∀ p∈ps ++ [qx],p<k.n)/\(ps ++ [qx])[0]?=some (i:Int)/\∀ p∈ps ++ [qx],Np.je k.xs p (Np.BX k.cut.data.toList x)):=jq ⟨λp hp=>by
         rcases List.mem_append.1 hp with hp | hp
         ·exact rr.out.1 p hp
         ·simp only[List.mem_singleton] at hp;omega,by
         have h0:=rr.out.2.1;rw[List.getElem?_append_left (cQ.1 h0).1];exact h0,λp hp=>by
         rcases List.mem_append.1 hp with hp | hp
         ·exact rr.out.2.2 p hp
         ·simp only[List.mem_singleton] at hp;subst hp;exact Ys.out⟩
        have dU:(ps ++ [qx]).length=m+1:=by simp[il]
        have nY:=jq dU;clear jz fe cY rX ae dU;go_wp2_with (at_builtin;refine bQJ rfl _ _ 164 rfl _ _ _ wk rfl rfl nh.out ?_;clear Lr);go_roundw
        case rel=>exact⟨j+1,m+1,vA,vc,ps ++ [qx],by omega,by go_num,rfl,nY.out,by omega,g9,Yg,by omega,Wz⟩
        ·simp[intOf]<;>omega
     ·obtain rfl:j=dn:=by omega
      clear ag;have Yk:=jq (a4Z HO.out il (by omega));go_wp2_with fail;refine (vK HK.out my.out 4 ps m il (by omega) rr.out.1 A c Yk.out).mono ?_;rintro e wt ⟨aA,an,ac,la,rfl,dU,har,ae⟩;have KI:1<=m:=by
       have:=(cQ.1 rr.out.2.1).1
       omega
      have D4:Hid (Np.vM k.xs k.ap.data.toList k.nm.data.toList k.ty 4 k.cut.data.toList la):=jq (Np.uG dU λp hp=>(rr.out.2.2 p hp).imp λz h=>Np.may4 (by
       unfold Np.p9 Np.bA;rw[Eh.out.1,HK.out.ap1,AZ.out.2.1];simpa using AZ.out.2.2) (by
       unfold Np.bA;rw[HK.out.nm1,Eh.out.1,AZ.out.1];rfl) (dU.head (i:Int) x KI rr.out.2.1 (by omega) (by simpa using OC.out)) rp.out h)
      have iG:=jq (har.less aGZ);clear dU har KI;have Nl:=jq (uj.out.trans (ae.mono uj.out.size));have NH:=jq (my.out.keep HK.out ae my.out.lt);have YW:=jq ((ae.block R (by omega)).trans Oo.out);have Af:=ae.size;obtain⟨T,hT⟩:=aaK wt.heap.size;obtain⟨wu,Te⟩:=aaK (wt.alloc (.cells #[.int .i64 4,.slice aA an ac,.string ⟨#[]⟩] 29));clear ae;have V5:=iG;have ae:Below wt.heap.size wt wu:=by rw[<-Te];exact blAl
      have Wq:=jq ae;have Ja:Hid (wu.heap[T]?=some (.cells #[.int .i64 4,.slice aA an ac,.string ⟨#[]⟩] 29 (0,0))):=jq (by rw[<-Te,<-hT];exact heap_alloc_new _ _);have Wt:=jq (Nl.out.trans (ae.mono Nl.out.size));have NI:=jq (NH.out.keep HK.out ae NH.out.lt);have YX:=jq ((ae.block R (by omega)).trans YW.out);clear ae;have c5:=NI.out.cells 5 _ rfl;have k0:=fD [_,_,_] Ja.out;have kT0:=k0 0 _ rfl;have kT1:=k0 1 _ rfl;have kT2:=k0 2 _ rfl;have fT:∀ i,wu.frozen? ⟨T,i,none⟩=false:=λi=>by simp[World.frozen?,Ja.out]
      go_upto_region 17 with fail
      obtain⟨wv,Gn⟩:=aaK ((wu.setCell ⟨T,2,none⟩ (.string ⟨#[]⟩)).setCell ⟨T,2,none⟩ (.string k.cut));rw[Gn];have hTR:T≠R:=by omega
      have eF:Below T wu wv:=by rw[<-Gn];exact ((vQ T wu).setCell (bQ _) _).setCell (bQ _) _
      have Ry:wv.heap[T]?=some (.cells #[.int .i64 4,.slice aA an ac,.string k.cut] 29 (0,0)):=by rw[<-Gn];simp[World.setCell,Array.getElem?_modify,Ja.out]
      have Wu:=aaZ Wt eF;have XA:=jq (NI.out.keep HK.out eF (by omega));have V6:=jq (V5.out.below ax eB aK (Wq.out.trans (by rw[hT];exact eF)));have IW:=jq ((eF.block R (by omega)).trans YX.out);have t0:=fD [_,_,_] Ry;have tT0:=t0 0 _ rfl;have tT1:=t0 1 _ rfl;have tT2:=t0 2 _ rfl;have kR:=fD [_,_,_] IW.out;have kR0:=kR 0 _ rfl;have kR1:=kR 1 _ rfl;have kR2:=kR 2 _ rfl;have fR:∀ q,wv.frozen? ⟨R,q,none⟩=false:=λq=>by simp[World.frozen?,IW.out]
      clear eF Ry Gn kT0 kT1 kT2 fT k0 c5;go_wp2_with fail;exact ri jd.out rfl HK.out XA.out (qf Wu.out) hR iA IW.out 4 aA an ac k.cut true HK.out.cut2 la V6.out (λ_=>D4.out) _ rfl rfl rfl
end
end Go.Proofs.YtadhigmjilijcaaGreatDoor
