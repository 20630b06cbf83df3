/- No condition. -/
import Derived.Test.YtadhigmjilijcaaGreatDoorA29
set_option linter.all false
set_option maxRecDepth 100000
set_option maxHeartbeats 8000000
namespace Go.Proofs.YtadhigmjilijcaaGreatDoor
open Go.Proofs.Tryz
section
open Go.RowKit Go.Shelf
attribute [local go_sem] Oper.semAt_some
theorem aaJ(v:Value)(l:List Np.Signed)(y:Np.Signed)(s:ByteArray)(hs:s.data.toList=y.set.name)(dA:Option Addr)(dn dc:Nat)(gA:Option Addr)(gn gc:Nat)(hy:y∈l)(w:World)(hl:SlR aB 5 w w.heap.size v l)(hd:SlR bS 3 w w.heap.size (.slice dA dn dc) y.set.data)(hg:SlR dw 6 w w.heap.size (.slice gA gn gc) y.sigs) :
 Calls prog 19 #[v,.agg #[.string s,.int .i64 y.set.type,.int .i64 y.set.life,.slice dA dn dc,.slice gA gn gc]] w λe w'=>e = .returned (.bool true)/\Below w.heap.size w w':=by
 obtain⟨A,N,C,rfl,hN,_,_⟩:=aM hl;have HN:=jq hN;obtain⟨X,hX⟩:=aRZ w.heap.size;obtain⟨w1,ah⟩:=aRZ (w.alloc (.cells #[.string s,.int .i64 y.set.type,.int .i64 y.set.life,.slice dA dn dc,.slice gA gn gc] 44));have z1:w1.heap.size=X+1:=by rw[<-ah,<-hX];simp
 have b1:Below w.heap.size w w1:=by rw[<-ah];exact aj _ _
 have Bn:Hid (w1.heap[X]?=some (.cells [Value.string s,.int .i64 y.set.type,.int .i64 y.set.life,.slice dA dn dc,.slice gA gn gc].toArray 44 (0,0))):=jq (by rw[<-ah,<-hX];exact heap_alloc_new _ _);have HL:=jq (hl.later az bf b1);have HD:=jq (hd.later br bB b1);have HG:=jq (hg.later cK da b1);have HB:=jq b1;have HS:=jq hs;have HY:=jq hy;clear hl hd hg b1 hN hs hy;go_enter func19,ntmps19;go_wp2_with fail;clear ah;go_wp2_with fail;go_loopw [9] (λi wr=>∃ k:Nat,k<=N/\i = .int .i64 k/\Hid (Below w1.heap.size w1 wr)/\Hid (∀ j:Nat,j<k->l[j]?≠some y)) (λi _=>N - (intOf i).toNat)
 case atStart=>exact⟨0,jQ _,rfl,jq (vQ _ _),jq (λj h=>by omega)⟩
 case round=>
  obtain⟨k,hk,rfl,dI,HA⟩:=hrel;obtain⟨ws,rfl⟩:=aRX wr;have zs:X+1<=ws.heap.size:=by have:=dI.out.size;omega
  by_cases af:k<N
  ·obtain⟨x,eP⟩:∃ x,l[k]?=some x:=⟨_,aQ (by rw[HN.out];exact af)⟩;obtain⟨b,o,c2,s1,dv,sv,hA,dB,_,dq,eX,bZ,cx,e0,e1,e2,e3,e4⟩:=mE (HL.out.later az bf dI.out) eP;simp only[Value.slice.injEq] at hA;obtain⟨rfl,-,rfl⟩:=hA;obtain⟨dA1,dn1,dc1,rfl,_,_,_⟩:=aM bZ;obtain⟨gA1,gn1,gc1,rfl,_,_,_⟩:=aM cx;have r8:=jq eP;have dS:=kNN k;have dp:(k:Int)<(N:Int):=by omega
   obtain⟨w6,cS⟩:=aRZ (ws.alloc (.cells #[.string s1,.int .i64 x.set.type,.int .i64 x.set.life,.slice dA1 dn1 dc1,.slice gA1 gn1 gc1] 44));have bh:Below ws.heap.size ws w6:=by rw[<-cS];exact aj _ _
   have z6:w6.heap.size=ws.heap.size+1:=by rw[<-cS];simp
   have ef:Hid (w6.heap[ws.heap.size]?=some (.cells [Value.string s1,.int .i64 x.set.type,.int .i64 x.set.life,.slice dA1 dn1 dc1,.slice gA1 gn1 gc1].toArray 44 (0,0))):=jq (by rw[<-cS];exact heap_alloc_new _ _);have gh:=jq (bZ.later br bB bh);have iO:=jq (cx.later cK da bh);have gj:=jq dq;have aU:=jq (dI.out.trans (bh.mono dI.out.size));have xX:=jq ((aU.out.block X (by omega)).trans Bn.out);have c0:=ae _ ef.out 0 _ rfl;have y0:=ae _ xX.out 0 _ rfl;have c1:=ae _ ef.out 1 _ rfl;have y1:=ae _ xX.out 1 _ rfl;have c2:=ae _ ef.out 2 _ rfl;have y2:=ae _ xX.out 2 _ rfl;have c3:=ae _ ef.out 3 _ rfl;have y3:=ae _ xX.out 3 _ rfl;have c4:=ae _ ef.out 4 _ rfl;have y4:=ae _ xX.out 4 _ rfl;clear bh dq eX bZ cx eP;go_wp2_with fail;clear cS;go_wp2_with fail;clear e0 e1 e2 e3 e4 c0 c1 c2 c3 c4 y0 y1 y2 y3 y4;refine (Qj x y s1 s gj.out HS.out (.slice dA1 dn1 dc1) (.slice gA1 gn1 gc1) (.slice dA dn dc) (.slice gA gn gc) w6 gh.out iO.out (HD.out.later br bB aU.out) (HG.out.later cK da aU.out)).mono ?_;rintro e w7 ⟨rfl,bm⟩;have cL:=jq (aU.out.trans (bm.mono aU.out.size));clear bm;by_cases dE:x=y
   ·rw[uQ dE];clear dE;have BI:=jq (HB.out.trans (cL.out.mono HB.out.size));go_wp2_with fail;go_ret;exact⟨rfl,BI.out⟩
   ·have yD:=jq dE;rw[tQ dE];clear dE;go_wp2_with fail;go_roundw
    case rel=>exact⟨k+1,by omega,by go_num,cL,jq (λj hj h=>by
     by_cases e0:j=k
     ·subst e0;rw[r8.out] at h;cases h;exact yD.out rfl
     ·exact HA.out j (by omega) h)⟩
    case measure=>simp[intOf]<;>omega
  ·obtain rfl:k=N:=by omega
   obtain⟨j,hj,Zd⟩:=nQ.1 HY.out;exact absurd (by rw[aQ hj,Zd]) (HA.out j (by rw[<-HN.out];exact hj))
end
section
open Go.RowKit Go.Shelf
attribute [local go_sem] Oper.semAt_some
def Np.kl(s:Np.DSet)(z:List UInt8)(t d:Int)(k:Np.Key)(g:Np.Sig):Bool:=decide (g.zone=z)&&(decide (g.frm<=t - d)&&(decide (t+d<=g.til)&&Np.pE s g k))
theorem Np.ajQ{s:Np.Signed}{z:List UInt8}{ks:List Np.Key}{t d:Int}(h:Np.e8 s z ks t d=true):(0<=t/\t<=10000000/\0<=d/\d<=1000)/\(ks.any λk=>s.sigs.any (Np.kl s.set z t d k))=true:=by
 unfold Np.e8 Np.gw at h;simp only[Bool.and_eq_true,Qa,List.any_eq_true] at h;obtain⟨h1,g,hg,h2⟩:=h;unfold Np.rC at h2;simp only[Bool.and_eq_true,Qa,List.any_eq_true] at h2;obtain⟨a1,a2,a3,k,hk,a4⟩:=h2;refine⟨⟨h1.1.1.1,h1.1.1.2,h1.1.2,h1.2⟩,List.any_eq_true.2 ⟨k,hk,List.any_eq_true.2 ⟨g,hg,?_⟩⟩⟩;unfold Np.kl;simp only[Bool.and_eq_true,Qa];exact⟨a1,a2,a3,a4⟩
theorem afY{w:World}{B:Nat}{v:Value}{xs:List Np.Key}(h:SlR iS 2 w B v xs){k:Nat}{x:Np.Key}(hx:xs[k]?=some x):∃ (b o c:Nat),v = .slice (some ⟨b,o,none⟩) xs.length c/\b<B/\w.cell? ⟨b,o+k * 2,none⟩=some (.int .i64 x.n)/\w.cell? ⟨b,o+k * 2+1,none⟩=some (.int .i64 x.alg):=by
 obtain⟨A,c,rfl,hc,_,he⟩:=h;obtain⟨b,o,e,rfl,hb,_,hce,hr⟩:=he k x hx;obtain rfl:=hr;exact⟨b,o,c,rfl,hb,by have:=hce 0 _ rfl;simpa using this,hce 1 _ rfl⟩
theorem Np.Fk{α:Type}{p:α->Bool}{l:List α}{k:Nat}{x:α}(h:l[k]?=some x):(l.take (k+1)).any p=((l.take k).any p||p x):=by
 obtain⟨hl,he⟩:=cQ.1 h;rw[fQ hl,List.any_append,he];simp
theorem aiY(kv:Value)(known:List Np.Signed)(an qn:ByteArray)(anchor:Np.DSet)(han:an.data.toList=anchor.name)(mj:an.size<=140737488355328)(adv:Value)(ty at' dr:Int)(fH:qn.size<=140737488355328)(w:World)(hR:bL w w.heap.size)(hk:SlR aB 5 w w.heap.size kv known)(fP:SlR bS 3 w w.heap.size adv anchor.data) :
 Calls prog 4 #[kv,.agg #[.string an,.int .i64 anchor.type,.int .i64 anchor.life,adv],.agg #[.string qn,.int .i64 ty],.int .i64 at',.int .i64 dr] w λe w'=>e = .returned (.bool true)/\Below w.heap.size w w':=by
 obtain⟨A,N,C,rfl,hN,_,_⟩:=aM hk;obtain⟨aA,aN,aC,rfl,NH,_,_⟩:=aM fP;have HN:=jq hN;have fJ:=jq han;obtain⟨X,hX⟩:=aRZ w.heap.size;obtain⟨w1,ah⟩:=aRZ (w.alloc (.cells #[.string an,.int .i64 anchor.type,.int .i64 anchor.life,.slice aA aN aC] 25));obtain⟨w2,aX⟩:=aRZ (w1.alloc (.cells #[.string qn,.int .i64 ty] 27));have z1:w1.heap.size=X+1:=by rw[<-ah,<-hX];simp
 have z2:w2.heap.size=X+1+1:=by rw[<-aX,<-z1];simp
 have b1:Below w.heap.size w w1:=by rw[<-ah];exact aj _ _
 have b2:Below w1.heap.size w1 w2:=by rw[<-aX];exact aj _ _
 have b12:=b1.trans (b2.aSZ);have tF:Hid (w2.heap[X]?=some (.cells [Value.string an,.int .i64 anchor.type,.int .i64 anchor.life,.slice aA aN aC].toArray 25 (0,0))):=jq ((b2.block X (by omega)).trans (by rw[<-ah,<-hX];exact heap_alloc_new _ _));have xW:Hid (w2.heap[X+1]?=some (.cells [Value.string qn,.int .i64 ty].toArray 27 (0,0))):=jq (by rw[<-aX,<-z1];exact heap_alloc_new _ _);have HR:=jq ((hR.keep b12).more b12.size);have HK:=jq (hk.later az bf b12);have HA:=jq (fP.later br bB b12);have HB:=jq b12;clear hk fP hR b1 b2 b12 hN han;go_enter func4,ntmps4;go_wp2_with fail;clear ah;go_wp2_with fail;clear aX;go_wp2_with fail;refine (GC w2 HR.out).mono ?_;rintro e w3 ⟨rfl,ai⟩;have z3:X+1+1<=w3.heap.size:=by have:=ai.size;omega
 have am:=aRQ HB ai;have po:=jq ((ai.block X (by omega)).trans tF.out);have qx:=jq ((ai.block (X+1) (by omega)).trans xW.out);have gN:=jq ((HR.out.keep ai).more ai.size);have iL:=jq (HK.out.later az bf ai);have pj:=jq (HA.out.later br bB ai);clear ai;go_wp2_with fail;refine (Fy _ known w3 iL.out).mono ?_;rintro e w4 ⟨fb,rfl,rfl,sT⟩
 cases fb with
 | false=>
  go_wp2_with fail;go_ret;exact⟨rfl,am.out⟩
 | true=>
  have pp:=jq (sT rfl);clear sT;have a0:=ae _ po.out 0 _ rfl;have a1:=ae _ po.out 1 _ rfl;have a2:=ae _ po.out 2 _ rfl;have a3:=ae _ po.out 3 _ rfl;have q0:=ae _ qx.out 0 _ rfl;have q1:=ae _ qx.out 1 _ rfl;go_wp2_with fail;clear a0 a1 a2 a3 q0 q1;refine (Ay (.slice A N C) known an qn anchor fJ.out mj (.slice aA aN aC) ty at' dr fH w3 gN.out iL.out (λy hy=>⟨yQ (pp.out.2 y hy).1 (by decide),yQ (pp.out.2 y hy).2 (by decide)⟩) pj.out).mono ?_;have hj:=Np.Px known anchor qn.data.toList ty at' dr;have il:=Np.afK known anchor qn.data.toList ty at' dr;obtain⟨⟨⟨kd,⟨mq,mt⟩,sets⟩,er⟩,hx⟩:∃ x,Np.eY known anchor qn.data.toList ty at' dr=x:=⟨_,rfl⟩;rw[hx] at hj il |-;clear hx;rintro e w4 ⟨mn,vA,vn,vc,rfl,hq,cA,di,av⟩;dsimp only at hj hq di il |-;have kf:=di.all kj;have cE:sets.length=vn:=xI kf;have Hd:vn<=140737488355328:=by
   obtain⟨A',n',c',h1,_,_,h4⟩:=aM kf;simp only[Value.slice.injEq] at h1;omega
  have aF:=aRQ am av;have lM:=jq (iL.out.later az bf av);have Eh:=jq (pj.out.later br bB av);have gi:=jq ((gN.out.keep av).more av.size);have Et:=jq ((av.block X (by omega)).trans po.out);have vR:=jq kf;have eC:=jq cE;have z4:X+1+1<=w4.heap.size:=by have:=av.size;omega
  clear av di kf hq cA;by_cases her:er=0
  case neg=>
   have pT:=hj.none her
   cases pT
   clear hj il;obtain rfl:vn=0:=cE.symm;have cp:(er == 0)=false:=by simpa using her
   have cP:(er != 0)=true:=by simpa using her
   obtain⟨w5,bc⟩:=aRZ (w4.alloc (.cells #[.int .i64 0,.string mn,.int .i64 0,.slice vA 0 vc] 33));have b5:Below w4.heap.size w4 w5:=by rw[<-bc];exact aj _ _
   have dJ:Hid (w5.heap[w4.heap.size]?=some (.cells [Value.int .i64 0,.string mn,.int .i64 0,.slice vA 0 vc].toArray 33 (0,0))):=jq (by rw[<-bc];exact heap_alloc_new _ _);have z5:w5.heap.size=w4.heap.size+1:=by rw[<-bc];simp
   have aK:=aRQ aF b5;have qA:=jq (lM.out.later az bf b5);have tz:=jq (Eh.out.later br bB b5);have tM:=jq ((gi.out.keep b5).more b5.size);have qF:=jq (vR.out.later az bf b5);have Eu:=jq ((b5.block X (by omega)).trans Et.out);have v0:=ae _ dJ.out 0 _ rfl;have v3:=ae _ dJ.out 3 _ rfl;clear b5;clear cE;go_wp2_with fail;clear bc;go_wp2_with fail;go_ret;exact⟨rfl,aK.out⟩
  subst her;by_cases uH:kd=1
  case neg=>
   have Di:=il.1 uH;subst Di;obtain rfl:vn=0:=cE.symm;have cp:(kd == 1)=false:=by simpa using uH
   have cP:(kd != 1)=true:=by simpa using uH
   clear hj il;obtain⟨w5,bc⟩:=aRZ (w4.alloc (.cells #[.int .i64 kd,.string mn,.int .i64 mt,.slice vA 0 vc] 33));have b5:Below w4.heap.size w4 w5:=by rw[<-bc];exact aj _ _
   have dJ:Hid (w5.heap[w4.heap.size]?=some (.cells [Value.int .i64 kd,.string mn,.int .i64 mt,.slice vA 0 vc].toArray 33 (0,0))):=jq (by rw[<-bc];exact heap_alloc_new _ _);have z5:w5.heap.size=w4.heap.size+1:=by rw[<-bc];simp
   have aK:=aRQ aF b5;have qA:=jq (lM.out.later az bf b5);have tz:=jq (Eh.out.later br bB b5);have tM:=jq ((gi.out.keep b5).more b5.size);have qF:=jq (vR.out.later az bf b5);have Eu:=jq ((b5.block X (by omega)).trans Et.out);have v0:=ae _ dJ.out 0 _ rfl;have v3:=ae _ dJ.out 3 _ rfl;clear b5;clear cE;go_wp2_with fail;clear bc;go_wp2_with fail;go_ret;exact⟨rfl,aK.out⟩
  subst uH;have So:=jq il.2.1;have a4Z:0<vn:=by
   have h:=il.2.2 rfl;rw[<-cE];exact List.length_pos_iff.2 h
  clear hj il cE;obtain⟨w5,bc⟩:=aRZ (w4.alloc (.cells #[.int .i64 1,.string mn,.int .i64 mt,.slice vA vn vc] 33));have b5:Below w4.heap.size w4 w5:=by rw[<-bc];exact aj _ _
  have dJ:Hid (w5.heap[w4.heap.size]?=some (.cells [Value.int .i64 1,.string mn,.int .i64 mt,.slice vA vn vc].toArray 33 (0,0))):=jq (by rw[<-bc];exact heap_alloc_new _ _);have z5:w5.heap.size=w4.heap.size+1:=by rw[<-bc];simp
  have aK:=aRQ aF b5;have qA:=jq (lM.out.later az bf b5);have tz:=jq (Eh.out.later br bB b5);have tM:=jq ((gi.out.keep b5).more b5.size);have qF:=jq (vR.out.later az bf b5);have Eu:=jq ((b5.block X (by omega)).trans Et.out);have v0:=ae _ dJ.out 0 _ rfl;have v3:=ae _ dJ.out 3 _ rfl;clear b5;go_wp2_with fail;clear bc;go_wp2_with fail;clear v0;go_loopw [56] (λi wr=>∃ k:Nat,k<=vn/\i = .int .i64 k/\Hid (Below w5.heap.size w5 wr)) (λi _=>vn - (intOf i).toNat)
  case atStart=>exact⟨0,jQ _,rfl,jq (vQ _ _)⟩
  case round=>
   obtain⟨k,hk,rfl,dI⟩:=hrel;obtain⟨ws,rfl⟩:=aRX wr;have zs:w4.heap.size<ws.heap.size:=by have:=dI.out.size;omega
   by_cases af:k<vn
   case neg=>
    obtain rfl:k=vn:=by omega
    have lU:=jq ((dI.out.block w4.heap.size (by omega)).trans dJ.out);have v3:=ae _ lU.out 3 _ rfl;have aU:=jq (aK.out.trans (dI.out.mono aK.out.size));have pV:(0:Int)<(k:Int):=by omega
    have Zv:decide ((0:Int)<(k:Int))=true:=uQ pV;go_wp2_with fail;go_ret;exact⟨rfl,aU.out⟩
   obtain⟨x,eP⟩:∃ x,sets[k]?=some x:=⟨_,aQ (by rw[eC.out];exact af)⟩;obtain⟨b,o,c2,s,dv,sv,hA,dB,_,dq,eX,bZ,cx,e0,e1,e2,e3,e4⟩:=mE (qF.out.later az bf dI.out) eP;simp only[Value.slice.injEq] at hA;obtain⟨rfl,-,rfl⟩:=hA;obtain⟨dA,dn,dc,rfl,_,_,_⟩:=aM bZ;obtain⟨gA,gn,gc,rfl,iZ,_,_⟩:=aM cx;have cM:=jq (So.out x (gQ eP));have lR:Hid (k+1<=vn):=jq (by omega);have yd:=jq iZ;have dS:=kNN k;have dp:(k:Int)<(vn:Int):=by omega
   obtain⟨P,hP⟩:=aRZ ws.heap.size;obtain⟨w6,cS⟩:=aRZ (ws.alloc (.cells #[.string s,.int .i64 x.set.type,.int .i64 x.set.life,.slice dA dn dc,.slice gA gn gc] 44));have bh:Below ws.heap.size ws w6:=by rw[<-cS];exact aj _ _
   have z6:w6.heap.size=P+1:=by rw[<-cS,<-hP];simp
   have ef:Hid (w6.heap[P]?=some (.cells [Value.string s,.int .i64 x.set.type,.int .i64 x.set.life,.slice dA dn dc,.slice gA gn gc].toArray 44 (0,0))):=jq (by rw[<-cS,<-hP];exact heap_alloc_new _ _);have gh:=jq (bZ.later br bB bh);have iO:=jq (cx.later cK da bh);have gj:=jq (And.intro dq eX);have aU:=jq (dI.out.trans (bh.mono dI.out.size));have c0:=ae _ ef.out 0 _ rfl;have c1:=ae _ ef.out 1 _ rfl;have c2:=ae _ ef.out 2 _ rfl;have c3:=ae _ ef.out 3 _ rfl;have c4:=ae _ ef.out 4 _ rfl;clear bh dq eX cx bZ eP iZ
   try rw[hP] at cS
   go_wp2_with fail;clear cS
   try rw[hP]
   go_wp2_with fail;clear e0 e1 e2 e3 e4 c0 c1 c2 c3 c4 v3;refine (Qo s x.set.type x.set.life _ _ x.sigs x.set w6 iO.out).mono ?_;rintro e w7 ⟨zn,rfl,⟨rn,dV⟩,bm⟩;have cL:=jq (aU.out.trans (bm.mono aU.out.size));have kF:Hid (zn.data.toList=Np.aE x):=jq rn;have RH:=jq ((bm.block P (by omega)).trans ef.out);have RV:=jq (gh.out.later br bB bm);have T7:=jq (iO.out.later cK da bm);have z7:P+1<=w7.heap.size:=by have:=bm.size;omega
   clear bm rn;have Bm:=jq ((cL.out.block X (by omega)).trans Eu.out);have a0:=ae _ Bm.out 0 _ rfl;have a1:=ae _ Bm.out 1 _ rfl;have a2:=ae _ Bm.out 2 _ rfl;have a3:=ae _ Bm.out 3 _ rfl;go_wp2_with fail;clear a0 a1 a2 a3;refine (PW (.slice A N C) (.slice aA aN aC) known an zn anchor at' dr w7 ((tM.out.keep cL.out).more cL.out.size) (qA.out.later az bf cL.out) fJ.out mj (tz.out.later br bB cL.out) dV).mono ?_;rw[kF.out];have GV:=cM.out.path;have ej:=cM.out.sign;obtain⟨⟨ks,⟨pq,pt⟩,pe⟩,bw⟩:∃ y,Np.ja known anchor (Np.aE x) at' dr=y:=⟨_,rfl⟩;rw[bw] at GV ej |-;clear bw;dsimp only at GV ej;subst GV;obtain⟨⟨ht0,kg,Gx,fw⟩,zw⟩:=Np.ajQ ej;have Rm:=jq zw;clear ej zw;rintro e w8 ⟨kv8,pn,rfl,_,_,Oo,cu⟩;have sW:=Oo.slr;obtain⟨kA,kn,kc,rfl,sY,_,_⟩:=aM sW;have SE:=jq sW;have rP:=jq sY;have cT:=jq (cL.out.trans (cu.mono cL.out.size));have RI:=jq ((cu.block P (by omega)).trans RH.out);have RX:=jq (RV.out.later br bB cu);have T8:=jq (T7.out.later cK da cu);have z8:P+1<=w8.heap.size:=by have:=cu.size;omega
   clear Oo sW sY cu;dsimp only;obtain⟨w9,iF⟩:=aRZ (w8.alloc (.cells #[.string pn,.int .i64 pt] 27));have bM:Below w8.heap.size w8 w9:=by rw[<-iF];exact aj _ _
   have cZ:=jq (cT.out.trans (bM.mono cT.out.size));have vF:=jq ((bM.block P (by omega)).trans RI.out);have JN:=jq (RX.out.later br bB bM);have Ky:=jq (T8.out.later cK da bM);have SF:=jq (SE.out.later ki oZ bM);have z9:P+1<=w9.heap.size:=by have:=bM.size;omega
   clear bM;have c0:=ae _ vF.out 0 _ rfl;have c1:=ae _ vF.out 1 _ rfl;have c2:=ae _ vF.out 2 _ rfl;have c3:=ae _ vF.out 3 _ rfl;have c4:=ae _ vF.out 4 _ rfl;go_wp2_with fail;clear iF;go_wp2_with fail;clear c0 c1 c2 c3 c4;refine (aaJ (.slice A N C) known x s gj.out.1 dA dn dc gA gn gc cM.out.mem w9 (qA.out.later az bf cZ.out) JN.out Ky.out).mono ?_;rintro e w10 ⟨rfl,gF⟩;have qu:=jq (cZ.out.trans (gF.mono cZ.out.size));have RD:=jq ((gF.block P (by omega)).trans vF.out);have z10:P+1<=w10.heap.size:=by have:=gF.size;omega
   have hu:=cM.out.under;unfold Np.aT at hu;simp only[Bool.and_eq_true] at hu;have HU:=jq hu;have SB:=jq (SF.out.later ki oZ gF);have RS:=jq (JN.out.later br bB gF);have T4:=jq (Ky.out.later cK da gF);clear gF hu;go_wp2_with fail;refine (P5 zn dV w10).mono ?_;rintro e w11 ⟨rfl,fR⟩;rw[kF.out,HU.out.2.1];have ni:=jq (qu.out.trans (fR.mono qu.out.size));have JF:=jq ((fR.block P (by omega)).trans RD.out);have z11:P+1<=w11.heap.size:=by have:=fR.size;omega
   have SC:=jq (SB.out.later ki oZ fR);have RT:=jq (RS.out.later br bB fR);have T5:=jq (T4.out.later cK da fR);clear fR;have c0:=ae _ JF.out 0 _ rfl;go_wp2_with fail;clear c0;have s6:s.size<=1000:=by have h:=Np.km HU.out.1;rw[<-gj.out.1,be] at h;omega
   have vf:zn.size<=1000:=by have h:=Np.km HU.out.2.1;rw[<-kF.out,be] at h;omega
   have Ph:zn.data.toList≠[]:=λh=>by rw[kF.out] at h;have h2:=HU.out.2.1;rw[h] at h2;exact absurd h2 (by decide)
   refine (P0 s zn s6 vf w11).mono ?_;rintro e w12 ⟨rfl,pN⟩;rw[Np.vg Ph,gj.out.1,kF.out,HU.out.2.2];have vz:=jq (ni.out.trans (pN.mono ni.out.size));have JG:=jq ((pN.block P (by omega)).trans JF.out);have z12:P+1<=w12.heap.size:=by have:=pN.size;omega
   have SD:=jq (SC.out.later ki oZ pN);have RU:=jq (RT.out.later br bB pN);have T6:=jq (T5.out.later cK da pN);clear pN s6 vf Ph;go_wp2_with fail;go_loopw [20,95] (λov iv wr=>∃ (i:Nat) (ob:Bool),i<=kn/\iv = .int .i64 i/\ov = .bool ob/\Hid (Below w12.heap.size w12 wr)/\Hid (ob=(ks.take i).any λk=>x.sigs.any (Np.kl x.set (Np.aE x) at' dr k))) (λ_ iv _=>kn - (intOf iv).toNat)
   case atStart=>exact⟨0,false,jQ _,rfl,rfl,jq (vQ _ _),jq rfl⟩
   case round=>
    obtain⟨i,ob,hi,rfl,rfl,iI,J8⟩:=hrel;obtain⟨wi,rfl⟩:=aRX wr;have zi:P+1<=wi.heap.size:=by have:=iI.out.size;omega
    by_cases hin:i<kn
    case neg=>
     obtain rfl:i=kn:=by omega
     obtain rfl:ob=true:=by
      have h:=J8.out;rw[kQ (by rw[rP.out];exact bQ _)] at h;rw[h];exact Rm.out
     have Ep:=jq (vz.out.trans (iI.out.mono vz.out.size));go_wp2_with fail;go_roundw
     case rel=>exact⟨k+1,lR.out,by go_num,Ep⟩
     case measure=>have:=lR.out;simp[intOf]<;>omega
    obtain⟨ky,GO⟩:∃ y,ks[i]?=some y:=⟨_,aQ (by rw[rP.out];exact hin)⟩;obtain⟨b7,o7,c7,MY,aYQ,f0,f1⟩:=afY (SD.out.later ki oZ iI.out) GO;simp only[Value.slice.injEq] at MY;obtain⟨rfl,-,rfl⟩:=MY;have SM:=jq GO;have wS:(0:Int)<=(i:Int):=by omega
    have GI:(i:Int)<(kn:Int):=by omega
    obtain⟨K,hK⟩:=aRZ wi.heap.size;obtain⟨w14,oL⟩:=aRZ (wi.alloc (.cells #[.int .i64 ky.n,.int .i64 ky.alg] 53));have oi:Below wi.heap.size wi w14:=by rw[<-oL];exact aj _ _
    have z14:w14.heap.size=K+1:=by rw[<-oL,<-hK];simp
    have RM:Hid (w14.heap[K]?=some (.cells [Value.int .i64 ky.n,.int .i64 ky.alg].toArray 53 (0,0))):=jq (by rw[<-oL,<-hK];exact heap_alloc_new _ _);have eG:=jq (iI.out.trans (oi.mono iI.out.size));have RE:=jq ((eG.out.block P (by omega)).trans JG.out);have zPK:P<K:=by omega
    have c4:=ae _ RE.out 4 _ rfl;clear oi GO
    try rw[hK] at oL
    go_wp2_with fail;clear oL
    try rw[hK]
    go_wp2_with fail;clear c4 f0 f1;go_loopw [20,102] (λov jv wr=>∃ (j:Nat) (ob2:Bool),j<=gn/\jv = .int .i64 j/\ov = .bool ob2/\Hid (Below w14.heap.size w14 wr)/\Hid (ob2=(ob||(x.sigs.take j).any (Np.kl x.set (Np.aE x) at' dr ky)))) (λ_ jv _=>gn - (intOf jv).toNat)
    case atStart=>exact⟨0,ob,jQ _,rfl,rfl,jq (vQ _ _),jq (by simp)⟩
    case round=>
     obtain⟨j,ob2,hj,rfl,rfl,cU,EO⟩:=hrel;obtain⟨wj,rfl⟩:=aRX wr;have zj:K+1<=wj.heap.size:=by have:=cU.out.size;omega
     by_cases zL:j<gn
     case neg=>
      obtain rfl:j=gn:=by omega
      have HE:Hid (ob2=(ks.take (i+1)).any λk=>x.sigs.any (Np.kl x.set (Np.aE x) at' dr k)):=jq (by
       rw[EO.out,Np.Fk SM.out,J8.out,show x.sigs.take j=x.sigs from kQ (by rw[yd.out];exact bQ _)])
      have Ep:=jq (eG.out.trans (cU.out.mono eG.out.size));go_wp2_with fail;go_roundw
      case rel=>exact⟨i+1,ob2,by omega,by go_num,rfl,Ep,HE⟩
      ·simp[intOf]<;>omega
     obtain⟨g,GH⟩:∃ y,x.sigs[j]?=some y:=⟨_,aQ (by rw[yd.out];exact zL)⟩;have Ek:=jq (eG.out.trans (cU.out.mono eG.out.size));obtain⟨b8,o8,c8,z,MZ,aYZ,oN,aaZ,f0,f1,f2,f3,f4,f5⟩:=Iw (T6.out.later cK da Ek.out) GH;simp only[Value.slice.injEq] at MZ;obtain⟨rfl,-,rfl⟩:=MZ;have JT:=jq GH;have B3:=jq (And.intro oN aaZ);have wV:(0:Int)<=(j:Int):=by omega
     have zK:(j:Int)<(gn:Int):=by omega
     obtain⟨G,hG⟩:=aRZ wj.heap.size;obtain⟨w16,mw⟩:=aRZ (wj.alloc (.cells #[.string z,.int .i64 g.key,.int .i64 g.alg,.int .i64 g.frm,.int .i64 g.til,.int .u64 g.sum] 56));have Gi:Below wj.heap.size wj w16:=by rw[<-mw];exact aj _ _
     have z16:w16.heap.size=G+1:=by rw[<-mw,<-hG];simp
     have rM:Hid (w16.heap[G]?=some (.cells [Value.string z,.int .i64 g.key,.int .i64 g.alg,.int .i64 g.frm,.int .i64 g.til,.int .u64 g.sum].toArray 56 (0,0))):=jq (by rw[<-mw,<-hG];exact heap_alloc_new _ _);have pk:=jq (cU.out.trans (Gi.mono cU.out.size));have AY:=jq (Ek.out.trans (Gi.mono Ek.out.size));have Bk:=jq ((AY.out.block P (by omega)).trans JG.out);have JH:=jq ((pk.out.block K (by omega)).trans RM.out);have g0:=ae _ rM.out 0 _ rfl;have g1:=ae _ rM.out 1 _ rfl;have g2:=ae _ rM.out 2 _ rfl;have g3:=ae _ rM.out 3 _ rfl;have g4:=ae _ rM.out 4 _ rfl;have g5:=ae _ rM.out 5 _ rfl;have c0:=ae _ Bk.out 0 _ rfl;have c1:=ae _ Bk.out 1 _ rfl;have c2:=ae _ Bk.out 2 _ rfl;have c3:=ae _ Bk.out 3 _ rfl;have k0:=ae _ JH.out 0 _ rfl;have k1:=ae _ JH.out 1 _ rfl;clear Gi GH oN
     try rw[hG] at mw
     cases ob2 with
     | true=>
      have HT:Hid (true=(ob||(x.sigs.take (j+1)).any (Np.kl x.set (Np.aE x) at' dr ky))):=jq (by
       rw[Np.Fk JT.out,<-Bool.or_assoc,<-EO.out];rfl)
      go_wp2_with fail;clear mw
      try rw[hG]
      go_wp2_with fail;go_roundw
      case rel=>exact⟨j+1,true,by omega,by go_num,rfl,pk,HT⟩
      ·simp[intOf]<;>omega
     | false=>
      have HT:Hid ((ob||(x.sigs.take (j+1)).any (Np.kl x.set (Np.aE x) at' dr ky))=Np.kl x.set (Np.aE x) at' dr ky g):=jq (by
       rw[Np.Fk JT.out,<-Bool.or_assoc,<-EO.out];rfl)
      have xr:IntKind.i64.wrap (at' - dr)=at' - dr:=IntWalk.i64_in _ (by omega);have te:IntKind.i64.wrap (at'+dr)=at'+dr:=IntWalk.i64_in _ (by omega);by_cases h1:g.zone=Np.aE x
      case neg=>
       have Ze:(z.toList == zn.toList)=false:=by rw[dQ,dQ,B3.out.1,kF.out];simpa using h1
       have HF:Hid (false=(ob||(x.sigs.take (j+1)).any (Np.kl x.set (Np.aE x) at' dr ky))):=jq (by rw[HT.out];unfold Np.kl;rw[tQ h1];rfl);clear h1;go_wp2_with fail;clear mw
       try rw[hG]
       go_wp2_with fail;go_roundw
       case rel=>exact⟨j+1,false,by omega,by go_num,rfl,pk,HF⟩
       ·simp[intOf]<;>omega
      have Ze:(z.toList == zn.toList)=true:=by rw[dQ,dQ,B3.out.1,kF.out,h1];simp
      by_cases h2:g.frm<=at' - dr
      case neg=>
       have wB:decide (g.frm<=at' - dr)=false:=tQ h2;have HF:Hid (false=(ob||(x.sigs.take (j+1)).any (Np.kl x.set (Np.aE x) at' dr ky))):=jq (by rw[HT.out];unfold Np.kl;rw[wB];simp);clear h1;go_wp2_with fail;clear mw
       try rw[hG]
       go_wp2_with fail;go_roundw
       case rel=>exact⟨j+1,false,by omega,by go_num,rfl,pk,HF⟩
       ·simp[intOf]<;>omega
      have wB:decide (g.frm<=at' - dr)=true:=uQ h2;by_cases h3:at'+dr<=g.til
      case neg=>
       have wD:decide (at'+dr<=g.til)=false:=tQ h3;have HF:Hid (false=(ob||(x.sigs.take (j+1)).any (Np.kl x.set (Np.aE x) at' dr ky))):=jq (by rw[HT.out];unfold Np.kl;rw[wD];simp);clear h1;go_wp2_with fail;clear mw
       try rw[hG]
       go_wp2_with fail;go_roundw
       case rel=>exact⟨j+1,false,by omega,by go_num,rfl,pk,HF⟩
       ·simp[intOf]<;>omega
      have wD:decide (at'+dr<=g.til)=true:=uQ h3;have HF:Hid ((ob||(x.sigs.take (j+1)).any (Np.kl x.set (Np.aE x) at' dr ky))=Np.pE x.set g ky):=jq (by rw[HT.out];unfold Np.kl;rw[wB,wD,uQ h1];rfl);clear h1;go_wp2_with fail;clear mw
      try rw[hG]
      go_wp2_with fail;clear g0 g1 g2 g3 g4 g5 c0 c1 c2 c3 k0 k1;refine (L4 s gj.out.2 x.set.type x.set.life (.slice dA dn dc) x.set.data z B3.out.2 g.key g.alg g.frm g.til g.sum ky.n ky.alg w16 ((tM.out.keep ((vz.out.trans (AY.out.mono vz.out.size)))).more (vz.out.trans (AY.out.mono vz.out.size)).size) (RU.out.later br bB AY.out)).mono ?_;rintro e w17 ⟨rfl,NP⟩;have hce:Np.yM ⟨s.data.toList,x.set.type,x.set.life,x.set.data⟩ s z g.key g.alg g.frm g.til g.sum ky.n ky.alg=Np.pE x.set g ky:=by
       unfold Np.pE;rw[Fo gj.out.1,Fo B3.out.1,gj.out.1]
      rw[hce];have AX:=jq (pk.out.trans (NP.mono pk.out.size));clear NP hce;obtain⟨rb,GZ⟩:=aRZ (Np.pE x.set g ky);have EV:=jq (HF.out.trans GZ).symm;rw[GZ];clear GZ;go_wp2_with fail;go_roundw
      case rel=>exact⟨j+1,rb,by omega,by go_num,by cases rb<;>rfl,AX,EV⟩
      ·simp[intOf]<;>omega
end
end Go.Proofs.YtadhigmjilijcaaGreatDoor
