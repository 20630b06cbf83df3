/- Parts of the proof. No condition. -/
import Derived.Test.YtfnopgdcaanaiaaGreatDoorM21
set_option linter.all false
set_option maxRecDepth 100000
set_option maxHeartbeats 8000000
namespace Go.Proofs.YtfnopgdcaanaiaaGreatDoor
open Go.Proofs.Tryz
section
open Go.RowKit Go.Shelf
def gD(g n cap q:Nat)(fA:Option Addr)(fn fc cb:Nat)(xf xt:Int)(e12:Value)(e13:Value)(i:Nat):Value:=[.slice (some ⟨g,0,none⟩) n cap,.int .i64 (q:Nat),.slice (some ⟨g,0,none⟩) n cap,.int .i64 (q:Nat),.pointer (some ⟨g,q * 8,none⟩),.pointer (some ⟨g,q * 8+6,none⟩),.slice fA fn fc,.pointer (some ⟨cb,1,none⟩),.int .i64 xf,.pointer (some ⟨cb,2,none⟩),.int .i64 xt,.agg #[.int .i64 xf,.int .i64 xt],e12,e13,.pointer (some ⟨g,q * 8,none⟩),.pointer (some ⟨g,q * 8+6,none⟩),undef].getD i undef
def jH(i:Nat):Nat:=[73,74,75,76,77,78,79,80,81,82,83,84,85,86,87,88,0].getD i 0
def Vx:List Nat:=[0,1,2,3,4,5,6,7,8,9,10,11,14,15,12,13].map jH
theorem oV:∀ i∈[0,1,2,3,4,5,6,7,8,9,10,11,14,15,12,13],jH i<90/\jH i∈Vx:=by decide
theorem rb:∀ i∈[0,1,2,3,4,5,6,7,8,9,10,11,14,15,12,13],∀ j∈[0,1,2,3,4,5,6,7,8,9,10,11,14,15,12,13],j≠i->jH i≠jH j:=by decide
theorem FA{base n:Nat}{w:World}{v:Value}{ps:List Np.Span}(h:aJ base w v ps)(hn:ps.length=n):∃ A c,v = .slice A n c:=by subst hn;exact h.form
theorem Tryz.infoHeldA:(prog.info? 57).map (λi=>(i.zero,i.size,i.bytes))=some (some (.agg #[.string ⟨#[]⟩,.string ⟨#[]⟩,.int .i64 0,.int .i64 0,.slice none 0 0,.slice none 0 0,.slice none 0 0,.slice none 0 0]),8,144):=by kernel_rfl
theorem aJY{a b:Np.Signed}{s t:ByteArray}(hs:s.data.toList=a.set.name)(ht:t.data.toList=b.set.name):decide ((s=t/\a.set.type=b.set.type/\a.set.life=b.set.life/\a.set.data=b.set.data)/\a.sigs=b.sigs)=decide (a=b):=by
 obtain⟨⟨n1,t1,l1,d1⟩,g1⟩:=a;obtain⟨⟨n2,t2,l2,d2⟩,g2⟩:=b;dsimp only at hs ht;have e:s=t↔n1=n2:=⟨λh=>by rw[<-hs,<-ht,h],λh=>j9 (by rw[hs,ht,h])⟩;simp only[e,Np.Signed.mk.injEq,Np.DSet.mk.injEq]
def psK(l:List Np.Copy)(zone:List UInt8)(x:Np.Copy)(j:Nat):List (Np.Span×Np.Signed):=Np.cX l zone++(x.zone.sets.take j).map λs=>(Np.j8 x,s)
theorem K1{l:List Np.Copy}{zone:List UInt8}{x:Np.Copy}{j:Nat}(h:(x.zone.apex=zone/\j=x.zone.sets.length)\/(x.zone.apex≠zone/\j=0)):psK l zone x j=Np.cX (l ++ [x]) zone:=by
 unfold psK;rw[Np.FB];congr 1;unfold Np.cX Np.tY Np.oe;rcases h with ⟨h1,rfl⟩ | ⟨h1,rfl⟩
 ·rw[List.take_length];simp[h1]
 ·have:(x.zone.apex == zone)=false:=by simpa using h1
  simp[this]
theorem atQ{l:List Np.Copy}{zone:List UInt8}{x:Np.Copy}{j:Nat}{s:Np.Signed}(h:x.zone.sets[j]?=some s):psK l zone x (j+1)=psK l zone x j ++ [(⟨x.frm,x.til⟩,s)]:=by
 obtain⟨hl,he⟩:=cQ.1 h;unfold psK;rw[fQ hl,he,List.map_append,List.append_assoc];rfl
theorem asY{l:List Np.Copy}{zone:List UInt8}{x:Np.Copy}{k j:Nat}(h:l[k]?=some x)(ha:x.zone.apex=zone):(psK (l.take k) zone x j).length<=(Np.cX l zone).length:=by
 obtain⟨hl,he⟩:=cQ.1 h;have h1:(psK (l.take k) zone x j).length<=(psK (l.take k) zone x x.zone.sets.length).length:=by
  unfold psK;simp only[List.length_append,List.length_map,List.length_take];omega
 rw[K1 (.inl ⟨ha,rfl⟩),show l.take k ++ [x]=l.take (k+1) by rw[fQ hl,he]] at h1;have h2:(Np.cX (l.take (k+1)) zone).length<=(Np.cX l zone).length:=by
  conv => rhs;rw[<-List.take_append_drop (k+1) l,Np.FB]
  rw[List.length_append];omega
 omega
theorem asX{l:List Np.Copy}(hf:Np.ot l){zone:List UInt8}{x:Np.Copy}{k j:Nat}(h:l[k]?=some x):Dh (psK (l.take k) zone x j):=λp hp=>by
 rcases List.mem_append.1 hp with hp | hp
 ·obtain⟨c,hc,_,_,h3⟩:=Np.uS.1 hp;rw[h3];exact hf c (List.mem_of_mem_take hc)
 ·obtain⟨s,_,rfl⟩:=List.mem_map.1 hp;exact hf x (gQ h)
theorem VE(B:Nat)(e:List Value)(h:Np.Hist)(hf:Np.ot h.copies)(h5:h.copies.length<=500)(z:ByteArray)(hz:z.size<=140737488355328)(hp:(Np.cX h.copies z.data.toList).length<=5000)(cx:∀ c∈h.copies,c.zone.sets.length<=20000)(w:World)(hB:B<=w.heap.size)(hh:gC w B e h) :
 Calls prog 144 #[.agg e.toArray,.string z] w λe w'=>∃ v',e = .returned v'/\il db 8 B w.heap.size w' v' (Np.pub h.copies z.data.toList)/\Below w.heap.size w w':=by
 obtain⟨hv,cv,s,dv,dU,rfl,_,_,h3,h4,h5',h6⟩:=hh;obtain⟨hosts,copies,⟨name,ty,life,data⟩,hints,drift,stop⟩:=h;dsimp only at h3 h4 h5' h6 h5 hf hp cx |-;have HD:=jq h4;obtain⟨A1,c1,rfl,_,_⟩:=ak h3;obtain⟨A2,c2,rfl,_,_⟩:=ak h4;obtain⟨A3,c3,rfl,_,_⟩:=ak h5';obtain⟨A4,c4,rfl,_,_⟩:=ak h6;clear h3 h4 h5' h6;obtain⟨n1,bP⟩:=acJ hosts.length;obtain⟨n2,cr⟩:=acJ copies.length;obtain⟨n3,eu⟩:=acJ data.length;obtain⟨n4,eP⟩:=acJ hints.length;rw[bP,cr,eu,eP];rw[cr] at HD h5;have GS:=jq hf;have nv:=jq hp;have UZ:=jq cx;clear hf hp cx;have da:=jq cr;clear bP cr eu eP;obtain⟨X,hX⟩:=acJ w.heap.size;obtain⟨W1,am⟩:=acJ (w.alloc (.cells #[.slice A1 n1 c1,.slice A2 n2 c2,.string s,.int .i64 ty,.int .i64 life,.slice A3 n3 c3,.slice A4 n4 c4,.int .i64 drift,.int .i64 stop] 29));have aI:Below w.heap.size w W1:=by rw[<-am];exact (vQ _ _).alloc (bQ _) _
 have iS:W1.heap.size=w.heap.size+1:=by rw[<-am];simp
 have k1:W1.cell? ⟨X,1,none⟩=some (.slice A2 n2 c2):=by rw[<-am,<-hX];simp[go_sem]
 rw[hX] at aI iS hB |-;have aV:=jq aI;clear aI;obtain⟨i0,la,fk,bd,aN⟩:=info_parts Tryz.infoHeldA;obtain⟨zone,KJ⟩:=acJ z.data.toList;rw[KJ] at nv |-;have tS:=jq KJ;clear KJ;go_enter func144,ntmps144;go_wp2_with fail;clear am hX;go_loopw [5,6] (λvo i wr=>∃ (k n:Nat),k<=n2/\i = .int .i64 k/\X<wr.heap.size/\Hid (Below (X+1) W1 wr)/\∃ (hs:List Np.Held) (M:Nat->Prop),hs.length=n/\Hid (br db 8 57 (X+1) M wr vo hs)/\Hid (hs=hsN zone (Np.cX (copies.take k) zone))/\Hid (∀ g,M g->B<=g/\g<wr.heap.size)/\Hid (∀ g,B<=g->g<X->M g)) (λ_ i _=>n2 - (intOf i).toNat)
 case atStart=>exact⟨0,0,jQ _,rfl,by omega,jq (vQ _ _),[],λg=>B<=g/\g<X,rfl,jq (br.nil _),jq (by rw[List.take_zero];rfl),jq (λg h=>⟨h.1,by omega⟩),jq (λg h1 h2=>⟨h1,h2⟩)⟩
 case round=>
  obtain⟨k,n0,hk,rfl,y7,bG,ij,M0,lM,Hn,tF,MG,ME⟩:=hrel;have HB:=acZ aV bG.out;have q1:=aaJ bG.out k1;by_cases ab:k<n2
  ·obtain⟨x,aa⟩:∃ x,copies[k]?=some x:=⟨_,aQ (by rw[da.out];exact ab)⟩;obtain⟨b,o,sn,vz,rfl,bA,aw,cB,fJ,f0,f1,f2,f3,f4⟩:=t8 (HD.out.keep mp (HB.out.mono hB)) aa;have kk:=jq fJ;obtain⟨Az,cz,rfl,_,_⟩:=ak fJ;obtain⟨xn,xN⟩:=acJ x.zone.sets.length;rw[xN] at f4 kk;have Bb:=jq xN;have abY:xn<=20000:=by rw[<-xN];exact UZ.out x (gQ aa)
   have aT:=jq (And.intro aw cB);have lW:=jq aa;have Ar:Hid (x.frm<x.til):=jq (GS.out x (gQ aa));have bJ:(0:Int)<=(k:Int):=by omega
   have bI:(k:Int)<(n2:Int):=by omega
   obtain⟨cb,eG⟩:=acJ wr.heap.size;have L9:=jq eG;obtain⟨w2,aj⟩:=acJ (wr.alloc (.cells #[.int .i64 x.host,.int .i64 x.frm,.int .i64 x.til,.string sn,.slice Az xn cz] 46));have Fj:w2.heap.size=cb+1:=by rw[<-aj,<-eG];simp
   have ac:Below wr.heap.size wr w2:=by rw[<-aj];exact (vQ _ _).alloc (bQ _) _
   have p1:w2.cell? ⟨cb,1,none⟩=some (.int .i64 x.frm):=by rw[<-aj,<-eG];simp[go_sem]
   have p2:w2.cell? ⟨cb,2,none⟩=some (.int .i64 x.til):=by rw[<-aj,<-eG];simp[go_sem]
   have p3:w2.cell? ⟨cb,3,none⟩=some (.string sn):=by rw[<-aj,<-eG];simp[go_sem]
   have p4:w2.cell? ⟨cb,4,none⟩=some (.slice Az xn cz):=by rw[<-aj,<-eG];simp[go_sem]
   have ai:=acZ bG ac;have eS:=jq (Hn.out.keep eY fp eZ ac);have Us:Hid (∀ g,M0 g->B<=g/\g<w2.heap.size):=jq (λg hg=>by have:=MG.out g hg;omega);have a2Q:X<cb:=by omega
   obtain⟨ap,sF⟩:=acJ (sn.toList == z.toList);have LX:Hid (ap=true↔x.zone.apex=zone):=jq (by rw[<-sF,dQ,dQ,aT.out.1,tS.out];simp);have TA:=jq ac;clear aa aw fJ xN cB ac eG;go_wp2_with fail;rw[L9.out];clear aj f0 f1 f2 f3 f4;obtain⟨wo,rfl⟩:=acY wr;go_loopw [5,8] (λvo i wr=>∃ (j n:Nat),j<=xn/\i = .int .i64 j/\(¬ x.zone.apex=zone->j=0)/\w2.heap.size<=wr.heap.size/\Hid (Below (X+1) w2 wr)/\Hid (wr.heap[cb]?=w2.heap[cb]?)/\∃ (hs:List Np.Held) (M:Nat->Prop),hs.length=n/\Hid (br db 8 57 (X+1) M wr vo hs)/\Hid (hs=hsN zone (psK (copies.take k) zone x j))/\Hid (∀ g,M g->(B<=g/\g≠cb)/\g<wr.heap.size)/\Hid (∀ g,B<=g->g<X->M g)) (λ_ i _=>xn - (intOf i).toNat)
   case atStart=>exact⟨0,n0,jQ _,rfl,λ_=>rfl,bQ _,jq (vQ _ _),jq rfl,ij,M0,lM,eS,jq (by rw[tF.out];unfold psK;simp),jq (λg hg=>by have h1:=MG.out g hg;have h2:=Us.out g hg;have h3:=L9.out;omega),ME⟩
   case round=>
    obtain⟨j,n,hj,rfl,jM,QR,cw,yo,hs,M,hn,oJ,vw,rZ,Dz⟩:=hrel;have r1:=(iQ (a:=⟨cb,1,none⟩) yo.out).trans p1;have r2:=(iQ (a:=⟨cb,2,none⟩) yo.out).trans p2;have r3:=(iQ (a:=⟨cb,3,none⟩) yo.out).trans p3;have r4:=(iQ (a:=⟨cb,4,none⟩) yo.out).trans p4
    cases ap with
    | false=>
     have r9:Hid (¬ x.zone.apex=zone):=jq (λh=>by have:=LX.out.2 h;cases this);have Za:=jM r9.out;subst Za;go_wp2_with fail;go_roundw
     case measure=>simp[intOf] <;> omega
     case rel=>exact⟨k+1,n,by omega,by go_num,by omega,jq (ai.out.trans cw.out),hs,M,hn,oJ,jq (by
      rw[vw.out,K1 (.inr ⟨r9.out,rfl⟩)];obtain⟨hl,he⟩:=cQ.1 lW.out;rw[fQ hl,he]),jq (λg hg=>by have:=rZ.out g hg;omega),Dz⟩
    | true=>
     have oy:Hid (x.zone.apex=zone):=jq (LX.out.1 rfl);by_cases pb:j<xn
     ·obtain⟨sg,jU⟩:∃ sg,x.zone.sets[j]?=some sg:=⟨_,aQ (by rw[Bb.out];exact pb)⟩;have yD:=jq (atQ (l:=copies.take k) (zone:=zone) jU);have DI:=jq jU;have kh:Hid ((psK (copies.take k) zone x j).length<=5000):=jq (by have:=asY (j:=j) lW.out oy.out;have:=nv.out;omega);have AJ:Hid (Dh (psK (copies.take k) zone x j)):=jq (asX GS.out lW.out);have EY:n<=5000:=by rw[<-hn,vw.out];have:=Qt zone (psK (copies.take k) zone x j);have:=kh.out;omega
      have cO:=jq hn;have a5K:(0:Int)<=(j:Int):=by omega
      have a5X:(j:Int)<(xn:Int):=by omega
      clear jU hn;go_wp2_with fail;obtain⟨wi,rfl⟩:=acY wr;go_loopw [9] (λi wr=>∃ q:Nat,q<=n/\i = .int .i64 q/\Hid (Below wi.heap.size wi wr)/\Hid (∀ y∈hs.take q,y.signed≠sg)) (λi _=>n - (intOf i).toNat)
      case atStart=>exact⟨0,jQ _,rfl,jq (vQ _ _),jq (by simp)⟩
      case round=>
       obtain⟨q,hq,rfl,iA,qU⟩:=hrel;have hzq:=iA.out.size;have s1:=aaJ iA.out r1;have s2:=aaJ iA.out r2;have s3:=aaJ iA.out r3;have s4:=aaJ iA.out r4;have Hu:=jq (oJ.out.keep eY fp eZ iA.out);have DP:Hid (Below X wo wr):=jq ((TA.out.adZ).trans ((cw.out.adZ).trans (iA.out.adZ)));have jT:(0:Int)<=(q:Int):=by omega
       by_cases nX:q<n
       ·obtain⟨y,hy⟩:∃ y,hs[q]?=some y:=⟨_,aQ (by rw[cO.out];exact nX)⟩;obtain⟨g,cap,rfl,rt,uk,qh⟩:=oJ.out.formSome cO.out (by omega);obtain⟨zc,sy,dvy,svy,fvy,pvy,KH,gk,B5,dR,uj,a1,a2,a3,a4,a5,a6⟩:=Pw Hu.out (by rw[cO.out];omega) hy;obtain⟨b',o',c',ss,dvs,svs,hA,hb',_,eW,_,wK,wO,e0,e1,e2,e3,e4⟩:=fE (kk.out.keep bj (DP.out.mono hB)) DI.out;simp only[Value.slice.injEq] at hA;obtain⟨rfl,-,rfl⟩:=hA;have gZ:(q:Int)<(n:Int):=by omega
        have HY:=jq hy;have Mc:=jq B5;have Mi:=jq dR;have Ak:=jq wK;have At:=jq wO;have GU:=jq uj;have tO:=jq gk;have gR:=jq eW;obtain⟨dA,dc,rfl,_,_⟩:=ak B5;obtain⟨gA,gc,rfl,_,_⟩:=ak dR;obtain⟨dB,dd,rfl,_,_⟩:=ak wK;obtain⟨gB,gd,rfl,_,_⟩:=ak wO;obtain⟨fA,fc,rfl,_,_⟩:=ak uj;obtain⟨dn,lJ⟩:=acJ y.signed.set.data.length;obtain⟨gn,eH⟩:=acJ y.signed.sigs.length;obtain⟨dm,B3⟩:=acJ sg.set.data.length;obtain⟨gm,Ca⟩:=acJ sg.sigs.length;obtain⟨fn,gj⟩:=acJ y.fresh.length;rw[lJ] at a4 Mc;rw[eH] at a5 Mi;rw[B3] at e3 Ak;rw[Ca] at e4 At;rw[gj] at a6 GU;obtain⟨bb,dP⟩:=acJ (decide (y.signed=sg));have Cb:g<wr.heap.size:=by omega
        have a3Y:cb<wr.heap.size:=by omega
        have Yq:b'<wr.heap.size:=by omega
        have k9:∀ (gr:bk wr) (p:Addr),p.block<wr.heap.size->gr.w.cell? p=wr.cell? p:=λgr p h=>gr.cell p h;have bL:∀ gr:bk wr,Calls prog 20 #[.agg #[.string sy,.int .i64 y.signed.set.type,.int .i64 y.signed.set.life,.slice dA dn dc,.slice gA gn gc],.agg #[.string ss,.int .i64 sg.set.type,.int .i64 sg.set.life,.slice dB dm dd,.slice gB gm gd]] gr.w λe w'=>e = .returned (.bool bb)/\Below gr.w.heap.size gr.w w':=λgr=>
         (FU sy ss _ _ _ _ _ _ _ _ y.signed.set.data sg.set.data y.signed.sigs sg.sigs gr.w (Mc.out.later bV cu gr.below) (((Ak.out.more cu (by omega)).later bV cu gr.below)) (Mi.out.later cg cY gr.below) (((At.out.more cY (by omega)).later cg cY gr.below))).mono λe w' h=>⟨by rw[h.1,<-dP,aJY tO.out gR.out],h.2⟩
        have jC:=jq bL;have L1:=jq dP;clear bL hy KH gk B5 dR uj eW wK wO lJ eH B3 Ca gj dP
        cases bb with
        | false=>
         go_wp2_with fail;refine a0Z ?_
         repeat (go_big_quiet_step ((go_at_call 20;exact Calls.grow_of (jC.out _))))
         refine wpQuiet_nil ?_;rintro _ ⟨gr,rfl⟩;go_wp2_with fail;go_roundw
         case measure=>simp[intOf] <;> omega
         case rel=>exact⟨q+1,by omega,by go_num,acZ iA gr.below,jq (λy' hy'=>by
          obtain⟨hl,he⟩:=cQ.1 HY.out;rw[fQ hl,he] at hy';rcases List.mem_append.1 hy' with h | h
          ·exact qU.out y' h
          ·rw[List.mem_singleton] at h;subst h;exact of_decide_eq_false L1.out)⟩
        | true=>
         have Vi:Hid (y.signed=sg):=jq (of_decide_eq_true L1.out);have E8:((q:Int) == (n:Int))=false:=by simp;omega
         have bbQ:decide (q=n)=false:=by simp;omega
         have bbZ:¬ q=n:=by omega
         go_wp2_with fail;refine a0Z ?_
         repeat (go_big_quiet_step ((go_at_call 20;exact Calls.grow_of (jC.out _))))
         refine wpQuiet_nil ?_;rintro _ ⟨gr,rfl⟩;have fS:=gr.below;obtain⟨wG,CO⟩:=acJ gr.w;rw[CO] at fS |-;have QP:=fS.size;have f6:=aaJ fS a6;have c1:=aaJ fS s1;have c2:=aaJ fS s2;obtain⟨M2,sC⟩:=acY M;obtain⟨dW,o7⟩:=acY hs;have Hs:Hid (br db 8 57 (X+1) M2 wG (.slice (some ⟨g,0,none⟩) n cap) dW):=jq (by rw[sC,o7];exact Hu.out.keep eY fp eZ fS);have HY:Hid (dW[q]?=some y):=jq (by rw[o7];exact HY.out);have cO:Hid (dW.length=n):=jq (by rw[o7];exact cO.out);obtain⟨fr,dZ⟩:=acJ y.fresh;rw[dZ] at GU;have yq:=jq ((GU.out.keep eE fS).more jk QP);have yz:Hid (∀ g',M2 g'->(B<=g'/\g'≠cb)/\g'<wG.heap.size):=jq (λg' hg'=>by rw[sC] at hg';have:=rZ.out g' hg';omega);have Hd:Hid (∀ g',B<=g'->g'<X->M2 g'):=jq (λg' h1 h2=>by rw[sC];exact Dz.out g' h1 h2);have KD:(hsN zone (psK (copies.take k) zone x j))[q]?=some y:=by rw[<-vw.out,<-o7];exact HY.out
         have ni:Hid (fr.length<=10000/\Np.pC fr):=jq (by
          have h1:=(Qs KD).1;have h2:fr=Np.bT (Np.fd (psK (copies.take k) zone x j) y.signed):=by rw[<-dZ,h1]
          rw[h2];exact⟨by have:=rG (Np.fd (psK (copies.take k) zone x j) y.signed);have:=Lw (psK (copies.take k) zone x j) y.signed;have:=kh.out;omega,(Np.xS (zN AJ.out _)).1.full⟩)
         have jl:Hid (dW.set q ⟨y.zone,y.signed,Np.bT (fr ++ [⟨x.frm,x.til⟩]),y.spans⟩=hsN zone (psK (copies.take k) zone x j ++ [(⟨x.frm,x.til⟩,sg)])):=jq (by
          rw[o7,vw.out,<-Vi.out,<-ZO AJ.out KD Ar.out,dZ])
         have Gr:Hid (Below wi.heap.size wi wG):=acZ iA fS;have GD:Hid (wG.heap[cb]?=wi.heap[cb]?):=jq ((fS.block cb (by omega)).trans (iA.out.block cb (by omega)));have YT:g≠cb:=λe=>(rZ.out g qh).1.2 e;clear fS CO sC o7 dZ KD a1 a2 a3 a4 a5 a6 e0 e1 e2 e3 e4 s1 s2 s3 s4 k9;go_wp2_with fail;refine De λa0 bw=>?_;have jA:=jq bw;have vm:=jq (show a0.eval (.tmp 5) = .slice (some ⟨g,0,none⟩) n cap by rw[bw];rfl);have ox:=jq (show a0.eval (.tmp 7) = .pointer (some ⟨cb,0,none⟩) by rw[bw];rfl);have lU:=jq (show a0.eval (.tmp 9) = .int .i64 (q:Nat) by rw[bw];rfl);have HM:=jq (show a0.tmps.size=90 by rw[bw];rfl);clear bw;refine wp_region_any (by kernel_rfl) ?_;refine gl 12 (D:=[0,1,2,3,4,5,6,7,8,9,10,11,14,15]) (val:=gD g n cap q fA fn fc cb x.frm x.til undef undef) oV rb (rr HM.out) (by kernel_rfl) ?_ ?_
         ·intro i aR bS o ho a' hb aP;have k5':=aZJ hb vm.out;have k7':=aZJ hb ox.out;have k9':=aZJ hb lU.out;simp[Act.eval] at k5' k7' k9'
          repeat' (rcases aR with _ | ⟨_,aR⟩)
          all_goals first
           | (exfalso;simp at bS;done)
           | (cases ho
              try simp[Act.eval,Region.binds,gD,jH] at aP
              refine gv (by simp[Region.wanted]) ?_;simp[Oper.quietAt,Oper.quietUpon,execOp,go_sem,gD,k5',k7',k9',f6,c1,c2,jT,gZ,aP])
         ·intro f listed a' hH hr hv;have av11:=hv 11;simp[Act.eval,gD,jH] at av11;simp only[wpOp];simp[Region.wanted];refine .inl ?_;simp[Oper.wp,execOp,go_sem,av11];obtain⟨wA,fz⟩:=acY ((wG.alloc (.cells #[.int .i64 x.frm,.int .i64 x.til] 110)).drew);rw[<-fz];have dI:Below wG.heap.size wG wA:=by rw[fz];exact ((vQ _ _).alloc (bQ _) _).drew
          have CR:wA.heap.size=wG.heap.size+1:=by rw[fz];simp[World.drew]
          have Ie:Hid (SlR cT 2 wA wA.heap.size (.slice (some ⟨wG.heap.size,0,none⟩) 1 1) [⟨x.frm,x.til⟩]):=jq (Sw (by omega) (by rw[fz];simp[go_sem]) (by rw[fz];simp[go_sem]));replace f6:=aaJ dI f6;replace c1:=aaJ dI c1;replace c2:=aaJ dI c2;have se:=jq (Hs.out.keep eY fp eZ dI);have GR:=jq ((yq.out.keep eE dI).more jk dI.size);have dY:=jq dI;clear fz dI;refine gl 13 (D:=[0,1,2,3,4,5,6,7,8,9,10,11,14,15,12]) (val:=gD g n cap q fA fn fc cb x.frm x.til (.slice (some ⟨wG.heap.size,0,none⟩) 1 1) undef) oV rb (hH.next oV rb hr) (by kernel_rfl) ?_ ?_
          ·intro i aR bS o ho a' hb aP;have k5':=aZJ hb vm.out;have k7':=aZJ hb ox.out;have k9':=aZJ hb lU.out;simp[Act.eval] at k5' k7' k9'
           repeat' (rcases aR with _ | ⟨_,aR⟩)
           all_goals first
            | (exfalso;simp at bS;done)
            | (cases ho
               try simp[Act.eval,Region.binds,gD,jH] at aP
               refine gv (by simp[Region.wanted]) ?_;simp[Oper.quietAt,Oper.quietUpon,execOp,go_sem,gD,k5',k7',k9',f6,c1,c2,jT,gZ,aP])
          ·intro f listed a' hH hr hv;have av6:=hv 6;have av12:=hv 12;simp[Act.eval,gD,jH] at av6 av12;simp only[wpOp];simp[Region.wanted];refine .inl ?_;simp[Oper.wp,go_sem,av6,av12];refine (Ov _ _ fr [⟨x.frm,x.til⟩] ni.out.1 (by simp) ni.out.2 (λs hs=>by rw[List.mem_singleton] at hs;subst hs;exact Ar.out) wA GR.out Ie.out).mono ?_;rintro e wB ⟨vB,rfl,sX,bA⟩;have Fk:=bA.size;replace f6:=aaJ bA f6;replace c1:=aaJ bA c1;replace c2:=aaJ bA c2;have GM:Hid (∀ g,vB.ownBlock=some g->wA.heap.size<=g):=jq (λg hg=>(sX.lt g hg).1);obtain⟨em,hem⟩:=acJ ((Np.bT (fr ++ [⟨x.frm,x.til⟩])).length);have bU:em<=20000:=by rw[<-hem];have:=rG (fr ++ [⟨x.frm,x.til⟩]);have:=ni.out.1;rw[List.length_append] at *;simp at *;omega
           obtain⟨eA,ec,rfl⟩:=FA sX hem;have GP:Hid (aJ wA.heap.size wB (.slice eA em ec) (Np.bT (fr ++ [⟨x.frm,x.til⟩]))):=jq sX;have HEM:=jq hem;have g9:=jq (se.out.keep eY fp eZ bA);have fX:=jq bA;clear sX bA hem;dsimp only;refine gl 16 (D:=[0,1,2,3,4,5,6,7,8,9,10,11,14,15,12,13]) (val:=gD g n cap q fA fn fc cb x.frm x.til (.slice (some ⟨wG.heap.size,0,none⟩) 1 1) (.slice eA em ec)) oV rb (hH.next oV rb hr) (by kernel_rfl) ?_ ?_
           ·intro i aR bS o ho a' hb aP;have k5':=aZJ hb vm.out;have k7':=aZJ hb ox.out;have k9':=aZJ hb lU.out;simp[Act.eval] at k5' k7' k9'
            repeat' (rcases aR with _ | ⟨_,aR⟩)
            all_goals first
             | (exfalso;simp at bS;done)
             | (cases ho
                try simp[Act.eval,Region.binds,gD,jH] at aP
                refine gv (by simp[Region.wanted]) ?_;simp[Oper.quietAt,Oper.quietUpon,execOp,go_sem,gD,k5',k7',k9',f6,c1,c2,jT,gZ,aP])
           ·intro f listed a' hH hr hv;have av13:=hv 13;have av15:=hv 15;simp[Act.eval,gD,jH] at av13 av15;simp only[wpOp];simp[Region.wanted];refine .inl ?_;have ff:wB.frozen? ⟨g,q * 8+6,none⟩=false:=g9.out.frozenAt cO.out _;simp[Oper.wp,execOp,go_sem,av13,av15,f6,ff];refine tv hH hr HM.out oV (by kernel_rfl) λdZ=>?_
            ·rw[dZ,jA.out];simp[lp,Act.put,gD,jH];clear hv hH dZ;clear f6 c1 c2 ff;have du:Hid (br db 8 57 (X+1) M2 (wB.setCell ⟨g,q * 8+6,none⟩ (.slice eA em ec)) (.slice (some ⟨g,0,none⟩) n cap) (dW.set q ⟨y.zone,y.signed,Np.bT (fr ++ [⟨x.frm,x.til⟩]),y.spans⟩)):=jq (by
              refine br.stored eY fp eZ g9.out cO.out HY.out (by omega) _ (λr hr hR=>R6 hR ?_);have h1:aJ wA.heap.size (bF wB M2) (.slice eA em ec) (Np.bT (fr ++ [⟨x.frm,x.til⟩])):=gN GP.out (λk hk=>kF (λhm=>by have h2:=GM.out k hk;have h3:=yz.out k hm;omega));have h4:=h1.slr (by rw[HEM.out];omega);rw[j6] at h4;exact h4)
             have GC:Hid ((wB.setCell ⟨g,q * 8+6,none⟩ (.slice eA em ec)).heap[cb]?=wG.heap[cb]?):=jq ((wQ _ _ _ cb (by dsimp only;omega)).trans ((fX.out.block cb (by omega)).trans (dY.out.block cb (by omega))));have iz:Hid (Below (X+1) wG (wB.setCell ⟨g,q * 8+6,none⟩ (.slice eA em ec))):=jq ((((dY.out.adZ).trans (fX.out.adZ))).setCell (by dsimp only;omega) _);go_wp2_with fail;go_roundw
             case measure=>simp[intOf] <;> omega
             case rel=>
              exact⟨j+1,n,by omega,by go_num,λha=>absurd oy.out ha,by have:=iz.out.size;omega,jq (cw.out.trans ((Gr.out.adZ).trans iz.out)),jq (GC.out.trans (GD.out.trans yo.out)),_,M2,by rw[List.length_set];exact cO.out,jq du.out,jq (by rw[yD.out];exact jl.out),jq (λg' hg=>by have:=yz.out g' hg;have:=iz.out.size;omega),Hd⟩
       ·obtain rfl:q=n:=by omega
        have U5:Hid (∀ y∈hs,y.signed≠sg):=jq (λy hy=>qU.out y (by rw[kQ (by rw[cO.out];exact bQ _)];exact hy));obtain⟨uA,uc,rfl⟩:=oJ.out.formN cO.out;obtain⟨b',o',c',ss,dvs,svs,hA,hb',_,eW,CG,wK,wO,e0,e1,e2,e3,e4⟩:=fE (kk.out.keep bj (DP.out.mono hB)) DI.out;simp only[Value.slice.injEq] at hA;obtain⟨rfl,-,rfl⟩:=hA;have Ak:=jq wK;have At:=jq wO;have gR:=jq (And.intro eW CG);obtain⟨dB,dd,rfl,_,_⟩:=ak wK;obtain⟨gB,gd,rfl,_,_⟩:=ak wO;obtain⟨dm,B3⟩:=acJ sg.set.data.length;obtain⟨gm,Ca⟩:=acJ sg.sigs.length;rw[B3] at e3 Ak;rw[Ca] at e4 At;have gu:decide (q<q)=false:=by simp
        have k9:∀ (gr:bk wr) (p:Addr),p.block<wr.heap.size->gr.w.cell? p=wr.cell? p:=λgr p h=>gr.cell p h;clear wK wO B3 Ca eW CG;go_wp2_with fail;refine a0Z ?_
        repeat (go_big_quiet_step (fail))
        refine wpQuiet_nil ?_;rintro _ ⟨gr,rfl⟩;have fS:=gr.below;obtain⟨wG,CO⟩:=acJ gr.w;rw[CO] at fS |-;have QP:=fS.size;replace e0:=aaJ fS e0;replace e1:=aaJ fS e1;replace e2:=aaJ fS e2;replace e3:=aaJ fS e3;replace e4:=aaJ fS e4;have t1:=aaJ fS s1;have t2:=aaJ fS s2;have t4:=aaJ fS s4;have UB:=jq (Hu.out.keep eY fp eZ fS);have Vf:Hid (Below X wr wG):=jq (fS.adZ);have TX:Hid (wG.heap[cb]?=wi.heap[cb]?):=jq ((fS.block cb (by omega)).trans (iA.out.block cb (by omega)));have Tu:Hid (Below wi.heap.size wi wG):=acZ iA fS;obtain⟨wS,Ff⟩:=acJ (wG.alloc (.cells #[.string z,.string ss,.int .i64 sg.set.type,.int .i64 sg.set.life,.slice dB dm dd,.slice gB gm gd,.slice none 0 0,.slice none 0 0] 57));have hzS:wS.heap.size=wG.heap.size+1:=by rw[<-Ff];simp
        have EG:Below wG.heap.size wG wS:=by rw[<-Ff];exact (vQ _ _).alloc (bQ _) _
        have iU:Hid (eh wS wG.heap.size 0 [.string z,.string ss,.int .i64 sg.set.type,.int .i64 sg.set.life,.slice dB dm dd,.slice gB gm gd,.slice none 0 0,.slice none 0 0]):=jq (λi v hi=>by
         rw[<-Ff]
         match i,hi with
         | 0,hi=>cases hi;simp[go_sem]
         | 1,hi=>cases hi;simp[go_sem]
         | 2,hi=>cases hi;simp[go_sem]
         | 3,hi=>cases hi;simp[go_sem]
         | 4,hi=>cases hi;simp[go_sem]
         | 5,hi=>cases hi;simp[go_sem]
         | 6,hi=>cases hi;simp[go_sem]
         | 7,hi=>cases hi;simp[go_sem]
         | i+8,hi=>simp at hi)
        have l3:Hid (db (bF wS M) wS.heap.size [.string z,.string ss,.int .i64 sg.set.type,.int .i64 sg.set.life,.slice dB dm dd,.slice gB gm gd,.slice none 0 0,.slice none 0 0] ⟨zone,sg,[],[]⟩):=jq (by
         have l6:Below B wr wS:=(Vf.out.trans (EG.adZ)).mono hB;exact⟨z,ss,_,_,_,_,rfl,tS.out,hz,gR.out.1,gR.out.2,SlR.around (Ak.out.keep bV l6) bV cu (λg' hg'=>by have:=rZ.out g' hg';omega) (by omega),SlR.around (At.out.keep cg l6) cg cY (λg' hg'=>by have:=rZ.out g' hg';omega) (by omega),⟨none,0,rfl,bQ _,by simp,λi x h=>by simp at h⟩,⟨none,0,rfl,bQ _,by simp,λi x h=>by simp at h⟩⟩)
        have AI:=jq (UB.out.keep eY fp eZ EG);have ft:=jq EG;have Ng:Hid (∀ k,(Value.slice uA q uc).ownBlock=some k->M k):=jq (by obtain⟨_,_,_,h3,_⟩:=oJ.out;exact h3);clear fS CO s1 s2 s3 s4 k9 EG;go_wp2_with (first
         | (at_builtin;refine Dd (R:=db) (M:=M) wS rfl _ _ 52 rfl (X+1) 57 i0 (.agg #[.string ⟨#[]⟩,.string ⟨#[]⟩,.int .i64 0,.int .i64 0,.slice none 0 0,.slice none 0 0,.slice none 0 0,.slice none 0 0]) 144 underlying52 la fk bd aN rfl (by decide) (.slice uA q uc) hs rfl AI.out (some ⟨wG.heap.size,0,none⟩) 1 [⟨zone,sg,[],[]⟩] rfl (C4 rfl l3.out iU.out) Lc (by rw[cO.out];simp[maxLen];omega) (by rw[cO.out];simp;omega) (by omega) eY fp eZ ?_;intro v8 w8 eV dw iN;have H8:=jq (And.intro eV (And.intro dw iN));have HF8:=jq (eV.formN (n:=q+1) (by rw[List.length_append,cO.out];rfl));clear eV dw iN))
        have aYX:=ft.out.size;have n7:=H8.out.2.1.size;obtain⟨nn,xm⟩:=acJ (q+1);obtain⟨M2,sC⟩:∃ M2:Nat->Prop,M2=λk=>M k\/v8.ownBlock=some k:=⟨_,rfl⟩;obtain⟨y,hy⟩:∃ y:Np.Held,y=⟨zone,sg,[],[]⟩:=⟨_,rfl⟩;obtain⟨dW,o7⟩:=acY (hs ++ [y]);have Hj:Hid (dW.length=nn):=jq (by rw[o7,List.length_append,cO.out];exact xm);have DD:Hid (br db 8 57 (X+1) M2 w8 v8 dW):=jq (by rw[sC,o7,hy];exact H8.out.1);obtain⟨g,cap,rfl,rt,uk,qh⟩:=DD.out.formSome Hj.out (by omega);have HY:Hid (dW[q]?=some y):=jq (by rw[o7,oQ (by rw[cO.out];exact bQ _),cO.out,Nat.sub_self];rfl);obtain⟨zc,sy,dvy,svy,fvy,pvy,KH,gk,B5,dR,uj,a1,a2,a3,a4,a5,a6⟩:=Pw DD.out (by rw[Hj.out];omega) HY.out;obtain⟨fA,fc,rfl,_,_⟩:=ak uj;obtain⟨fn,gj⟩:=acJ y.fresh.length;obtain⟨fr,dZ⟩:=acJ y.fresh;rw[gj,dZ] at uj;rw[gj] at a6;have yq:=jq uj;have U9:Hid (∀ k,(Value.slice (some ⟨g,0,none⟩) nn cap).ownBlock=some k->M k\/wS.heap.size=k):=jq (λk e=>by
         rcases H8.out.2.2 with h | h
         ·exact .inl (Ng.out k (h ▸ e))
         ·rw[h] at e;exact .inr (Option.some.inj e))
        have Hd:Hid (∀ g',B<=g'->g'<X->M2 g'):=jq (λg' h1 h2=>by rw[sC];exact .inl (Dz.out g' h1 h2));have yz:Hid (∀ g',M2 g'->(B<=g'/\g'≠cb)/\g'<w8.heap.size):=jq (λg' hg'=>by
         rw[sC] at hg';rcases hg' with h | h
         ·have:=rZ.out g' h;omega
         ·rcases U9.out g' h with h2 | h2
          ·have:=rZ.out g' h2;omega
          ·have:=DD.out.lt g' h;omega)
        have Hs:Hid (br db 8 57 (X+1) M2 w8 (.slice (some ⟨g,0,none⟩) nn cap) dW):=DD;have Pn:(Value.slice uA q uc).ownBlock≠some cb:=λe=>(rZ.out cb (Ng.out cb e)).1.2 rfl;have EL:w8.heap[cb]?=wG.heap[cb]?:=(H8.out.2.1.block cb (by omega) (λe=>Pn e.symm)).trans (ft.out.block cb (by omega));have f6:=a6;have c1:=(iQ (a:=⟨cb,1,none⟩) EL).trans t1;have c2:=(iQ (a:=⟨cb,2,none⟩) EL).trans t2;have Mf:Hid (fr = []):=jq (by rw[<-dZ,hy]);have ni:Hid (fr.length<=10000/\Np.pC fr):=jq (by rw[Mf.out];exact⟨by simp,λs hs=>by cases hs⟩);have jl:Hid (dW.set q ⟨y.zone,y.signed,Np.bT (fr ++ [⟨x.frm,x.til⟩]),y.spans⟩=hsN zone (psK (copies.take k) zone x j ++ [(⟨x.frm,x.til⟩,sg)])):=jq (by
         have h1:=ZN (zone:=zone) (ps:=psK (copies.take k) zone x j) (s:=sg) (by rw[<-vw.out];exact U5.out) (sp:=⟨x.frm,x.til⟩);rw[<-vw.out,cO.out] at h1;rw[o7,Mf.out,hy];exact h1)
        have Gr:Hid (Below (X+1) wi w8):=jq ((Tu.out.adZ).trans ((ft.out.adZ).trans ((vQ _ _).grown H8.out.2.1 (by omega) (λk e=>(oJ.out.lt k e).1))));have GD:Hid (w8.heap[cb]?=wi.heap[cb]?):=jq (EL.trans TX.out);have YT:g≠cb:=λe=>(yz.out g qh).1.2 e;have gZ:(q:Int)<(nn:Int):=by omega
        have cO:Hid (dW.length=nn):=Hj;have hgS:g<w8.heap.size:=uk;clear sC hy o7 dZ gj KH gk B5 dR uj a1 a2 a3 a4 a5 a6 e0 e1 e2 e3 e4 EL Pn Ff t1 t2 t4;refine De λa0 bw=>?_;have jA:=jq bw;have vm:=jq (show a0.eval (.tmp 5) = .slice (some ⟨g,0,none⟩) nn cap by rw[bw];rfl);have ox:=jq (show a0.eval (.tmp 7) = .pointer (some ⟨cb,0,none⟩) by rw[bw];rfl);have lU:=jq (show a0.eval (.tmp 9) = .int .i64 (q:Nat) by rw[bw];rfl);have HM:=jq (show a0.tmps.size=90 by rw[bw];rfl);clear bw;refine wp_region_any (by kernel_rfl) ?_;refine gl 12 (D:=[0,1,2,3,4,5,6,7,8,9,10,11,14,15]) (val:=gD g nn cap q fA fn fc cb x.frm x.til undef undef) oV rb (rr HM.out) (by kernel_rfl) ?_ ?_
        ·intro i aR bS o ho a' hb aP;have k5':=aZJ hb vm.out;have k7':=aZJ hb ox.out;have k9':=aZJ hb lU.out;simp[Act.eval] at k5' k7' k9'
         repeat' (rcases aR with _ | ⟨_,aR⟩)
         all_goals first
          | (exfalso;simp at bS;done)
          | (cases ho
             try simp[Act.eval,Region.binds,gD,jH] at aP
             refine gv (by simp[Region.wanted]) ?_;simp[Oper.quietAt,Oper.quietUpon,execOp,go_sem,gD,k5',k7',k9',f6,c1,c2,jT,gZ,aP])
        ·intro f listed a' hH hr hv;have av11:=hv 11;simp[Act.eval,gD,jH] at av11;simp only[wpOp];simp[Region.wanted];refine .inl ?_;simp[Oper.wp,execOp,go_sem,av11];obtain⟨wA,fz⟩:=acY ((w8.alloc (.cells #[.int .i64 x.frm,.int .i64 x.til] 110)).drew);rw[<-fz];have dI:Below w8.heap.size w8 wA:=by rw[fz];exact ((vQ _ _).alloc (bQ _) _).drew
         have CR:wA.heap.size=w8.heap.size+1:=by rw[fz];simp[World.drew]
         have Ie:Hid (SlR cT 2 wA wA.heap.size (.slice (some ⟨w8.heap.size,0,none⟩) 1 1) [⟨x.frm,x.til⟩]):=jq (Sw (by omega) (by rw[fz];simp[go_sem]) (by rw[fz];simp[go_sem]));replace f6:=aaJ dI f6;replace c1:=aaJ dI c1;replace c2:=aaJ dI c2;have se:=jq (Hs.out.keep eY fp eZ dI);have GR:=jq ((yq.out.keep eE dI).more jk dI.size);have dY:=jq dI;clear fz dI;refine gl 13 (D:=[0,1,2,3,4,5,6,7,8,9,10,11,14,15,12]) (val:=gD g nn cap q fA fn fc cb x.frm x.til (.slice (some ⟨w8.heap.size,0,none⟩) 1 1) undef) oV rb (hH.next oV rb hr) (by kernel_rfl) ?_ ?_
         ·intro i aR bS o ho a' hb aP;have k5':=aZJ hb vm.out;have k7':=aZJ hb ox.out;have k9':=aZJ hb lU.out;simp[Act.eval] at k5' k7' k9'
          repeat' (rcases aR with _ | ⟨_,aR⟩)
          all_goals first
           | (exfalso;simp at bS;done)
           | (cases ho
              try simp[Act.eval,Region.binds,gD,jH] at aP
              refine gv (by simp[Region.wanted]) ?_;simp[Oper.quietAt,Oper.quietUpon,execOp,go_sem,gD,k5',k7',k9',f6,c1,c2,jT,gZ,aP])
         ·intro f listed a' hH hr hv;have av6:=hv 6;have av12:=hv 12;simp[Act.eval,gD,jH] at av6 av12;simp only[wpOp];simp[Region.wanted];refine .inl ?_;simp[Oper.wp,go_sem,av6,av12];refine (Ov _ _ fr [⟨x.frm,x.til⟩] ni.out.1 (by simp) ni.out.2 (λs hs=>by rw[List.mem_singleton] at hs;subst hs;exact Ar.out) wA GR.out Ie.out).mono ?_;rintro e wB ⟨vB,rfl,sX,bA⟩;have Fk:=bA.size;replace f6:=aaJ bA f6;replace c1:=aaJ bA c1;replace c2:=aaJ bA c2;have GM:Hid (∀ g,vB.ownBlock=some g->wA.heap.size<=g):=jq (λg hg=>(sX.lt g hg).1);obtain⟨em,hem⟩:=acJ ((Np.bT (fr ++ [⟨x.frm,x.til⟩])).length);have bU:em<=20000:=by rw[<-hem];have:=rG (fr ++ [⟨x.frm,x.til⟩]);have:=ni.out.1;rw[List.length_append] at *;simp at *;omega
          obtain⟨eA,ec,rfl⟩:=FA sX hem;have GP:Hid (aJ wA.heap.size wB (.slice eA em ec) (Np.bT (fr ++ [⟨x.frm,x.til⟩]))):=jq sX;have HEM:=jq hem;have g9:=jq (se.out.keep eY fp eZ bA);have fX:=jq bA;clear sX bA hem;dsimp only;refine gl 16 (D:=[0,1,2,3,4,5,6,7,8,9,10,11,14,15,12,13]) (val:=gD g nn cap q fA fn fc cb x.frm x.til (.slice (some ⟨w8.heap.size,0,none⟩) 1 1) (.slice eA em ec)) oV rb (hH.next oV rb hr) (by kernel_rfl) ?_ ?_
          ·intro i aR bS o ho a' hb aP;have k5':=aZJ hb vm.out;have k7':=aZJ hb ox.out;have k9':=aZJ hb lU.out;simp[Act.eval] at k5' k7' k9'
           repeat' (rcases aR with _ | ⟨_,aR⟩)
           all_goals first
            | (exfalso;simp at bS;done)
            | (cases ho
               try simp[Act.eval,Region.binds,gD,jH] at aP
               refine gv (by simp[Region.wanted]) ?_;simp[Oper.quietAt,Oper.quietUpon,execOp,go_sem,gD,k5',k7',k9',f6,c1,c2,jT,gZ,aP])
          ·intro f listed a' hH hr hv;have av13:=hv 13;have av15:=hv 15;simp[Act.eval,gD,jH] at av13 av15;simp only[wpOp];simp[Region.wanted];refine .inl ?_;have ff:wB.frozen? ⟨g,q * 8+6,none⟩=false:=g9.out.frozenAt cO.out _;simp[Oper.wp,execOp,go_sem,av13,av15,f6,ff];refine tv hH hr HM.out oV (by kernel_rfl) λdZ=>?_
           ·rw[dZ,jA.out];simp[lp,Act.put,gD,jH];clear hv hH dZ;clear f6 c1 c2 ff;have du:Hid (br db 8 57 (X+1) M2 (wB.setCell ⟨g,q * 8+6,none⟩ (.slice eA em ec)) (.slice (some ⟨g,0,none⟩) nn cap) (dW.set q ⟨y.zone,y.signed,Np.bT (fr ++ [⟨x.frm,x.til⟩]),y.spans⟩)):=jq (by
             refine br.stored eY fp eZ g9.out cO.out HY.out (by omega) _ (λr hr hR=>R6 hR ?_);have h1:aJ wA.heap.size (bF wB M2) (.slice eA em ec) (Np.bT (fr ++ [⟨x.frm,x.til⟩])):=gN GP.out (λk hk=>kF (λhm=>by have h2:=GM.out k hk;have h3:=yz.out k hm;omega));have h4:=h1.slr (by rw[HEM.out];omega);rw[j6] at h4;exact h4)
            have GC:Hid ((wB.setCell ⟨g,q * 8+6,none⟩ (.slice eA em ec)).heap[cb]?=w8.heap[cb]?):=jq ((wQ _ _ _ cb (by dsimp only;omega)).trans ((fX.out.block cb (by omega)).trans (dY.out.block cb (by omega))));have iz:Hid (Below (X+1) w8 (wB.setCell ⟨g,q * 8+6,none⟩ (.slice eA em ec))):=jq ((((dY.out.adZ).trans (fX.out.adZ))).setCell (by dsimp only;omega) _);go_wp2_with fail;go_roundw
            case measure=>simp[intOf] <;> omega
            case rel=>
             exact⟨j+1,nn,by omega,by go_num,λha=>absurd oy.out ha,by have:=iz.out.size;omega,jq (cw.out.trans ((Gr.out.adZ).trans iz.out)),jq (GC.out.trans (GD.out.trans yo.out)),_,M2,by rw[List.length_set];exact cO.out,jq du.out,jq (by rw[yD.out];exact jl.out),jq (λg' hg=>by have:=yz.out g' hg;have:=iz.out.size;omega),Hd⟩
     ·obtain rfl:j=xn:=by omega
      go_wp2_with fail;go_roundw
      case measure=>simp[intOf] <;> omega
      case rel=>exact⟨k+1,n,by omega,by go_num,by omega,jq (ai.out.trans cw.out),hs,M,hn,oJ,jq (by
       rw[vw.out,K1 (.inl ⟨oy.out,Bb.out.symm⟩)];obtain⟨hl,he⟩:=cQ.1 lW.out;rw[fQ hl,he]),jq (λg hg=>by have:=rZ.out g hg;omega),Dz⟩
  ·have f9:Hid (copies.take k=copies):=jq (kQ (by rw[da.out];omega));go_wp2_with fail;go_ret;refine⟨_,rfl,?_,HB.out⟩;have he:=tF.out;rw[f9.out] at he;intro M' hM';have h9:=Hn.out.slr_sans fp eZ (M':=M') (λg hg=>⟨ME.out g (hM' g hg).1 (by have:=(hM' g hg).2;omega),λe2=>by have:=(Hn.out.lt g e2).1;have:=(hM' g hg).2;omega⟩) (by rw[he];have:=Qt zone (Np.cX copies zone);have:=nv.out;omega);rw[he] at h9;exact h9
end
section
open Go.RowKit
def Np.vY(h:Np.Hist)(z:List UInt8):Prop:=Np.VHist h/\Np.aD z=true
def Np.yL(h:Np.Hist)(z:List UInt8):Prop:=∃ c∈h.copies,c.zone.apex=z
theorem aCZ(e:List Value)(h:Np.Hist)(hf:Np.yf h)(w:World)(hh:gC w w.heap.size e h) :
 Calls prog 44 #[.agg e.toArray] w (a0X w.heap.size w (.bool (Np.yes (Np.VHist h)))):=by
 obtain⟨hv,cv,s,dv,dU,rfl,h1,h2,h3,h4,h5,h6⟩:=hh;obtain⟨hosts,copies,⟨name,ty,life,data⟩,hints,drift,stop⟩:=h;dsimp only at h1 h3 h4 h5 h6;subst h1;exact RY _ hosts _ copies s h2 ty life _ data _ hints drift stop hf.1 hf.2 _ h3 h4 h5 h6
end
end Go.Proofs.YtfnopgdcaanaiaaGreatDoor
