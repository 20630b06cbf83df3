/- Parts of the proof. No condition. -/
import Derived.Test.YtfnopgdcaanaiaaGreatDoorV22
set_option linter.all false
set_option maxRecDepth 100000
set_option maxHeartbeats 8000000
namespace Go.Proofs.YtfnopgdcaanaiaaGreatDoor
open Go.Proofs.Tryz
section
open Go.RowKit Go.Shelf
def gg(g n cap q:Nat)(fA:Option Addr)(fn fc cb:Nat)(xf xt:Int)(e12:Value)(e13:Value)(i:Nat):Value:=[.slice (some ⟨g,0,none⟩) n cap,.int .i64 (q:Nat),.slice (some ⟨g,0,none⟩) n cap,.int .i64 (q:Nat),.pointer (some ⟨g,q * 8,none⟩),.pointer (some ⟨g,q * 8+6,none⟩),.slice fA fn fc,.pointer (some ⟨cb,1,none⟩),.int .i64 xf,.pointer (some ⟨cb,2,none⟩),.int .i64 xt,.agg #[.int .i64 xf,.int .i64 xt],e12,e13,.pointer (some ⟨g,q * 8,none⟩),.pointer (some ⟨g,q * 8+6,none⟩),undef].getD i undef
def jy(i:Nat):Nat:=[73,74,75,76,77,78,79,80,81,82,83,84,85,86,87,88,0].getD i 0
def Uw:List Nat:=[0,1,2,3,4,5,6,7,8,9,10,11,14,15,12,13].map jy
theorem ou:∀ i∈[0,1,2,3,4,5,6,7,8,9,10,11,14,15,12,13],jy i<90/\jy i∈Uw:=by decide
theorem qn:∀ i∈[0,1,2,3,4,5,6,7,8,9,10,11,14,15,12,13],∀ j∈[0,1,2,3,4,5,6,7,8,9,10,11,14,15,12,13],j≠i->jy i≠jy j:=by decide
theorem EJ{base n:Nat}{w:World}{v:Value}{ps:List Np.Span}(h:aw base w v ps)(hn:ps.length=n):∃ A c,v = .slice A n c:=by subst hn;exact h.form
theorem Tryz.infoHeldA:(prog.info? 57).map (λi=>(i.zero,i.size,i.bytes))=some (some (.agg #[.string ⟨#[]⟩,.string ⟨#[]⟩,.int .i64 0,.int .i64 0,.slice none 0 0,.slice none 0 0,.slice none 0 0,.slice none 0 0]),8,144):=by kernel_rfl
theorem arY{a b:Np.Signed}{s t:ByteArray}(hs:s.data.toList=a.set.name)(ht:t.data.toList=b.set.name):decide ((s=t/\a.set.type=b.set.type/\a.set.life=b.set.life/\a.set.data=b.set.data)/\a.sigs=b.sigs)=decide (a=b):=by
 obtain⟨⟨n1,t1,l1,d1⟩,g1⟩:=a;obtain⟨⟨n2,t2,l2,d2⟩,g2⟩:=b;dsimp only at hs ht;have e:s=t↔n1=n2:=⟨λh=>by rw[<-hs,<-ht,h],λh=>mT (by rw[hs,ht,h])⟩;simp only[e,Np.Signed.mk.injEq,Np.DSet.mk.injEq]
def psK(l:List Np.Copy)(zone:List UInt8)(x:Np.Copy)(j:Nat):List (Np.Span×Np.Signed):=Np.cL l zone++(x.zone.sets.take j).map λs=>(Np.jL x,s)
theorem JO{l:List Np.Copy}{zone:List UInt8}{x:Np.Copy}{j:Nat}(h:(x.zone.apex=zone/\j=x.zone.sets.length)\/(x.zone.apex≠zone/\j=0)):psK l zone x j=Np.cL (l ++ [x]) zone:=by
 unfold psK;rw[Np.EK];congr 1;unfold Np.cL Np.tm Np.nO;rcases h with ⟨h1,rfl⟩ | ⟨h1,rfl⟩
 ·rw[List.take_length];simp[h1]
 ·have:(x.zone.apex == zone)=false:=by simpa using h1
  simp[this]
theorem acY{l:List Np.Copy}{zone:List UInt8}{x:Np.Copy}{j:Nat}{s:Np.Signed}(h:x.zone.sets[j]?=some s):psK l zone x (j+1)=psK l zone x j ++ [(⟨x.frm,x.til⟩,s)]:=by
 obtain⟨hl,he⟩:=cQ.1 h;unfold psK;rw[fQ hl,he,List.map_append,List.append_assoc];rfl
theorem acX{l:List Np.Copy}{zone:List UInt8}{x:Np.Copy}{k j:Nat}(h:l[k]?=some x)(ha:x.zone.apex=zone):(psK (l.take k) zone x j).length<=(Np.cL l zone).length:=by
 obtain⟨hl,he⟩:=cQ.1 h;have h1:(psK (l.take k) zone x j).length<=(psK (l.take k) zone x x.zone.sets.length).length:=by
  unfold psK;simp only[List.length_append,List.length_map,List.length_take];omega
 rw[JO (.inl ⟨ha,rfl⟩),show l.take k ++ [x]=l.take (k+1) by rw[fQ hl,he]] at h1;have h2:(Np.cL (l.take (k+1)) zone).length<=(Np.cL l zone).length:=by
  conv => rhs;rw[<-List.take_append_drop (k+1) l,Np.EK]
  rw[List.length_append];omega
 omega
theorem acK{l:List Np.Copy}(hf:Np.nU l){zone:List UInt8}{x:Np.Copy}{k j:Nat}(h:l[k]?=some x):CA (psK (l.take k) zone x j):=λp hp=>by
 rcases List.mem_append.1 hp with hp | hp
 ·obtain⟨c,hc,_,_,h3⟩:=Np.ug.1 hp;rw[h3];exact hf c (List.mem_of_mem_take hc)
 ·obtain⟨s,_,rfl⟩:=List.mem_map.1 hp;exact hf x (gQ h)
theorem UC(B:Nat)(e:List Value)(h:Np.Hist)(hf:Np.nU h.copies)(h5:h.copies.length<=500)(z:ByteArray)(hz:z.size<=140737488355328)(hp:(Np.cL h.copies z.data.toList).length<=5000)(dy:∀ c∈h.copies,c.zone.sets.length<=20000)(w:World)(hB:B<=w.heap.size)(hh:fM w B e h) :
 Calls prog 144 #[.agg e.toArray,.string z] w λe w'=>∃ v',e = .returned v'/\gX cM 8 B w.heap.size w' v' (Np.pub h.copies z.data.toList)/\Below w.heap.size w w':=by
 obtain⟨hv,cv,s,dv,dx,rfl,_,_,h3,h4,h5',h6⟩:=hh;obtain⟨hosts,copies,⟨name,ty,life,data⟩,hints,drift,stop⟩:=h;dsimp only at h3 h4 h5' h6 h5 hf hp dy |-;have HD:=jq h4;obtain⟨A1,c1,rfl,_,_⟩:=aj h3;obtain⟨A2,c2,rfl,_,_⟩:=aj h4;obtain⟨A3,c3,rfl,_,_⟩:=aj h5';obtain⟨A4,c4,rfl,_,_⟩:=aj h6;clear h3 h4 h5' h6;obtain⟨n1,bK⟩:=aJZ hosts.length;obtain⟨n2,bY⟩:=aJZ copies.length;obtain⟨n3,dF⟩:=aJZ data.length;obtain⟨n4,dY⟩:=aJZ hints.length;rw[bK,bY,dF,dY];rw[bY] at HD h5;have K1:=jq hf;have mX:=jq hp;have TT:=jq dy;clear hf hp dy;have eR:=jq bY;clear bK bY dF dY;obtain⟨X,hX⟩:=aJZ w.heap.size;obtain⟨W1,an⟩:=aJZ (w.alloc (.cells #[.slice A1 n1 c1,.slice A2 n2 c2,.string s,.int .i64 ty,.int .i64 life,.slice A3 n3 c3,.slice A4 n4 c4,.int .i64 drift,.int .i64 stop] 29));have aB:Below w.heap.size w W1:=by rw[<-an];exact (vQ _ _).alloc (bQ _) _
 have jF:W1.heap.size=w.heap.size+1:=by rw[<-an];simp
 have k1:W1.cell? ⟨X,1,none⟩=some (.slice A2 n2 c2):=by rw[<-an,<-hX];simp[go_sem]
 rw[hX] at aB jF hB |-;have aO:=jq aB;clear aB;obtain⟨i0,jh,di,ba,aN⟩:=info_parts Tryz.infoHeldA;obtain⟨zone,Jy⟩:=aJZ z.data.toList;rw[Jy] at mX |-;have s9:=jq Jy;clear Jy;go_enter func144,ntmps144;go_wp2_with fail;clear an hX;go_loopw [5,6] (λvo i wr=>∃ (k n:Nat),k<=n2/\i = .int .i64 k/\X<wr.heap.size/\Hid (Below (X+1) W1 wr)/\∃ (hs:List Np.Held) (M:Nat->Prop),hs.length=n/\Hid (bp cM 8 57 (X+1) M wr vo hs)/\Hid (hs=hsN zone (Np.cL (copies.take k) zone))/\Hid (∀ g,M g->B<=g/\g<wr.heap.size)/\Hid (∀ g,B<=g->g<X->M g)) (λ_ i _=>n2 - (intOf i).toNat)
 case atStart=>exact⟨0,0,jQ _,rfl,by omega,jq (vQ _ _),[],λg=>B<=g/\g<X,rfl,jq (bp.nil _),jq (by rw[List.take_zero];rfl),jq (λg h=>⟨h.1,by omega⟩),jq (λg h1 h2=>⟨h1,h2⟩)⟩
 case round=>
  obtain⟨k,n0,hk,rfl,vv,cH,iW,M0,lU,Gl,sM,Ls,Lq⟩:=hrel;have HB:=aIX aO cH.out;have q1:=aIZ cH.out k1;by_cases aa:k<n2
  ·obtain⟨x,ab⟩:∃ x,copies[k]?=some x:=⟨_,aQ (by rw[eR.out];exact aa)⟩;obtain⟨b,o,sn,vz,rfl,bj,ay,cC,eO,f0,f1,f2,f3,f4⟩:=tn (HD.out.keep l7 (HB.out.mono hB)) ab;have jT:=jq eO;obtain⟨Az,cz,rfl,_,_⟩:=aj eO;obtain⟨xn,wd⟩:=aJZ x.zone.sets.length;rw[wd] at f4 jT;have zL:=jq wd;have YC:xn<=20000:=by rw[<-wd];exact TT.out x (gQ ab)
   have aW:=jq (And.intro ay cC);have mW:=jq ab;have ze:Hid (x.frm<x.til):=jq (K1.out x (gQ ab));have bF:(0:Int)<=(k:Int):=by omega
   have bL:(k:Int)<(n2:Int):=by omega
   obtain⟨cb,ib⟩:=aJZ wr.heap.size;have KU:=jq ib;obtain⟨w2,ag⟩:=aJZ (wr.alloc (.cells #[.int .i64 x.host,.int .i64 x.frm,.int .i64 x.til,.string sn,.slice Az xn cz] 46));have ua:w2.heap.size=cb+1:=by rw[<-ag,<-ib];simp
   have ac:Below wr.heap.size wr w2:=by rw[<-ag];exact (vQ _ _).alloc (bQ _) _
   have p1:w2.cell? ⟨cb,1,none⟩=some (.int .i64 x.frm):=by rw[<-ag,<-ib];simp[go_sem]
   have p2:w2.cell? ⟨cb,2,none⟩=some (.int .i64 x.til):=by rw[<-ag,<-ib];simp[go_sem]
   have p3:w2.cell? ⟨cb,3,none⟩=some (.string sn):=by rw[<-ag,<-ib];simp[go_sem]
   have p4:w2.cell? ⟨cb,4,none⟩=some (.slice Az xn cz):=by rw[<-ag,<-ib];simp[go_sem]
   have ah:=aIX cH ac;have db:=jq (Gl.out.keep ep dL ea ac);have To:Hid (∀ g,M0 g->B<=g/\g<w2.heap.size):=jq (λg hg=>by have:=Ls.out g hg;omega);have aMZ:X<cb:=by omega
   obtain⟨ap,oF⟩:=aJZ (sn.toList == z.toList);have KD:Hid (ap=true↔x.zone.apex=zone):=jq (by rw[<-oF,dQ,dQ,aW.out.1,s9.out];simp);have R8:=jq ac;clear ab ay eO wd cC ac ib;go_wp2_with fail;rw[KU.out];clear ag f0 f1 f2 f3 f4;obtain⟨wo,rfl⟩:=aKQ wr;go_loopw [5,8] (λvo i wr=>∃ (j n:Nat),j<=xn/\i = .int .i64 j/\(¬ x.zone.apex=zone->j=0)/\w2.heap.size<=wr.heap.size/\Hid (Below (X+1) w2 wr)/\Hid (wr.heap[cb]?=w2.heap[cb]?)/\∃ (hs:List Np.Held) (M:Nat->Prop),hs.length=n/\Hid (bp cM 8 57 (X+1) M wr vo hs)/\Hid (hs=hsN zone (psK (copies.take k) zone x j))/\Hid (∀ g,M g->(B<=g/\g≠cb)/\g<wr.heap.size)/\Hid (∀ g,B<=g->g<X->M g)) (λ_ i _=>xn - (intOf i).toNat)
   case atStart=>exact⟨0,n0,jQ _,rfl,λ_=>rfl,bQ _,jq (vQ _ _),jq rfl,iW,M0,lU,db,jq (by rw[sM.out];unfold psK;simp),jq (λg hg=>by have h1:=Ls.out g hg;have h2:=To.out g hg;have h3:=KU.out;omega),Lq⟩
   case round=>
    obtain⟨j,n,hj,rfl,jD,Pi,ca,xp,hs,M,hn,oa,uC,rl,CU⟩:=hrel;have r1:=(iQ (a:=⟨cb,1,none⟩) xp.out).trans p1;have r2:=(iQ (a:=⟨cb,2,none⟩) xp.out).trans p2;have r3:=(iQ (a:=⟨cb,3,none⟩) xp.out).trans p3;have r4:=(iQ (a:=⟨cb,4,none⟩) xp.out).trans p4
    cases ap with
    | false=>
     have Lt:Hid (¬ x.zone.apex=zone):=jq (λh=>by have:=KD.out.2 h;cases this);have XD:=jD Lt.out;subst XD;go_wp2_with fail;go_roundw
     case measure=>simp[intOf] <;> omega
     case rel=>exact⟨k+1,n,by omega,by go_num,by omega,jq (ah.out.trans ca.out),hs,M,hn,oa,jq (by
      rw[uC.out,JO (.inr ⟨Lt.out,rfl⟩)];obtain⟨hl,he⟩:=cQ.1 mW.out;rw[fQ hl,he]),jq (λg hg=>by have:=rl.out g hg;omega),CU⟩
    | true=>
     have nY:Hid (x.zone.apex=zone):=jq (KD.out.1 rfl);by_cases lz:j<xn
     ·obtain⟨sg,jE⟩:∃ sg,x.zone.sets[j]?=some sg:=⟨_,aQ (by rw[zL.out];exact lz)⟩;have xF:=jq (acY (l:=copies.take k) (zone:=zone) jE);have LQ:=jq jE;have jR:Hid ((psK (copies.take k) zone x j).length<=5000):=jq (by have:=acX (j:=j) mW.out nY.out;have:=mX.out;omega);have zy:Hid (CA (psK (copies.take k) zone x j)):=jq (acK K1.out mW.out);have IV:n<=5000:=by rw[<-hn,uC.out];have:=OT zone (psK (copies.take k) zone x j);have:=jR.out;omega
      have cw:=jq hn;have aQZ:(0:Int)<=(j:Int):=by omega
      have aQJ:(j:Int)<(xn:Int):=by omega
      clear jE hn;go_wp2_with fail;obtain⟨wi,rfl⟩:=aKQ wr;go_loopw [9] (λi wr=>∃ q:Nat,q<=n/\i = .int .i64 q/\Hid (Below wi.heap.size wi wr)/\Hid (∀ y∈hs.take q,y.signed≠sg)) (λi _=>n - (intOf i).toNat)
      case atStart=>exact⟨0,jQ _,rfl,jq (vQ _ _),jq (by simp)⟩
      case round=>
       obtain⟨q,hq,rfl,k9,uM⟩:=hrel;have hzq:=k9.out.size;have s1:=aIZ k9.out r1;have s2:=aIZ k9.out r2;have s3:=aIZ k9.out r3;have s4:=aIZ k9.out r4;have Gu:=jq (oa.out.keep ep dL ea k9.out);have L7:Hid (Below X wo wr):=jq ((R8.out.aKZ).trans ((ca.out.aKZ).trans (k9.out.aKZ)));have ke:(0:Int)<=(q:Int):=by omega
       by_cases dX:q<n
       ·obtain⟨y,hy⟩:∃ y,hs[q]?=some y:=⟨_,aQ (by rw[cw.out];exact dX)⟩;obtain⟨g,cap,rfl,oI,pE,pG⟩:=oa.out.formSome cw.out (by omega);obtain⟨zc,sy,dvy,svy,fvy,pvy,Jw,iC,Bc,bX,tA,a1,a2,a3,a4,a5,a6⟩:=N7 Gu.out (by rw[cw.out];omega) hy;obtain⟨b',o',c',ss,dvs,svs,hA,hb',_,gu,_,vI,vK,e0,e1,e2,e3,e4⟩:=fE (jT.out.keep bU (L7.out.mono hB)) LQ.out;simp only[Value.slice.injEq] at hA;obtain⟨rfl,-,rfl⟩:=hA;have gL:(q:Int)<(n:Int):=by omega
        have HY:=jq hy;have KW:=jq Bc;have sP:=jq bX;have zd:=jq vI;have zh:=jq vK;have FV:=jq tA;have sX:=jq iC;have qj:=jq gu;obtain⟨dA,dc,rfl,_,_⟩:=aj Bc;obtain⟨gA,gc,rfl,_,_⟩:=aj bX;obtain⟨dB,dd,rfl,_,_⟩:=aj vI;obtain⟨gB,gd,rfl,_,_⟩:=aj vK;obtain⟨fA,fc,rfl,_,_⟩:=aj tA;obtain⟨dn,kG⟩:=aJZ y.signed.set.data.length;obtain⟨gn,eB⟩:=aJZ y.signed.sigs.length;obtain⟨dm,yl⟩:=aJZ sg.set.data.length;obtain⟨gm,Bi⟩:=aJZ sg.sigs.length;obtain⟨fn,ed⟩:=aJZ y.fresh.length;rw[kG] at a4 KW;rw[eB] at a5 sP;rw[yl] at e3 zd;rw[Bi] at e4 zh;rw[ed] at a6 FV;obtain⟨bb,AQ⟩:=aJZ (decide (y.signed=sg));have Bk:g<wr.heap.size:=by omega
        have aOZ:cb<wr.heap.size:=by omega
        have NK:b'<wr.heap.size:=by omega
        have nA:∀ (gr:bO wr) (p:Addr),p.block<wr.heap.size->gr.w.cell? p=wr.cell? p:=λgr p h=>gr.cell p h;have cB:∀ gr:bO wr,Calls prog 20 #[.agg #[.string sy,.int .i64 y.signed.set.type,.int .i64 y.signed.set.life,.slice dA dn dc,.slice gA gn gc],.agg #[.string ss,.int .i64 sg.set.type,.int .i64 sg.set.life,.slice dB dm dd,.slice gB gm gd]] gr.w λe w'=>e = .returned (.bool bb)/\Below gr.w.heap.size gr.w w':=λgr=>
         (QR sy ss _ _ _ _ _ _ _ _ y.signed.set.data sg.set.data y.signed.sigs sg.sigs gr.w (KW.out.later bD bP gr.below) (((zd.out.more bP (by omega)).later bD bP gr.below)) (sP.out.later bH cE gr.below) (((zh.out.more cE (by omega)).later bH cE gr.below))).mono λe w' h=>⟨by rw[h.1,<-AQ,arY sX.out qj.out],h.2⟩
        have kr:=jq cB;have KI:=jq AQ;clear cB hy Jw iC Bc bX tA gu vI vK kG eB yl Bi ed AQ
        cases bb with
        | false=>
         go_wp2_with fail;refine aMQ ?_
         repeat (go_big_quiet_step ((go_at_call 20;exact Calls.grow_of (kr.out _))))
         refine wpQuiet_nil ?_;rintro _ ⟨gr,rfl⟩;go_wp2_with fail;go_roundw
         case measure=>simp[intOf] <;> omega
         case rel=>exact⟨q+1,by omega,by go_num,aIX k9 gr.below,jq (λy' hy'=>by
          obtain⟨hl,he⟩:=cQ.1 HY.out;rw[fQ hl,he] at hy';rcases List.mem_append.1 hy' with h | h
          ·exact uM.out y' h
          ·rw[List.mem_singleton] at h;subst h;exact of_decide_eq_false KI.out)⟩
        | true=>
         have Uk:Hid (y.signed=sg):=jq (of_decide_eq_true KI.out);have Ek:((q:Int) == (n:Int))=false:=by simp;omega
         have aWJ:decide (q=n)=false:=by simp;omega
         have aWK:¬ q=n:=by omega
         go_wp2_with fail;refine aMQ ?_
         repeat (go_big_quiet_step ((go_at_call 20;exact Calls.grow_of (kr.out _))))
         refine wpQuiet_nil ?_;rintro _ ⟨gr,rfl⟩;have eT:=gr.below;obtain⟨wG,BZ⟩:=aJZ gr.w;rw[BZ] at eT |-;have Ph:=eT.size;have f6:=aIZ eT a6;have c1:=aIZ eT s1;have c2:=aIZ eT s2;obtain⟨M2,rD⟩:=aKQ M;obtain⟨cJ,oK⟩:=aKQ hs;have Gr:Hid (bp cM 8 57 (X+1) M2 wG (.slice (some ⟨g,0,none⟩) n cap) cJ):=jq (by rw[rD,oK];exact Gu.out.keep ep dL ea eT);have HY:Hid (cJ[q]?=some y):=jq (by rw[oK];exact HY.out);have cw:Hid (cJ.length=n):=jq (by rw[oK];exact cw.out);obtain⟨fr,ew⟩:=aJZ y.fresh;rw[ew] at FV;have xr:=jq ((FV.out.keep bE eT).more dP Ph);have xx:Hid (∀ g',M2 g'->(B<=g'/\g'≠cb)/\g'<wG.heap.size):=jq (λg' hg'=>by rw[rD] at hg';have:=rl.out g' hg';omega);have Ge:Hid (∀ g',B<=g'->g'<X->M2 g'):=jq (λg' h1 h2=>by rw[rD];exact CU.out g' h1 h2);have Ju:(hsN zone (psK (copies.take k) zone x j))[q]?=some y:=by rw[<-uC.out,<-oK];exact HY.out
         have mV:Hid (fr.length<=10000/\Np.o7 fr):=jq (by
          have h1:=(OS Ju).1;have h2:fr=Np.bN (Np.eq (psK (copies.take k) zone x j) y.signed):=by rw[<-ew,h1]
          rw[h2];exact⟨by have:=mO (Np.eq (psK (copies.take k) zone x j) y.signed);have:=Cr (psK (copies.take k) zone x j) y.signed;have:=jR.out;omega,(Np.sE (yT zy.out _)).1.full⟩)
         have jb:Hid (cJ.set q ⟨y.zone,y.signed,Np.bN (fr ++ [⟨x.frm,x.til⟩]),y.spans⟩=hsN zone (psK (copies.take k) zone x j ++ [(⟨x.frm,x.til⟩,sg)])):=jq (by
          rw[oK,uC.out,<-Uk.out,<-Ye zy.out Ju ze.out,ew])
         have Ft:Hid (Below wi.heap.size wi wG):=aIX k9 eT;have FG:Hid (wG.heap[cb]?=wi.heap[cb]?):=jq ((eT.block cb (by omega)).trans (k9.out.block cb (by omega)));have Xi:g≠cb:=λe=>(rl.out g pG).1.2 e;clear eT BZ rD oK ew Ju a1 a2 a3 a4 a5 a6 e0 e1 e2 e3 e4 s1 s2 s3 s4 nA;go_wp2_with fail;refine Cy λa0 br=>?_;have kp:=jq br;have uv:=jq (show a0.eval (.tmp 5) = .slice (some ⟨g,0,none⟩) n cap by rw[br];rfl);have nV:=jq (show a0.eval (.tmp 7) = .pointer (some ⟨cb,0,none⟩) by rw[br];rfl);have lG:=jq (show a0.eval (.tmp 9) = .int .i64 (q:Nat) by rw[br];rfl);have HM:=jq (show a0.tmps.size=90 by rw[br];rfl);clear br;refine wp_region_any (by kernel_rfl) ?_;refine gM 12 (D:=[0,1,2,3,4,5,6,7,8,9,10,11,14,15]) (val:=gg g n cap q fA fn fc cb x.frm x.til undef undef) ou qn (tx HM.out) (by kernel_rfl) ?_ ?_
         ·intro i aU bd o ho a' hb aM;have k5':=aLY hb uv.out;have k7':=aLY hb nV.out;have k9':=aLY hb lG.out;simp[Act.eval] at k5' k7' k9'
          repeat' (rcases aU with _ | ⟨_,aU⟩)
          all_goals first
           | (exfalso;simp at bd;done)
           | (cases ho
              try simp[Act.eval,Region.binds,gg,jy] at aM
              refine gE (by simp[Region.wanted]) ?_;simp[Oper.quietAt,Oper.quietUpon,execOp,go_sem,gg,k5',k7',k9',f6,c1,c2,ke,gL,aM])
         ·intro f listed a' hH hr hv;have av11:=hv 11;simp[Act.eval,gg,jy] at av11;simp only[wpOp];simp[Region.wanted];refine .inl ?_;simp[Oper.wp,execOp,go_sem,av11];obtain⟨wA,eE⟩:=aKQ ((wG.alloc (.cells #[.int .i64 x.frm,.int .i64 x.til] 110)).drew);rw[<-eE];have du:Below wG.heap.size wG wA:=by rw[eE];exact ((vQ _ _).alloc (bQ _) _).drew
          have Es:wA.heap.size=wG.heap.size+1:=by rw[eE];simp[World.drew]
          have GF:Hid (SlR bA 2 wA wA.heap.size (.slice (some ⟨wG.heap.size,0,none⟩) 1 1) [⟨x.frm,x.til⟩]):=jq (Q2 (by omega) (by rw[eE];simp[go_sem]) (by rw[eE];simp[go_sem]));replace f6:=aIZ du f6;replace c1:=aIZ du c1;replace c2:=aIZ du c2;have xE:=jq (Gr.out.keep ep dL ea du);have FT:=jq ((xr.out.keep bE du).more dP du.size);have eb:=jq du;clear eE du;refine gM 13 (D:=[0,1,2,3,4,5,6,7,8,9,10,11,14,15,12]) (val:=gg g n cap q fA fn fc cb x.frm x.til (.slice (some ⟨wG.heap.size,0,none⟩) 1 1) undef) ou qn (hH.next ou qn hr) (by kernel_rfl) ?_ ?_
          ·intro i aU bd o ho a' hb aM;have k5':=aLY hb uv.out;have k7':=aLY hb nV.out;have k9':=aLY hb lG.out;simp[Act.eval] at k5' k7' k9'
           repeat' (rcases aU with _ | ⟨_,aU⟩)
           all_goals first
            | (exfalso;simp at bd;done)
            | (cases ho
               try simp[Act.eval,Region.binds,gg,jy] at aM
               refine gE (by simp[Region.wanted]) ?_;simp[Oper.quietAt,Oper.quietUpon,execOp,go_sem,gg,k5',k7',k9',f6,c1,c2,ke,gL,aM])
          ·intro f listed a' hH hr hv;have av6:=hv 6;have av12:=hv 12;simp[Act.eval,gg,jy] at av6 av12;simp only[wpOp];simp[Region.wanted];refine .inl ?_;simp[Oper.wp,go_sem,av6,av12];refine (MV _ _ fr [⟨x.frm,x.til⟩] mV.out.1 (by simp) mV.out.2 (λs hs=>by rw[List.mem_singleton] at hs;subst hs;exact ze.out) wA FT.out GF.out).mono ?_;rintro e wB ⟨vB,rfl,rT,bj⟩;have Et:=bj.size;replace f6:=aIZ bj f6;replace c1:=aIZ bj c1;replace c2:=aIZ bj c2;have FO:Hid (∀ g,vB.ownBlock=some g->wA.heap.size<=g):=jq (λg hg=>(rT.lt g hg).1);obtain⟨em,hem⟩:=aJZ ((Np.bN (fr ++ [⟨x.frm,x.til⟩])).length);have aY:em<=20000:=by rw[<-hem];have:=mO (fr ++ [⟨x.frm,x.til⟩]);have:=mV.out.1;rw[List.length_append] at *;simp at *;omega
           obtain⟨eA,ec,rfl⟩:=EJ rT hem;have FQ:Hid (aw wA.heap.size wB (.slice eA em ec) (Np.bN (fr ++ [⟨x.frm,x.til⟩]))):=jq rT;have HEM:=jq hem;have gb:=jq (xE.out.keep ep dL ea bj);have dl:=jq bj;clear rT bj hem;dsimp only;refine gM 16 (D:=[0,1,2,3,4,5,6,7,8,9,10,11,14,15,12,13]) (val:=gg g n cap q fA fn fc cb x.frm x.til (.slice (some ⟨wG.heap.size,0,none⟩) 1 1) (.slice eA em ec)) ou qn (hH.next ou qn hr) (by kernel_rfl) ?_ ?_
           ·intro i aU bd o ho a' hb aM;have k5':=aLY hb uv.out;have k7':=aLY hb nV.out;have k9':=aLY hb lG.out;simp[Act.eval] at k5' k7' k9'
            repeat' (rcases aU with _ | ⟨_,aU⟩)
            all_goals first
             | (exfalso;simp at bd;done)
             | (cases ho
                try simp[Act.eval,Region.binds,gg,jy] at aM
                refine gE (by simp[Region.wanted]) ?_;simp[Oper.quietAt,Oper.quietUpon,execOp,go_sem,gg,k5',k7',k9',f6,c1,c2,ke,gL,aM])
           ·intro f listed a' hH hr hv;have av13:=hv 13;have av15:=hv 15;simp[Act.eval,gg,jy] at av13 av15;simp only[wpOp];simp[Region.wanted];refine .inl ?_;have ff:wB.frozen? ⟨g,q * 8+6,none⟩=false:=gb.out.frozenAt cw.out _;simp[Oper.wp,execOp,go_sem,av13,av15,f6,ff];refine wT hH hr HM.out ou (by kernel_rfl) λew=>?_
            ·rw[ew,kp.out];simp[lF,Act.put,gg,jy];clear hv hH ew;clear f6 c1 c2 ff;have ck:Hid (bp cM 8 57 (X+1) M2 (wB.setCell ⟨g,q * 8+6,none⟩ (.slice eA em ec)) (.slice (some ⟨g,0,none⟩) n cap) (cJ.set q ⟨y.zone,y.signed,Np.bN (fr ++ [⟨x.frm,x.til⟩]),y.spans⟩)):=jq (by
              refine bp.stored ep dL ea gb.out cw.out HY.out (by omega) _ (λr hr hR=>QE hR ?_);have h1:aw wA.heap.size (bn wB M2) (.slice eA em ec) (Np.bN (fr ++ [⟨x.frm,x.til⟩])):=cX FQ.out (λk hk=>kk (λhm=>by have h2:=FO.out k hk;have h3:=xx.out k hm;omega));have h4:=h1.slr (by rw[HEM.out];omega);rw[gW] at h4;exact h4)
             have FF:Hid ((wB.setCell ⟨g,q * 8+6,none⟩ (.slice eA em ec)).heap[cb]?=wG.heap[cb]?):=jq ((wQ _ _ _ cb (by dsimp only;omega)).trans ((dl.out.block cb (by omega)).trans (eb.out.block cb (by omega))));have gO:Hid (Below (X+1) wG (wB.setCell ⟨g,q * 8+6,none⟩ (.slice eA em ec))):=jq ((((eb.out.aKZ).trans (dl.out.aKZ))).setCell (by dsimp only;omega) _);go_wp2_with fail;go_roundw
             case measure=>simp[intOf] <;> omega
             case rel=>
              exact⟨j+1,n,by omega,by go_num,λha=>absurd nY.out ha,by have:=gO.out.size;omega,jq (ca.out.trans ((Ft.out.aKZ).trans gO.out)),jq (FF.out.trans (FG.out.trans xp.out)),_,M2,by rw[List.length_set];exact cw.out,jq ck.out,jq (by rw[xF.out];exact jb.out),jq (λg' hg=>by have:=xx.out g' hg;have:=gO.out.size;omega),Ge⟩
       ·obtain rfl:q=n:=by omega
        have T0:Hid (∀ y∈hs,y.signed≠sg):=jq (λy hy=>uM.out y (by rw[kQ (by rw[cw.out];exact bQ _)];exact hy));obtain⟨uA,uc,rfl⟩:=oa.out.formN cw.out;obtain⟨b',o',c',ss,dvs,svs,hA,hb',_,gu,BQ,vI,vK,e0,e1,e2,e3,e4⟩:=fE (jT.out.keep bU (L7.out.mono hB)) LQ.out;simp only[Value.slice.injEq] at hA;obtain⟨rfl,-,rfl⟩:=hA;have zd:=jq vI;have zh:=jq vK;have qj:=jq (And.intro gu BQ);obtain⟨dB,dd,rfl,_,_⟩:=aj vI;obtain⟨gB,gd,rfl,_,_⟩:=aj vK;obtain⟨dm,yl⟩:=aJZ sg.set.data.length;obtain⟨gm,Bi⟩:=aJZ sg.sigs.length;rw[yl] at e3 zd;rw[Bi] at e4 zh;have eU:decide (q<q)=false:=by simp
        have nA:∀ (gr:bO wr) (p:Addr),p.block<wr.heap.size->gr.w.cell? p=wr.cell? p:=λgr p h=>gr.cell p h;clear vI vK yl Bi gu BQ;go_wp2_with fail;refine aMQ ?_
        repeat (go_big_quiet_step (fail))
        refine wpQuiet_nil ?_;rintro _ ⟨gr,rfl⟩;have eT:=gr.below;obtain⟨wG,BZ⟩:=aJZ gr.w;rw[BZ] at eT |-;have Ph:=eT.size;replace e0:=aIZ eT e0;replace e1:=aIZ eT e1;replace e2:=aIZ eT e2;replace e3:=aIZ eT e3;replace e4:=aIZ eT e4;have t1:=aIZ eT s1;have t2:=aIZ eT s2;have t4:=aIZ eT s4;have Tx:=jq (Gu.out.keep ep dL ea eT);have Uj:Hid (Below X wr wG):=jq (eT.aKZ);have Sr:Hid (wG.heap[cb]?=wi.heap[cb]?):=jq ((eT.block cb (by omega)).trans (k9.out.block cb (by omega)));have R2:Hid (Below wi.heap.size wi wG):=aIX k9 eT;obtain⟨wS,Ep⟩:=aJZ (wG.alloc (.cells #[.string z,.string ss,.int .i64 sg.set.type,.int .i64 sg.set.life,.slice dB dm dd,.slice gB gm gd,.slice none 0 0,.slice none 0 0] 57));have hzS:wS.heap.size=wG.heap.size+1:=by rw[<-Ep];simp
        have DQ:Below wG.heap.size wG wS:=by rw[<-Ep];exact (vQ _ _).alloc (bQ _) _
        have re:Hid (gG wS wG.heap.size 0 [.string z,.string ss,.int .i64 sg.set.type,.int .i64 sg.set.life,.slice dB dm dd,.slice gB gm gd,.slice none 0 0,.slice none 0 0]):=jq (λi v hi=>by
         rw[<-Ep]
         match i,hi with
         | 0,hi=>cases hi;simp[go_sem]
         | 1,hi=>cases hi;simp[go_sem]
         | 2,hi=>cases hi;simp[go_sem]
         | 3,hi=>cases hi;simp[go_sem]
         | 4,hi=>cases hi;simp[go_sem]
         | 5,hi=>cases hi;simp[go_sem]
         | 6,hi=>cases hi;simp[go_sem]
         | 7,hi=>cases hi;simp[go_sem]
         | i+8,hi=>simp at hi)
        have kw:Hid (cM (bn wS M) wS.heap.size [.string z,.string ss,.int .i64 sg.set.type,.int .i64 sg.set.life,.slice dB dm dd,.slice gB gm gd,.slice none 0 0,.slice none 0 0] ⟨zone,sg,[],[]⟩):=jq (by
         have mD:Below B wr wS:=(Uj.out.trans (DQ.aKZ)).mono hB;exact⟨z,ss,_,_,_,_,rfl,s9.out,hz,qj.out.1,qj.out.2,SlR.around (zd.out.keep bD mD) bD bP (λg' hg'=>by have:=rl.out g' hg';omega) (by omega),SlR.around (zh.out.keep bH mD) bH cE (λg' hg'=>by have:=rl.out g' hg';omega) (by omega),⟨none,0,rfl,bQ _,by simp,λi x h=>by simp at h⟩,⟨none,0,rfl,bQ _,by simp,λi x h=>by simp at h⟩⟩)
        have zw:=jq (Tx.out.keep ep dL ea DQ);have er:=jq DQ;have LY:Hid (∀ k,(Value.slice uA q uc).ownBlock=some k->M k):=jq (by obtain⟨_,_,_,h3,_⟩:=oa.out;exact h3);clear eT BZ s1 s2 s3 s4 nA DQ;go_wp2_with (first
         | (at_builtin;refine Fg (R:=cM) (M:=M) wS rfl _ _ 52 rfl (X+1) 57 i0 (.agg #[.string ⟨#[]⟩,.string ⟨#[]⟩,.int .i64 0,.int .i64 0,.slice none 0 0,.slice none 0 0,.slice none 0 0,.slice none 0 0]) 144 underlying52 jh di ba aN rfl (by decide) (.slice uA q uc) hs rfl zw.out (some ⟨wG.heap.size,0,none⟩) 1 [⟨zone,sg,[],[]⟩] rfl (Cg rfl kw.out re.out) Cf (by rw[cw.out];simp[maxLen];omega) (by rw[cw.out];simp;omega) (by omega) ep dL ea ?_;intro v8 w8 dK cr gJ;have H8:=jq (And.intro dK (And.intro cr gJ));have HF8:=jq (dK.formN (n:=q+1) (by rw[List.length_append,cw.out];rfl));clear dK cr gJ))
        have aHJ:=er.out.size;have qH:=H8.out.2.1.size;obtain⟨nn,yx⟩:=aJZ (q+1);obtain⟨M2,rD⟩:∃ M2:Nat->Prop,M2=λk=>M k\/v8.ownBlock=some k:=⟨_,rfl⟩;obtain⟨y,hy⟩:∃ y:Np.Held,y=⟨zone,sg,[],[]⟩:=⟨_,rfl⟩;obtain⟨cJ,oK⟩:=aKQ (hs ++ [y]);have Gi:Hid (cJ.length=nn):=jq (by rw[oK,List.length_append,cw.out];exact yx);have CX:Hid (bp cM 8 57 (X+1) M2 w8 v8 cJ):=jq (by rw[rD,oK,hy];exact H8.out.1);obtain⟨g,cap,rfl,oI,pE,pG⟩:=CX.out.formSome Gi.out (by omega);have HY:Hid (cJ[q]?=some y):=jq (by rw[oK,oQ (by rw[cw.out];exact bQ _),cw.out,Nat.sub_self];rfl);obtain⟨zc,sy,dvy,svy,fvy,pvy,Jw,iC,Bc,bX,tA,a1,a2,a3,a4,a5,a6⟩:=N7 CX.out (by rw[Gi.out];omega) HY.out;obtain⟨fA,fc,rfl,_,_⟩:=aj tA;obtain⟨fn,ed⟩:=aJZ y.fresh.length;obtain⟨fr,ew⟩:=aJZ y.fresh;rw[ed,ew] at tA;rw[ed] at a6;have xr:=jq tA;have T7:Hid (∀ k,(Value.slice (some ⟨g,0,none⟩) nn cap).ownBlock=some k->M k\/wS.heap.size=k):=jq (λk e=>by
         rcases H8.out.2.2 with h | h
         ·exact .inl (LY.out k (h ▸ e))
         ·rw[h] at e;exact .inr (Option.some.inj e))
        have Ge:Hid (∀ g',B<=g'->g'<X->M2 g'):=jq (λg' h1 h2=>by rw[rD];exact .inl (CU.out g' h1 h2));have xx:Hid (∀ g',M2 g'->(B<=g'/\g'≠cb)/\g'<w8.heap.size):=jq (λg' hg'=>by
         rw[rD] at hg';rcases hg' with h | h
         ·have:=rl.out g' h;omega
         ·rcases T7.out g' h with h2 | h2
          ·have:=rl.out g' h2;omega
          ·have:=CX.out.lt g' h;omega)
        have Gr:Hid (bp cM 8 57 (X+1) M2 w8 (.slice (some ⟨g,0,none⟩) nn cap) cJ):=CX;have NT:(Value.slice uA q uc).ownBlock≠some cb:=λe=>(rl.out cb (LY.out cb e)).1.2 rfl;have DT:w8.heap[cb]?=wG.heap[cb]?:=(H8.out.2.1.block cb (by omega) (λe=>NT e.symm)).trans (er.out.block cb (by omega));have f6:=a6;have c1:=(iQ (a:=⟨cb,1,none⟩) DT).trans t1;have c2:=(iQ (a:=⟨cb,2,none⟩) DT).trans t2;have K2:Hid (fr = []):=jq (by rw[<-ew,hy]);have mV:Hid (fr.length<=10000/\Np.o7 fr):=jq (by rw[K2.out];exact⟨by simp,λs hs=>by cases hs⟩);have jb:Hid (cJ.set q ⟨y.zone,y.signed,Np.bN (fr ++ [⟨x.frm,x.til⟩]),y.spans⟩=hsN zone (psK (copies.take k) zone x j ++ [(⟨x.frm,x.til⟩,sg)])):=jq (by
         have h1:=Yd (zone:=zone) (ps:=psK (copies.take k) zone x j) (s:=sg) (by rw[<-uC.out];exact T0.out) (sp:=⟨x.frm,x.til⟩);rw[<-uC.out,cw.out] at h1;rw[oK,K2.out,hy];exact h1)
        have Ft:Hid (Below (X+1) wi w8):=jq ((R2.out.aKZ).trans ((er.out.aKZ).trans ((vQ _ _).grown H8.out.2.1 (by omega) (λk e=>(oa.out.lt k e).1))));have FG:Hid (w8.heap[cb]?=wi.heap[cb]?):=jq (DT.trans Sr.out);have Xi:g≠cb:=λe=>(xx.out g pG).1.2 e;have gL:(q:Int)<(nn:Int):=by omega
        have cw:Hid (cJ.length=nn):=Gi;have hgS:g<w8.heap.size:=pE;clear rD hy oK ew ed Jw iC Bc bX tA a1 a2 a3 a4 a5 a6 e0 e1 e2 e3 e4 DT NT Ep t1 t2 t4;refine Cy λa0 br=>?_;have kp:=jq br;have uv:=jq (show a0.eval (.tmp 5) = .slice (some ⟨g,0,none⟩) nn cap by rw[br];rfl);have nV:=jq (show a0.eval (.tmp 7) = .pointer (some ⟨cb,0,none⟩) by rw[br];rfl);have lG:=jq (show a0.eval (.tmp 9) = .int .i64 (q:Nat) by rw[br];rfl);have HM:=jq (show a0.tmps.size=90 by rw[br];rfl);clear br;refine wp_region_any (by kernel_rfl) ?_;refine gM 12 (D:=[0,1,2,3,4,5,6,7,8,9,10,11,14,15]) (val:=gg g nn cap q fA fn fc cb x.frm x.til undef undef) ou qn (tx HM.out) (by kernel_rfl) ?_ ?_
        ·intro i aU bd o ho a' hb aM;have k5':=aLY hb uv.out;have k7':=aLY hb nV.out;have k9':=aLY hb lG.out;simp[Act.eval] at k5' k7' k9'
         repeat' (rcases aU with _ | ⟨_,aU⟩)
         all_goals first
          | (exfalso;simp at bd;done)
          | (cases ho
             try simp[Act.eval,Region.binds,gg,jy] at aM
             refine gE (by simp[Region.wanted]) ?_;simp[Oper.quietAt,Oper.quietUpon,execOp,go_sem,gg,k5',k7',k9',f6,c1,c2,ke,gL,aM])
        ·intro f listed a' hH hr hv;have av11:=hv 11;simp[Act.eval,gg,jy] at av11;simp only[wpOp];simp[Region.wanted];refine .inl ?_;simp[Oper.wp,execOp,go_sem,av11];obtain⟨wA,eE⟩:=aKQ ((w8.alloc (.cells #[.int .i64 x.frm,.int .i64 x.til] 110)).drew);rw[<-eE];have du:Below w8.heap.size w8 wA:=by rw[eE];exact ((vQ _ _).alloc (bQ _) _).drew
         have Es:wA.heap.size=w8.heap.size+1:=by rw[eE];simp[World.drew]
         have GF:Hid (SlR bA 2 wA wA.heap.size (.slice (some ⟨w8.heap.size,0,none⟩) 1 1) [⟨x.frm,x.til⟩]):=jq (Q2 (by omega) (by rw[eE];simp[go_sem]) (by rw[eE];simp[go_sem]));replace f6:=aIZ du f6;replace c1:=aIZ du c1;replace c2:=aIZ du c2;have xE:=jq (Gr.out.keep ep dL ea du);have FT:=jq ((xr.out.keep bE du).more dP du.size);have eb:=jq du;clear eE du;refine gM 13 (D:=[0,1,2,3,4,5,6,7,8,9,10,11,14,15,12]) (val:=gg g nn cap q fA fn fc cb x.frm x.til (.slice (some ⟨w8.heap.size,0,none⟩) 1 1) undef) ou qn (hH.next ou qn hr) (by kernel_rfl) ?_ ?_
         ·intro i aU bd o ho a' hb aM;have k5':=aLY hb uv.out;have k7':=aLY hb nV.out;have k9':=aLY hb lG.out;simp[Act.eval] at k5' k7' k9'
          repeat' (rcases aU with _ | ⟨_,aU⟩)
          all_goals first
           | (exfalso;simp at bd;done)
           | (cases ho
              try simp[Act.eval,Region.binds,gg,jy] at aM
              refine gE (by simp[Region.wanted]) ?_;simp[Oper.quietAt,Oper.quietUpon,execOp,go_sem,gg,k5',k7',k9',f6,c1,c2,ke,gL,aM])
         ·intro f listed a' hH hr hv;have av6:=hv 6;have av12:=hv 12;simp[Act.eval,gg,jy] at av6 av12;simp only[wpOp];simp[Region.wanted];refine .inl ?_;simp[Oper.wp,go_sem,av6,av12];refine (MV _ _ fr [⟨x.frm,x.til⟩] mV.out.1 (by simp) mV.out.2 (λs hs=>by rw[List.mem_singleton] at hs;subst hs;exact ze.out) wA FT.out GF.out).mono ?_;rintro e wB ⟨vB,rfl,rT,bj⟩;have Et:=bj.size;replace f6:=aIZ bj f6;replace c1:=aIZ bj c1;replace c2:=aIZ bj c2;have FO:Hid (∀ g,vB.ownBlock=some g->wA.heap.size<=g):=jq (λg hg=>(rT.lt g hg).1);obtain⟨em,hem⟩:=aJZ ((Np.bN (fr ++ [⟨x.frm,x.til⟩])).length);have aY:em<=20000:=by rw[<-hem];have:=mO (fr ++ [⟨x.frm,x.til⟩]);have:=mV.out.1;rw[List.length_append] at *;simp at *;omega
          obtain⟨eA,ec,rfl⟩:=EJ rT hem;have FQ:Hid (aw wA.heap.size wB (.slice eA em ec) (Np.bN (fr ++ [⟨x.frm,x.til⟩]))):=jq rT;have HEM:=jq hem;have gb:=jq (xE.out.keep ep dL ea bj);have dl:=jq bj;clear rT bj hem;dsimp only;refine gM 16 (D:=[0,1,2,3,4,5,6,7,8,9,10,11,14,15,12,13]) (val:=gg g nn cap q fA fn fc cb x.frm x.til (.slice (some ⟨w8.heap.size,0,none⟩) 1 1) (.slice eA em ec)) ou qn (hH.next ou qn hr) (by kernel_rfl) ?_ ?_
          ·intro i aU bd o ho a' hb aM;have k5':=aLY hb uv.out;have k7':=aLY hb nV.out;have k9':=aLY hb lG.out;simp[Act.eval] at k5' k7' k9'
           repeat' (rcases aU with _ | ⟨_,aU⟩)
           all_goals first
            | (exfalso;simp at bd;done)
            | (cases ho
               try simp[Act.eval,Region.binds,gg,jy] at aM
               refine gE (by simp[Region.wanted]) ?_;simp[Oper.quietAt,Oper.quietUpon,execOp,go_sem,gg,k5',k7',k9',f6,c1,c2,ke,gL,aM])
          ·intro f listed a' hH hr hv;have av13:=hv 13;have av15:=hv 15;simp[Act.eval,gg,jy] at av13 av15;simp only[wpOp];simp[Region.wanted];refine .inl ?_;have ff:wB.frozen? ⟨g,q * 8+6,none⟩=false:=gb.out.frozenAt cw.out _;simp[Oper.wp,execOp,go_sem,av13,av15,f6,ff];refine wT hH hr HM.out ou (by kernel_rfl) λew=>?_
           ·rw[ew,kp.out];simp[lF,Act.put,gg,jy];clear hv hH ew;clear f6 c1 c2 ff;have ck:Hid (bp cM 8 57 (X+1) M2 (wB.setCell ⟨g,q * 8+6,none⟩ (.slice eA em ec)) (.slice (some ⟨g,0,none⟩) nn cap) (cJ.set q ⟨y.zone,y.signed,Np.bN (fr ++ [⟨x.frm,x.til⟩]),y.spans⟩)):=jq (by
             refine bp.stored ep dL ea gb.out cw.out HY.out (by omega) _ (λr hr hR=>QE hR ?_);have h1:aw wA.heap.size (bn wB M2) (.slice eA em ec) (Np.bN (fr ++ [⟨x.frm,x.til⟩])):=cX FQ.out (λk hk=>kk (λhm=>by have h2:=FO.out k hk;have h3:=xx.out k hm;omega));have h4:=h1.slr (by rw[HEM.out];omega);rw[gW] at h4;exact h4)
            have FF:Hid ((wB.setCell ⟨g,q * 8+6,none⟩ (.slice eA em ec)).heap[cb]?=w8.heap[cb]?):=jq ((wQ _ _ _ cb (by dsimp only;omega)).trans ((dl.out.block cb (by omega)).trans (eb.out.block cb (by omega))));have gO:Hid (Below (X+1) w8 (wB.setCell ⟨g,q * 8+6,none⟩ (.slice eA em ec))):=jq ((((eb.out.aKZ).trans (dl.out.aKZ))).setCell (by dsimp only;omega) _);go_wp2_with fail;go_roundw
            case measure=>simp[intOf] <;> omega
            case rel=>
             exact⟨j+1,nn,by omega,by go_num,λha=>absurd nY.out ha,by have:=gO.out.size;omega,jq (ca.out.trans ((Ft.out.aKZ).trans gO.out)),jq (FF.out.trans (FG.out.trans xp.out)),_,M2,by rw[List.length_set];exact cw.out,jq ck.out,jq (by rw[xF.out];exact jb.out),jq (λg' hg=>by have:=xx.out g' hg;have:=gO.out.size;omega),Ge⟩
     ·obtain rfl:j=xn:=by omega
      go_wp2_with fail;go_roundw
      case measure=>simp[intOf] <;> omega
      case rel=>exact⟨k+1,n,by omega,by go_num,by omega,jq (ah.out.trans ca.out),hs,M,hn,oa,jq (by
       rw[uC.out,JO (.inl ⟨nY.out,zL.out.symm⟩)];obtain⟨hl,he⟩:=cQ.1 mW.out;rw[fQ hl,he]),jq (λg hg=>by have:=rl.out g hg;omega),CU⟩
  ·have jS:Hid (copies.take k=copies):=jq (kQ (by rw[eR.out];omega));go_wp2_with fail;go_ret;refine⟨_,rfl,?_,HB.out⟩;have he:=sM.out;rw[jS.out] at he;intro M' hM';have h9:=Gl.out.slr_sans dL ea (M':=M') (λg hg=>⟨Lq.out g (hM' g hg).1 (by have:=(hM' g hg).2;omega),λe2=>by have:=(Gl.out.lt g e2).1;have:=(hM' g hg).2;omega⟩) (by rw[he];have:=OT zone (Np.cL copies zone);have:=mX.out;omega);rw[he] at h9;exact h9
end
section
open Go.RowKit
def Np.uY(h:Np.Hist)(z:List UInt8):Prop:=Np.VHist h/\Np.aG z=true
def Np.xP(h:Np.Hist)(z:List UInt8):Prop:=∃ c∈h.copies,c.zone.apex=z
theorem akX(e:List Value)(h:Np.Hist)(hf:Np.xb h)(w:World)(hh:fM w w.heap.size e h) :
 Calls prog 44 #[.agg e.toArray] w (aOJ w.heap.size w (.bool (Np.yes (Np.VHist h)))):=by
 obtain⟨hv,cv,s,dv,dx,rfl,h1,h2,h3,h4,h5,h6⟩:=hh;obtain⟨hosts,copies,⟨name,ty,life,data⟩,hints,drift,stop⟩:=h;dsimp only at h1 h3 h4 h5 h6;subst h1;exact Qv _ hosts _ copies s h2 ty life _ data _ hints drift stop hf.1 hf.2 _ h3 h4 h5 h6
end
end Go.Proofs.YtfnopgdcaanaiaaGreatDoor
