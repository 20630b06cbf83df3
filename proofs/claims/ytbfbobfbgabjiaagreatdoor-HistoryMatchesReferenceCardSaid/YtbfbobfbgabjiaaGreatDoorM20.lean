/- Parts of the proof. No condition. -/
import Derived.Lib.AppendStr
import Derived.Test.YtbfbobfbgabjiaaGreatDoorProg
import Derived.Test.YtbfbobfbgabjiaaGreatDoorM19
set_option linter.all false
set_option maxRecDepth 100000
set_option maxHeartbeats 8000000
namespace Go.Proofs.YtbfbobfbgabjiaaGreatDoor
open Go.Proofs.Tryz
section
open Go.RowKit Go.Shelf
def ft(g n cap q:Nat)(fA:Option Addr)(fn fc cb:Nat)(xf xt:Int)(e12:Value)(e13:Value)(i:Nat):Value:=[.slice (some ⟨g,0,none⟩) n cap,.int .i64 (q:Nat),.slice (some ⟨g,0,none⟩) n cap,.int .i64 (q:Nat),.pointer (some ⟨g,q * 8,none⟩),.pointer (some ⟨g,q * 8+6,none⟩),.slice fA fn fc,.pointer (some ⟨cb,1,none⟩),.int .i64 xf,.pointer (some ⟨cb,2,none⟩),.int .i64 xt,.agg #[.int .i64 xf,.int .i64 xt],e12,e13,.pointer (some ⟨g,q * 8,none⟩),.pointer (some ⟨g,q * 8+6,none⟩),undef].getD i undef
def eY(i:Nat):Nat:=[73,74,75,76,77,78,79,80,81,82,83,84,85,86,87,88,0].getD i 0
def vF:List Nat:=[0,1,2,3,4,5,6,7,8,9,10,11,14,15,12,13].map eY
theorem kd:∀ i∈[0,1,2,3,4,5,6,7,8,9,10,11,14,15,12,13],eY i<90/\eY i∈vF:=by decide
theorem qw:∀ i∈[0,1,2,3,4,5,6,7,8,9,10,11,14,15,12,13],∀ j∈[0,1,2,3,4,5,6,7,8,9,10,11,14,15,12,13],j≠i->eY i≠eY j:=by decide
theorem Dk{base n:Nat}{w:World}{v:Value}{ps:List Np.Span}(h:aI base w v ps)(hn:ps.length=n):∃ A c,v = .slice A n c:=by subst hn; exact h.form
theorem Tryz.infoHeldA:(prog.info? 70).map (λi=>(i.zero,i.size,i.bytes))=some (some (.agg #[.string ⟨#[]⟩,.string ⟨#[]⟩,.int .i64 0,.int .i64 0,.slice none 0 0,.slice none 0 0,.slice none 0 0,.slice none 0 0]),8,144):=by kernel_rfl
theorem Tw{a b:Np.Signed}{s t:ByteArray}(hs:s.data.toList=a.set.name)(ht:t.data.toList=b.set.name):decide ((s=t/\a.set.type=b.set.type/\a.set.life=b.set.life/\a.set.data=b.set.data)/\a.sigs=b.sigs)=decide (a=b):=by
 obtain⟨⟨n1,t1,l1,d1⟩,g1⟩:=a;obtain⟨⟨n2,t2,l2,d2⟩,g2⟩:=b;dsimp only at hs ht;have e:s=t↔n1=n2:=⟨λh=>by rw[<-hs,<-ht,h],λh=>iV (by rw[hs,ht,h])⟩;simp only[e,Np.Signed.mk.injEq,Np.DSet.mk.injEq]
def psK(l:List Np.Copy)(zone:List UInt8)(x:Np.Copy)(j:Nat):List (Np.Span×Np.Signed):=Np.dJ l zone++(x.zone.sets.take j).map λs=>(Np.im x,s)
theorem Hz{l:List Np.Copy}{zone:List UInt8}{x:Np.Copy}{j:Nat}(h:(x.zone.apex=zone/\j=x.zone.sets.length)\/(x.zone.apex≠zone/\j=0)):psK l zone x j=Np.dJ (l ++ [x]) zone:=by
 unfold psK;rw[Np.G5];congr 1;unfold Np.dJ Np.rI Np.oI;rcases h with ⟨h1,rfl⟩ | ⟨h1,rfl⟩
 ·rw[List.take_length]; simp[h1]
 ·have:(x.zone.apex == zone)=false:=by simpa using h1
  simp[this]
theorem YH{l:List Np.Copy}{zone:List UInt8}{x:Np.Copy}{j:Nat}{s:Np.Signed}(h:x.zone.sets[j]?=some s):psK l zone x (j+1)=psK l zone x j ++ [(⟨x.frm,x.til⟩,s)]:=by
 obtain⟨hl,he⟩:=cQ.1 h;unfold psK;rw[fQ hl,he,List.map_append,List.append_assoc];rfl
theorem Zq{l:List Np.Copy}{zone:List UInt8}{x:Np.Copy}{k j:Nat}(h:l[k]?=some x)(ha:x.zone.apex=zone):(psK (l.take k) zone x j).length<=(Np.dJ l zone).length:=by
 obtain⟨hl,he⟩:=cQ.1 h;have h1:(psK (l.take k) zone x j).length<=(psK (l.take k) zone x x.zone.sets.length).length:=by
  unfold psK;simp only[List.length_append,List.length_map,List.length_take];omega
 rw[Hz (.inl ⟨ha,rfl⟩),show l.take k ++ [x]=l.take (k+1) by rw[fQ hl,he]] at h1;have h2:(Np.dJ (l.take (k+1)) zone).length<=(Np.dJ l zone).length:=by
  conv => rhs; rw[<-List.take_append_drop (k+1) l,Np.G5]
  rw[List.length_append]; omega
 omega
theorem YI{l:List Np.Copy}(hf:Np.kR l){zone:List UInt8}{x:Np.Copy}{k j:Nat}(h:l[k]?=some x):Ee (psK (l.take k) zone x j):=λp hp=>by
 rcases List.mem_append.1 hp with hp | hp
 ·obtain⟨c,hc,_,_,h3⟩:=Np.tA.1 hp;rw[h3]; exact hf c (List.mem_of_mem_take hc)
 ·obtain⟨s,_,rfl⟩:=List.mem_map.1 hp;exact hf x (gQ h)
theorem U3(e:List Value)(h:Np.Hist)(hf:Np.kR h.copies)(h5:h.copies.length<=500)(z:ByteArray)(hz:z.size<=140737488355328)(hp:(Np.dJ h.copies z.data.toList).length<=5000)(eM:∀ c∈h.copies,c.zone.sets.length<=20000)(w:World)(hh:bw w w.heap.size e h) :
 Calls prog 67 #[.agg e.toArray,.string z] w λe w'=>∃ v',e = .returned v'/\SlR fS 8 w' w'.heap.size v' (Np.pub h.copies z.data.toList)/\Below w.heap.size w w':=by
 obtain⟨hv,cv,s,dv,cj,rfl,_,_,h3,h4,h5',h6⟩:=hh;obtain⟨hosts,copies,⟨name,ty,life,data⟩,hints,drift,stop⟩:=h;dsimp only at h3 h4 h5' h6 h5 hf hp eM |-;have HD:=jq h4;obtain⟨A1,c1,rfl,_,_⟩:=ag h3;obtain⟨A2,c2,rfl,_,_⟩:=ag h4;obtain⟨A3,c3,rfl,_,_⟩:=ag h5';obtain⟨A4,c4,rfl,_,_⟩:=ag h6;clear h3 h4 h5' h6;obtain⟨n1,aJ⟩:∃ n,hosts.length=n:=⟨_,rfl⟩;obtain⟨n2,aK⟩:∃ n,copies.length=n:=⟨_,rfl⟩;obtain⟨n3,bk⟩:∃ n,data.length=n:=⟨_,rfl⟩;obtain⟨n4,bl⟩:∃ n,hints.length=n:=⟨_,rfl⟩;rw[aJ,aK,bk,bl];rw[aK] at HD h5;have RE:=jq hf;have KG:=jq hp;have aUY:=jq eM;clear hf hp eM;have er:=jq aK;clear aJ aK bk bl;obtain⟨X,hX⟩:∃ X,w.heap.size=X:=⟨_,rfl⟩;obtain⟨W1,ae⟩:∃ W1,w.alloc (.cells #[.slice A1 n1 c1,.slice A2 n2 c2,.string s,.int .i64 ty,.int .i64 life,.slice A3 n3 c3,.slice A4 n4 c4,.int .i64 drift,.int .i64 stop] 29)=W1:=⟨_,rfl⟩;have aw:Below w.heap.size w W1:=by rw[<-ae]; exact (vQ _ _).alloc (bQ _) _
 have eG:W1.heap.size=w.heap.size+1:=by rw[<-ae]; simp
 have k1:W1.cell? ⟨X,1,none⟩=some (.slice A2 n2 c2):=by rw[<-ae,<-hX]; simp[go_sem]
 rw[hX] at aw eG HD |-;have ay:=jq aw;clear aw;obtain⟨i0,nj,ea,bI,aN⟩:=info_parts Tryz.infoHeldA;obtain⟨zone,Lu⟩:∃ zone,z.data.toList=zone:=⟨_,rfl⟩;rw[Lu] at KG |-;have FF:=jq Lu;clear Lu;go_enter func67,ntmps67;go_wp2_with fail;clear ae hX;go_loopw [5,6] (λvo i wr=>∃ (k n:Nat),k<=n2/\i = .int .i64 k/\X<wr.heap.size/\Hid (Below (X+1) W1 wr)/\∃ (hs:List Np.Held) (M:Nat->Prop),hs.length=n/\Hid (bJ fS 8 70 (X+1) M wr vo hs)/\Hid (hs=hsN zone (Np.dJ (copies.take k) zone))/\Hid (∀ g,M g->X+1<=g/\g<wr.heap.size)) (λ_ i _=>n2 - (intOf i).toNat)
 case atStart=>exact⟨0,0,jQ _,rfl,by omega,jq (vQ _ _),[],λ_=>False,rfl,jq (bJ.nil _),jq (by rw[List.take_zero]; rfl),jq (λg h=>h.elim)⟩
 case round=>
  obtain⟨k,n0,hk,rfl,uE,aO,gD,M0,mo,Rd,uO,P0⟩:=hrel;have HB:=jq (ay.out.trans (aO.out.mono (by omega)));have q1:=(cl aO.out (by omega)).trans k1;by_cases ab:k<n2
  ·obtain⟨x,ac⟩:∃ x,copies[k]?=some x:=⟨_,aQ (by rw[er.out]; exact ab)⟩;obtain⟨b,o,sn,vz,rfl,bg,az,bL,bX,f0,f1,f2,f3,f4⟩:=nC (HD.out.keep fk HB.out) ac;have dU:=jq bX;obtain⟨Az,cz,rfl,_,_⟩:=ag bX;obtain⟨xn,qf⟩:∃ n,x.zone.sets.length=n:=⟨_,rfl⟩;rw[qf] at f4 dU;have rv:=jq qf;have Qu:xn<=20000:=by rw[<-qf]; exact aUY.out x (gQ ac)
   have aS:=jq (And.intro az bL);have qh:=jq ac;have uX:Hid (x.frm<x.til):=jq (RE.out x (gQ ac));have bW:(0:Int)<=(k:Int):=by omega
   have bV:(k:Int)<(n2:Int):=by omega
   obtain⟨cb,dX⟩:∃ cb,wr.heap.size=cb:=⟨_,rfl⟩;have Rh:=jq dX;obtain⟨w2,ai⟩:∃ w2,wr.alloc (.cells #[.int .i64 x.host,.int .i64 x.frm,.int .i64 x.til,.string sn,.slice Az xn cz] 58)=w2:=⟨_,rfl⟩;have beZ:w2.heap.size=cb+1:=by rw[<-ai,<-dX]; simp
   have aa:Below wr.heap.size wr w2:=by rw[<-ai]; exact (vQ _ _).alloc (bQ _) _
   have p1:w2.cell? ⟨cb,1,none⟩=some (.int .i64 x.frm):=by rw[<-ai,<-dX]; simp[go_sem]
   have p2:w2.cell? ⟨cb,2,none⟩=some (.int .i64 x.til):=by rw[<-ai,<-dX]; simp[go_sem]
   have p3:w2.cell? ⟨cb,3,none⟩=some (.string sn):=by rw[<-ai,<-dX]; simp[go_sem]
   have p4:w2.cell? ⟨cb,4,none⟩=some (.slice Az xn cz):=by rw[<-ai,<-dX]; simp[go_sem]
   have ak:=jq (aO.out.trans (aa.mono (by omega)));have aC:=jq (Rd.out.keep ii j8 gU aa);have aNJ:Hid (∀ g,M0 g->X+1<=g/\g<w2.heap.size):=jq (λg hg=>by have:=P0.out g hg; omega);have bbK:X<cb:=by omega
   obtain⟨ap,oV⟩:∃ ap,(sn.toList == z.toList)=ap:=⟨_,rfl⟩;have R1:Hid (ap=true↔x.zone.apex=zone):=jq (by rw[<-oV,dQ,dQ,aS.out.1,FF.out]; simp);have aTX:=jq aa;clear ac az bX qf bL aa dX;go_wp2_with fail;rw[Rh.out];clear ai f0 f1 f2 f3 f4;obtain⟨wo,rfl⟩:∃ wo,wo=wr:=⟨_,rfl⟩;go_loopw [5,8] (λvo i wr=>∃ (j n:Nat),j<=xn/\i = .int .i64 j/\(¬ x.zone.apex=zone->j=0)/\w2.heap.size<=wr.heap.size/\Hid (Below (X+1) w2 wr)/\Hid (wr.heap[cb]?=w2.heap[cb]?)/\∃ (hs:List Np.Held) (M:Nat->Prop),hs.length=n/\Hid (bJ fS 8 70 (X+1) M wr vo hs)/\Hid (hs=hsN zone (psK (copies.take k) zone x j))/\Hid (∀ g,M g->(X+1<=g/\g≠cb)/\g<wr.heap.size)) (λ_ i _=>xn - (intOf i).toNat)
   case atStart=>exact⟨0,n0,jQ _,rfl,λ_=>rfl,bQ _,jq (vQ _ _),jq rfl,gD,M0,mo,aC,jq (by rw[uO.out]; unfold psK; simp),jq (λg hg=>by have h1:=P0.out g hg; have h2:=aNJ.out g hg; have h3:=Rh.out; omega)⟩
   case round=>
    obtain⟨j,n,hj,rfl,jx,E9,cA,yI,hs,M,hn,p8,wh,rb⟩:=hrel;have r1:=(iQ (a:=⟨cb,1,none⟩) yI.out).trans p1;have r2:=(iQ (a:=⟨cb,2,none⟩) yI.out).trans p2;have r3:=(iQ (a:=⟨cb,3,none⟩) yI.out).trans p3;have r4:=(iQ (a:=⟨cb,4,none⟩) yI.out).trans p4
    cases ap with
    | false=>
     have SD:Hid (¬ x.zone.apex=zone):=jq (λh=>by have:=R1.out.2 h; cases this);have hjz:=jx SD.out;subst hjz;go_wp2_with fail;go_roundw
     case measure=>simp[intOf] <;> omega
     case rel=>exact⟨k+1,n,by omega,by go_num,by omega,jq (ak.out.trans cA.out),hs,M,hn,p8,jq (by
      rw[wh.out,Hz (.inr ⟨SD.out,rfl⟩)];obtain⟨hl,he⟩:=cQ.1 qh.out;rw[fQ hl,he]),jq (λg hg=>by have:=rb.out g hg; omega)⟩
    | true=>
     have pt:Hid (x.zone.apex=zone):=jq (R1.out.1 rfl);by_cases qU:j<xn
     ·obtain⟨sg,KX⟩:∃ sg,x.zone.sets[j]?=some sg:=⟨_,aQ (by rw[rv.out]; exact qU)⟩;have yG:=jq (YH (l:=copies.take k) (zone:=zone) KX);have F5:=jq KX;have jD:Hid ((psK (copies.take k) zone x j).length<=5000):=jq (by have:=Zq (j:=j) qh.out pt.out; have:=KG.out; omega);have xq:Hid (Ee (psK (copies.take k) zone x j)):=jq (YI RE.out qh.out);have yU:n<=5000:=by rw[<-hn,wh.out]; have:=Ia zone (psK (copies.take k) zone x j); have:=jD.out; omega
      have dh:=jq hn;have blJ:(0:Int)<=(j:Int):=by omega
      have bbZ:(j:Int)<(xn:Int):=by omega
      clear KX hn;go_wp2_with fail;obtain⟨wi,rfl⟩:∃ wi,wi=wr:=⟨_,rfl⟩;go_loopw [9] (λi wr=>∃ q:Nat,q<=n/\i = .int .i64 q/\Hid (Below wi.heap.size wi wr)/\Hid (∀ y∈hs.take q,y.signed≠sg)) (λi _=>n - (intOf i).toNat)
      case atStart=>exact⟨0,jQ _,rfl,jq (vQ _ _),jq (by simp)⟩
      case round=>
       obtain⟨q,hq,rfl,lP,xg⟩:=hrel;have hzq:=lP.out.size;have s1:=(cl lP.out (by omega)).trans r1;have s2:=(cl lP.out (by omega)).trans r2;have s3:=(cl lP.out (by omega)).trans r3;have s4:=(cl lP.out (by omega)).trans r4;have IX:=jq (p8.out.keep ii j8 gU lP.out);have ry:Hid (Below X wo wr):=jq ((aTX.out.mono (by omega)).trans ((cA.out.mono (by omega)).trans (lP.out.mono (by omega))));have kJ:(0:Int)<=(q:Int):=by omega
       by_cases nX:q<n
       ·obtain⟨y,hy⟩:∃ y,hs[q]?=some y:=⟨_,aQ (by rw[dh.out]; exact nX)⟩;obtain⟨g,cap,rfl,re,ul,pM⟩:=p8.out.formSome dh.out (by omega);obtain⟨zc,sy,dvy,svy,fvy,pvy,E6,iR,C2,dM,uK,a1,a2,a3,a4,a5,a6⟩:=OO IX.out (by rw[dh.out]; omega) hy;obtain⟨b',o',c',ss,dvs,svs,hA,hb',_,fW,_,qZ,wK,e0,e1,e2,e3,e4⟩:=eT (dU.out.keep aV ry.out) F5.out;simp only[Value.slice.injEq] at hA;obtain⟨rfl,-,rfl⟩:=hA;have gO:(q:Int)<(n:Int):=by omega
        have HY:=jq hy;have tf:=jq C2;have Rs:=jq dM;have Cr:=jq qZ;have A9:=jq wK;have IC:=jq uK;have un:=jq iR;have mr:=jq fW;obtain⟨dA,dc,rfl,_,_⟩:=ag C2;obtain⟨gA,gc,rfl,_,_⟩:=ag dM;obtain⟨dB,dd,rfl,_,_⟩:=ag qZ;obtain⟨gB,gd,rfl,_,_⟩:=ag wK;obtain⟨fA,fc,rfl,_,_⟩:=ag uK;obtain⟨dn,n9⟩:∃ n,y.signed.set.data.length=n:=⟨_,rfl⟩;obtain⟨gn,oh⟩:∃ n,y.signed.sigs.length=n:=⟨_,rfl⟩;obtain⟨dm,Cz⟩:∃ n,sg.set.data.length=n:=⟨_,rfl⟩;obtain⟨gm,AU⟩:∃ n,sg.sigs.length=n:=⟨_,rfl⟩;obtain⟨fn,gK⟩:∃ n,y.fresh.length=n:=⟨_,rfl⟩;rw[n9] at a4 tf;rw[oh] at a5 Rs;rw[Cz] at e3 Cr;rw[AU] at e4 A9;rw[gK] at a6 IC;obtain⟨bb,du⟩:∃ bb,decide (y.signed=sg)=bb:=⟨_,rfl⟩;have AX:g<wr.heap.size:=by omega
        have K4:cb<wr.heap.size:=by omega
        have aWK:b'<wr.heap.size:=by omega
        have kq:∀ (gr:bE wr) (p:Addr),p.block<wr.heap.size->gr.w.cell? p=wr.cell? p:=λgr p h=>gr.cell p h;have bT:∀ gr:bE wr,Calls prog 30 #[.agg #[.string sy,.int .i64 y.signed.set.type,.int .i64 y.signed.set.life,.slice dA dn dc,.slice gA gn gc],.agg #[.string ss,.int .i64 sg.set.type,.int .i64 sg.set.life,.slice dB dm dd,.slice gB gm gd]] gr.w λe w'=>e = .returned (.bool bb)/\Below gr.w.heap.size gr.w w':=λgr=>
         (C7 sy ss _ _ _ _ _ _ _ _ y.signed.set.data sg.set.data y.signed.sigs sg.sigs gr.w (tf.out.later cL dp gr.below) (((Cr.out.more dp (by omega)).later cL dp gr.below)) (Rs.out.later gg ij gr.below) (((A9.out.more ij (by omega)).later gg ij gr.below))).mono λe w' h=>⟨by rw[h.1,<-du,Tw un.out mr.out],h.2⟩
        have iC:=jq bT;have Q1:=jq du;clear bT hy E6 iR C2 dM uK fW qZ wK n9 oh Cz AU gK du
        cases bb with
        | false=>
         go_wp2_with fail;refine en (by kernel_rfl) (by kernel_rfl) ?_
         repeat (go_big_quiet_step ((go_at_call 30; exact Calls.grow_of (iC.out _))))
         refine wpQuiet_nil ?_;rintro _ ⟨gr,rfl⟩;go_wp2_with fail;go_roundw
         case measure=>simp[intOf] <;> omega
         case rel=>exact⟨q+1,by omega,by go_num,jq (lP.out.trans (gr.below.mono (by omega))),jq (λy' hy'=>by
          obtain⟨hl,he⟩:=cQ.1 HY.out;rw[fQ hl,he] at hy';rcases List.mem_append.1 hy' with h | h
          ·exact xg.out y' h
          ·rw[List.mem_singleton] at h; subst h; exact of_decide_eq_false Q1.out)⟩
        | true=>
         have HYS:Hid (y.signed=sg):=jq (of_decide_eq_true Q1.out);have EU:((q:Int) == (n:Int))=false:=by simp; omega
         have a7Z:decide (q=n)=false:=by simp; omega
         have bjJ:¬ q=n:=by omega
         go_wp2_with fail;refine en (by kernel_rfl) (by kernel_rfl) ?_
         repeat (go_big_quiet_step ((go_at_call 30; exact Calls.grow_of (iC.out _))))
         refine wpQuiet_nil ?_;rintro _ ⟨gr,rfl⟩;have fJ:=gr.below;obtain⟨wG,Bx⟩:∃ wG,gr.w=wG:=⟨_,rfl⟩;rw[Bx] at fJ |-;have Q5:=fJ.size;have f6:=(cl fJ (by omega)).trans a6;have c1:=(cl fJ (by omega)).trans s1;have c2:=(cl fJ (by omega)).trans s2;obtain⟨M2,xo⟩:∃ M2,M2=M:=⟨_,rfl⟩;obtain⟨b7,oY⟩:∃ b7,b7=hs:=⟨_,rfl⟩;have La:Hid (bJ fS 8 70 (X+1) M2 wG (.slice (some ⟨g,0,none⟩) n cap) b7):=jq (by rw[xo,oY]; exact IX.out.keep ii j8 gU fJ);have HY:Hid (b7[q]?=some y):=jq (by rw[oY]; exact HY.out);have dh:Hid (b7.length=n):=jq (by rw[oY]; exact dh.out);obtain⟨fr,oX⟩:∃ fr,y.fresh=fr:=⟨_,rfl⟩;rw[oX] at IC;have ui:=jq ((IC.out.keep fE fJ).more jY Q5);have zP:Hid (∀ g',M2 g'->(X+1<=g'/\g'≠cb)/\g'<wG.heap.size):=jq (λg' hg'=>by rw[xo] at hg'; have:=rb.out g' hg'; omega);have J4:(hsN zone (psK (copies.take k) zone x j))[q]?=some y:=by rw[<-wh.out,<-oY]; exact HY.out
         have n7:Hid (fr.length<=10000/\Np.mM fr):=jq (by
          have h1:=(Pj J4).1;have h2:fr=Np.bq (Np.ep (psK (copies.take k) zone x j) y.signed):=by rw[<-oX,h1]
          rw[h2];exact⟨by have:=qv (Np.ep (psK (copies.take k) zone x j) y.signed); have:=NM (psK (copies.take k) zone x j) y.signed; have:=jD.out; omega,(Np.tB (x8 xq.out _)).1.full⟩)
         have jC:Hid (b7.set q ⟨y.zone,y.signed,Np.bq (fr ++ [⟨x.frm,x.til⟩]),y.spans⟩=hsN zone (psK (copies.take k) zone x j ++ [(⟨x.frm,x.til⟩,sg)])):=jq (by
          rw[oY,wh.out,<-HYS.out,<-ZC xq.out J4 uX.out,oX])
         have KV:Hid (Below wi.heap.size wi wG):=jq (lP.out.trans (fJ.mono (by omega)));have LB:Hid (wG.heap[cb]?=wi.heap[cb]?):=jq ((fJ.block cb (by omega)).trans (lP.out.block cb (by omega)));have axZ:g≠cb:=λe=>(rb.out g pM).1.2 e;clear fJ Bx xo oY oX J4 a1 a2 a3 a4 a5 a6 e0 e1 e2 e3 e4 s1 s2 s3 s4 kq;go_wp2_with fail;refine AF λa0 bi=>?_;have jg:=jq bi;have mW:=jq (show a0.eval (.tmp 5) = .slice (some ⟨g,0,none⟩) n cap by rw[bi]; rfl);have wt:=jq (show a0.eval (.tmp 7) = .pointer (some ⟨cb,0,none⟩) by rw[bi]; rfl);have mi:=jq (show a0.eval (.tmp 9) = .int .i64 (q:Nat) by rw[bi]; rfl);have HM:=jq (show a0.tmps.size=90 by rw[bi]; rfl);clear bi;refine wp_region_any (by kernel_rfl) ?_;refine fN (w:=wG.drew) (D:=[0,1,2,3,4,5,6,7,8,9,10,11,14,15]) (A:=[]) (p:=12) (dst:=eY) (val:=ft g n cap q fA fn fc cb x.frm x.til undef undef) (m:=90)
          (base:=dt a0 90 vF) (fM (by kernel_rfl)) (by simp) (by simp) (fD (by kernel_rfl)) ?_
          (λi hi=>(kd i (by simp at hi |-; omega)).1) (λi hi j hj=>qw i (by simp at hi |-; omega) j (by simp at hj |-; omega)) (λi hi=>cx (kd i (by simp at hi |-; omega)).2) ?_ ?_ _ _ _ (Held.start (λq hq=>pw q hq) HM.out)
         ·intro i hi ar;simp only[List.mem_cons,Qh,or_false] at hi;rcases hi with rfl | rfl | rfl | rfl | rfl | rfl | rfl | rfl | rfl | rfl | rfl | rfl | rfl | rfl
          all_goals first | (exfalso; simp at ar; done) | exact⟨_,rfl,rfl⟩
         ·intro i hi ar o ho a' hb aR;have k5':=(aT hb (j:=5) (by decide) (by decide)).trans mW.out;have k7':=(aT hb (j:=7) (by decide) (by decide)).trans wt.out;have k9':=(aT hb (j:=9) (by decide) (by decide)).trans mi.out;simp[Act.eval] at k5' k7' k9';simp only[List.mem_cons,Qh,or_false] at hi;rcases hi with rfl | rfl | rfl | rfl | rfl | rfl | rfl | rfl | rfl | rfl | rfl | rfl | rfl | rfl
          all_goals first
           | (exfalso; simp at ar; done)
           | (cases ho
              try simp[Act.eval,Region.binds,ft,eY] at aR
              refine .inl ⟨by simp[Region.wanted],λw' hw'=>?_⟩;subst hw';simp[Oper.quietAt,Oper.quietUpon,execOp,go_sem,ft,k5',k7',k9',f6,c1,c2,kJ,gO,aR])
         ·intro f listed a' hH hr;obtain⟨_,o,ho,ax⟩:=mem_ready.1 hr
          cases ho
          have hG:=hH.good;have hval:=λi hi hl=>hG.val i hi hl;have bB:∀ k,({ on:=k,ground:=.data } : Edge)∈_->listed.getD k false=true:=λk hk=>ax _ hk rfl;have av11:=hval 11 (by simp) (bB 11 (by simp));simp[Act.eval,ft,eY] at av11;simp only[wpOp];simp[Region.wanted];refine .inl ?_;simp[Oper.wp,execOp,go_sem,av11];obtain⟨wA,gR⟩:∃ W,W=(wG.alloc (.cells #[.int .i64 x.frm,.int .i64 x.til] 114)).drew:=⟨_,rfl⟩;rw[<-gR];have eC:Below wG.heap.size wG wA:=by rw[gR]; exact ((vQ _ _).alloc (bQ _) _).drew
          have Lr:wA.heap.size=wG.heap.size+1:=by rw[gR]; simp[World.drew]
          have Ku:Hid (SlR cV 2 wA wA.heap.size (.slice (some ⟨wG.heap.size,0,none⟩) 1 1) [⟨x.frm,x.til⟩]):=jq (Hx (by omega) (by rw[gR]; simp[go_sem]) (by rw[gR]; simp[go_sem]));replace f6:=(cl eC (by omega)).trans f6;replace c1:=(cl eC (by omega)).trans c1;replace c2:=(cl eC (by omega)).trans c2;have KM:=jq (La.out.keep ii j8 gU eC);have Br:=jq ((ui.out.keep fE eC).more jY eC.size);have ei:=jq eC;clear gR eC;refine fN (w:=wA) (D:=[0,1,2,3,4,5,6,7,8,9,10,11,14,15,12]) (A:=[12]) (p:=13) (dst:=eY) (val:=ft g n cap q fA fn fc cb x.frm x.til (.slice (some ⟨wG.heap.size,0,none⟩) 1 1) undef) (m:=90)
           (base:=dt a0 90 vF) (fM (by kernel_rfl)) (by simp) (by simp) (fD (by kernel_rfl)) ?_
           (λi hi=>(kd i (by simp at hi |-; omega)).1) (λi hi j hj=>qw i (by simp at hi |-; omega) j (by simp at hj |-; omega)) (λi hi=>cx (kd i (by simp at hi |-; omega)).2) ?_ ?_ _ _ _ (hH.act (D':=[0,1,2,3,4,5,6,7,8,9,10,11,14,15,12]) (val':=ft g n cap q fA fn fc cb x.frm x.til (.slice (some ⟨wG.heap.size,0,none⟩) 1 1) undef) hr (by simp) (λi hi=>by simp at hi |-; omega) (λi hi=>by simp at hi; rcases hi with rfl | rfl | rfl | rfl | rfl | rfl | rfl | rfl | rfl | rfl | rfl | rfl | rfl | rfl <;> rfl) rfl (by simp[eY]) (λj hj=>qw 12 (by simp) j (by simp at hj |-; omega) (by rintro rfl; simp at hj)) (cx (kd 12 (by simp)).2) (by simp))
          ·intro i hi ar;simp only[List.mem_cons,Qh,or_false] at hi;rcases hi with rfl | rfl | rfl | rfl | rfl | rfl | rfl | rfl | rfl | rfl | rfl | rfl | rfl | rfl | rfl
           all_goals first | (exfalso; simp at ar; done) | exact⟨_,rfl,rfl⟩
          ·intro i hi ar o ho a' hb aR;have k5':=(aT hb (j:=5) (by decide) (by decide)).trans mW.out;have k7':=(aT hb (j:=7) (by decide) (by decide)).trans wt.out;have k9':=(aT hb (j:=9) (by decide) (by decide)).trans mi.out;simp[Act.eval] at k5' k7' k9';simp only[List.mem_cons,Qh,or_false] at hi;rcases hi with rfl | rfl | rfl | rfl | rfl | rfl | rfl | rfl | rfl | rfl | rfl | rfl | rfl | rfl | rfl
           all_goals first
            | (exfalso; simp at ar; done)
            | (cases ho
               try simp[Act.eval,Region.binds,ft,eY] at aR
               refine .inl ⟨by simp[Region.wanted],λw' hw'=>?_⟩;subst hw';simp[Oper.quietAt,Oper.quietUpon,execOp,go_sem,ft,k5',k7',k9',f6,c1,c2,kJ,gO,aR])
          ·intro f listed a' hH hr;obtain⟨_,o,ho,ax⟩:=mem_ready.1 hr
           cases ho
           have hG:=hH.good;have hval:=λi hi hl=>hG.val i hi hl;have bB:∀ k,({ on:=k,ground:=.data } : Edge)∈_->listed.getD k false=true:=λk hk=>ax _ hk rfl;have av6:=hval 6 (by simp) (bB 6 (by simp));have av12:=hval 12 (by simp) (bB 12 (by simp));simp[Act.eval,ft,eY] at av6 av12;simp only[wpOp];simp[Region.wanted];refine .inl ?_;simp[Oper.wp,go_sem,av6,av12];refine (GM _ _ fr [⟨x.frm,x.til⟩] n7.out.1 (by simp) n7.out.2 (λs hs=>by rw[List.mem_singleton] at hs; subst hs; exact uX.out) wA Br.out Ku.out).mono ?_;rintro e wB ⟨vB,rfl,sS,bg⟩;have Jv:=bg.size;replace f6:=(cl bg (by omega)).trans f6;replace c1:=(cl bg (by omega)).trans c1;replace c2:=(cl bg (by omega)).trans c2;have LA:Hid (∀ g,vB.ownBlock=some g->wA.heap.size<=g):=jq (λg hg=>(sS.lt g hg).1);obtain⟨em,hem⟩:∃ em,(Np.bq (fr ++ [⟨x.frm,x.til⟩])).length=em:=⟨_,rfl⟩;have bU:em<=20000:=by rw[<-hem]; have:=qv (fr ++ [⟨x.frm,x.til⟩]); have:=n7.out.1; rw[List.length_append] at *; simp at *; omega
           obtain⟨eA,ec,rfl⟩:=Dk sS hem;have IY:Hid (aI wA.heap.size wB (.slice eA em ec) (Np.bq (fr ++ [⟨x.frm,x.til⟩]))):=jq sS;have HEM:=jq hem;have iI:=jq (KM.out.keep ii j8 gU bg);have dE:=jq bg;clear sS bg hem;dsimp only;refine fN (w:=wB) (D:=[0,1,2,3,4,5,6,7,8,9,10,11,14,15,12,13]) (A:=[13,12]) (p:=16) (dst:=eY) (val:=ft g n cap q fA fn fc cb x.frm x.til (.slice (some ⟨wG.heap.size,0,none⟩) 1 1) (.slice eA em ec)) (m:=90)
            (base:=dt a0 90 vF) (fM (by kernel_rfl)) (by simp) (by simp) (fD (by kernel_rfl)) ?_
            (λi hi=>(kd i (by simp at hi |-; omega)).1) (λi hi j hj=>qw i (by simp at hi |-; omega) j (by simp at hj |-; omega)) (λi hi=>cx (kd i (by simp at hi |-; omega)).2) ?_ ?_ _ _ _ (hH.act (D':=[0,1,2,3,4,5,6,7,8,9,10,11,14,15,12,13]) (val':=ft g n cap q fA fn fc cb x.frm x.til (.slice (some ⟨wG.heap.size,0,none⟩) 1 1) (.slice eA em ec)) hr (by simp) (λi hi=>by simp at hi |-; omega) (λi hi=>by simp at hi; rcases hi with rfl | rfl | rfl | rfl | rfl | rfl | rfl | rfl | rfl | rfl | rfl | rfl | rfl | rfl | rfl <;> rfl) rfl (by simp[eY]) (λj hj=>qw 13 (by simp) j (by simp at hj |-; omega) (by rintro rfl; simp at hj)) (cx (kd 13 (by simp)).2) (by simp))
           ·intro i hi ar;simp only[List.mem_cons,Qh,or_false] at hi;rcases hi with rfl | rfl | rfl | rfl | rfl | rfl | rfl | rfl | rfl | rfl | rfl | rfl | rfl | rfl | rfl | rfl
            all_goals first | (exfalso; simp at ar; done) | exact⟨_,rfl,rfl⟩
           ·intro i hi ar o ho a' hb aR;have k5':=(aT hb (j:=5) (by decide) (by decide)).trans mW.out;have k7':=(aT hb (j:=7) (by decide) (by decide)).trans wt.out;have k9':=(aT hb (j:=9) (by decide) (by decide)).trans mi.out;simp[Act.eval] at k5' k7' k9';simp only[List.mem_cons,Qh,or_false] at hi;rcases hi with rfl | rfl | rfl | rfl | rfl | rfl | rfl | rfl | rfl | rfl | rfl | rfl | rfl | rfl | rfl | rfl
            all_goals first
             | (exfalso; simp at ar; done)
             | (cases ho
                try simp[Act.eval,Region.binds,ft,eY] at aR
                refine .inl ⟨by simp[Region.wanted],λw' hw'=>?_⟩;subst hw';simp[Oper.quietAt,Oper.quietUpon,execOp,go_sem,ft,k5',k7',k9',f6,c1,c2,kJ,gO,aR])
           ·intro f listed a' hH hr;obtain⟨_,o,ho,ax⟩:=mem_ready.1 hr
            cases ho
            have hG:=hH.good;have hval:=λi hi hl=>hG.val i hi hl;have bB:∀ k,({ on:=k,ground:=.data } : Edge)∈_->listed.getD k false=true:=λk hk=>ax _ hk rfl;obtain⟨rfl,bY⟩:=hH.all hr (by kernel_rfl);have av13:=hval 13 (by simp) (bY 13 (by simp) (by simp));have av15:=hval 15 (by simp) (bY 15 (by simp) (by simp));simp[Act.eval,ft,eY] at av13 av15;have gE:=Held.frame (D:=[0,1,2,3,4,5,6,7,8,9,10,11,14,15,12,13]) (dst:=eY) (a0:=a0) (m:=90) hH HM.out (λi hi=>bY i (by simp at hi |-; omega) (by simp at hi; omega)) (λi hi=>(kd i (by simp at hi |-; omega)).1);simp only[wpOp];simp[Region.wanted];refine .inl ?_;have ff:wB.frozen? ⟨g,q * 8+6,none⟩=false:=iI.out.frozenAt dh.out _;simp[Oper.wp,execOp,go_sem,av13,av15,f6,ff];refine⟨pz (λi hi=>?_) (by rw[Array.size_setIfInBounds]; exact hG.size),?_⟩
            ·by_cases hip:i=16
             ·subst hip;have hs:16<listed.size:=by rw[hG.size]; exact hi
              simp[Array.getD,hs]
             ·exact kL (bY i hi hip)
            ·rw[gE,jg.out];simp[jJ,Act.put,ft,eY];clear gE hval bB bY ax hG hH;clear f6 c1 c2 ff;have ck:Hid (bJ fS 8 70 (X+1) M2 (wB.setCell ⟨g,q * 8+6,none⟩ (.slice eA em ec)) (.slice (some ⟨g,0,none⟩) n cap) (b7.set q ⟨y.zone,y.signed,Np.bq (fr ++ [⟨x.frm,x.til⟩]),y.spans⟩)):=jq (by
              refine bJ.stored ii j8 gU iI.out dh.out HY.out (by omega) _ (λr hr hR=>MI hR ?_);have h1:aI wA.heap.size (bp wB M2) (.slice eA em ec) (Np.bq (fr ++ [⟨x.frm,x.til⟩])):=fL IY.out (λk hk=>j9 (λhm=>by have h2:=LA.out k hk; have h3:=zP.out k hm; omega));have h4:=h1.slr (by rw[HEM.out]; omega);rw[gH] at h4;exact h4)
             have IP:Hid ((wB.setCell ⟨g,q * 8+6,none⟩ (.slice eA em ec)).heap[cb]?=wG.heap[cb]?):=jq ((wQ _ _ _ cb (by dsimp only; omega)).trans ((dE.out.block cb (by omega)).trans (ei.out.block cb (by omega))));have gC:Hid (Below (X+1) wG (wB.setCell ⟨g,q * 8+6,none⟩ (.slice eA em ec))):=jq ((((ei.out.mono (by omega)).trans (dE.out.mono (by omega)))).setCell (by dsimp only; omega) _);go_wp2_with fail;go_roundw
             case measure=>simp[intOf] <;> omega
             case rel=>
              exact⟨j+1,n,by omega,by go_num,λha=>absurd pt.out ha,by have:=gC.out.size; omega,jq (cA.out.trans ((KV.out.mono (by omega)).trans gC.out)),jq (IP.out.trans (LB.out.trans yI.out)),_,M2,by rw[List.length_set]; exact dh.out,jq ck.out,jq (by rw[yG.out]; exact jC.out),jq (λg' hg=>by have:=zP.out g' hg; have:=gC.out.size; omega)⟩
       ·obtain rfl:q=n:=by omega
        have azZ:Hid (∀ y∈hs,y.signed≠sg):=jq (λy hy=>xg.out y (by rw[kQ (by rw[dh.out]; exact bQ _)]; exact hy));obtain⟨uA,uc,rfl⟩:=p8.out.formN dh.out;obtain⟨b',o',c',ss,dvs,svs,hA,hb',_,fW,t8,qZ,wK,e0,e1,e2,e3,e4⟩:=eT (dU.out.keep aV ry.out) F5.out;simp only[Value.slice.injEq] at hA;obtain⟨rfl,-,rfl⟩:=hA;have Cr:=jq qZ;have A9:=jq wK;have mr:=jq (And.intro fW t8);obtain⟨dB,dd,rfl,_,_⟩:=ag qZ;obtain⟨gB,gd,rfl,_,_⟩:=ag wK;obtain⟨dm,Cz⟩:∃ n,sg.set.data.length=n:=⟨_,rfl⟩;obtain⟨gm,AU⟩:∃ n,sg.sigs.length=n:=⟨_,rfl⟩;rw[Cz] at e3 Cr;rw[AU] at e4 A9;have eI:decide (q<q)=false:=by simp
        have kq:∀ (gr:bE wr) (p:Addr),p.block<wr.heap.size->gr.w.cell? p=wr.cell? p:=λgr p h=>gr.cell p h;clear qZ wK Cz AU fW t8;go_wp2_with fail;refine en (by kernel_rfl) (by kernel_rfl) ?_
        repeat (go_big_quiet_step (fail))
        refine wpQuiet_nil ?_;rintro _ ⟨gr,rfl⟩;have fJ:=gr.below;obtain⟨wG,Bx⟩:∃ wG,gr.w=wG:=⟨_,rfl⟩;rw[Bx] at fJ |-;have Q5:=fJ.size;replace e0:=(cl fJ (by omega)).trans e0;replace e1:=(cl fJ (by omega)).trans e1;replace e2:=(cl fJ (by omega)).trans e2;replace e3:=(cl fJ (by omega)).trans e3;replace e4:=(cl fJ (by omega)).trans e4;have t1:=(cl fJ (by omega)).trans s1;have t2:=(cl fJ (by omega)).trans s2;have t4:=(cl fJ (by omega)).trans s4;have HOG:=jq (IX.out.keep ii j8 gU fJ);have HXG:Hid (Below X wr wG):=jq (fJ.mono (by omega));have aVZ:Hid (wG.heap[cb]?=wi.heap[cb]?):=jq ((fJ.block cb (by omega)).trans (lP.out.block cb (by omega)));have aXK:Hid (Below wi.heap.size wi wG):=jq (lP.out.trans (fJ.mono (by omega)));obtain⟨wS,Fn⟩:∃ wS,wG.alloc (.cells #[.string z,.string ss,.int .i64 sg.set.type,.int .i64 sg.set.life,.slice dB dm dd,.slice gB gm gd,.slice none 0 0,.slice none 0 0] 70)=wS:=⟨_,rfl⟩;have hzS:wS.heap.size=wG.heap.size+1:=by rw[<-Fn]; simp
        have Fa:Below wG.heap.size wG wS:=by rw[<-Fn]; exact (vQ _ _).alloc (bQ _) _
        have pU:Hid (cN wS wG.heap.size 0 [.string z,.string ss,.int .i64 sg.set.type,.int .i64 sg.set.life,.slice dB dm dd,.slice gB gm gd,.slice none 0 0,.slice none 0 0]):=jq (λi v hi=>by
         rw[<-Fn]
         match i,hi with
         | 0,hi=>cases hi; simp[go_sem]
         | 1,hi=>cases hi; simp[go_sem]
         | 2,hi=>cases hi; simp[go_sem]
         | 3,hi=>cases hi; simp[go_sem]
         | 4,hi=>cases hi; simp[go_sem]
         | 5,hi=>cases hi; simp[go_sem]
         | 6,hi=>cases hi; simp[go_sem]
         | 7,hi=>cases hi; simp[go_sem]
         | i+8,hi=>simp at hi)
        have mB:Hid (fS (bp wS M) wS.heap.size [.string z,.string ss,.int .i64 sg.set.type,.int .i64 sg.set.life,.slice dB dm dd,.slice gB gm gd,.slice none 0 0,.slice none 0 0] ⟨zone,sg,[],[]⟩):=jq (by
         have nm:Below X wr wS:=HXG.out.trans (Fa.mono (by omega));exact⟨z,ss,_,_,_,_,rfl,FF.out,hz,mr.out.1,mr.out.2,SlR.around (Cr.out.keep cL nm) cL dp (λg' hg'=>by have:=rb.out g' hg'; omega) (by omega),SlR.around (A9.out.keep gg nm) gg ij (λg' hg'=>by have:=rb.out g' hg'; omega) (by omega),⟨none,0,rfl,bQ _,by simp,λi x h=>by simp at h⟩,⟨none,0,rfl,bQ _,by simp,λi x h=>by simp at h⟩⟩)
        have Cp:=jq (HOG.out.keep ii j8 gU Fa);have eu:=jq Fa;have Kb:Hid (∀ k,(Value.slice uA q uc).ownBlock=some k->M k):=jq (by obtain⟨_,_,_,h3,_⟩:=p8.out; exact h3);clear fJ Bx s1 s2 s3 s4 kq Fa;go_wp2_with (first
         | (at_builtin; refine Gc (R:=fS) (M:=M) wS rfl _ _ 43 rfl (X+1) 70 i0 (.agg #[.string ⟨#[]⟩,.string ⟨#[]⟩,.int .i64 0,.int .i64 0,.slice none 0 0,.slice none 0 0,.slice none 0 0,.slice none 0 0]) 144 underlying43 nj ea bI aN rfl (by decide) (.slice uA q uc) hs rfl Cp.out (some ⟨wG.heap.size,0,none⟩) 1 [⟨zone,sg,[],[]⟩] rfl (yd rfl mB.out pU.out) Wf (by rw[dh.out]; simp[maxLen]; omega) (by rw[dh.out]; simp; omega) (by omega) ii j8 gU ?_; intro v8 w8 eh cJ iP; have H8:=jq (And.intro eh (And.intro cJ iP)); have HF8:=jq (eh.formN (n:=q+1) (by rw[List.length_append,dh.out]; rfl)); clear eh cJ iP))
        have bfK:=eu.out.size;have og:=H8.out.2.1.size;obtain⟨nn,CM⟩:∃ nn,q+1=nn:=⟨_,rfl⟩;obtain⟨M2,xo⟩:∃ M2:Nat->Prop,M2=λk=>M k\/v8.ownBlock=some k:=⟨_,rfl⟩;obtain⟨y,hy⟩:∃ y:Np.Held,y=⟨zone,sg,[],[]⟩:=⟨_,rfl⟩;obtain⟨b7,oY⟩:∃ b7,b7=hs ++ [y]:=⟨_,rfl⟩;have Jt:Hid (b7.length=nn):=jq (by rw[oY,List.length_append,dh.out]; exact CM);have FX:Hid (bJ fS 8 70 (X+1) M2 w8 v8 b7):=jq (by rw[xo,oY,hy]; exact H8.out.1);obtain⟨g,cap,rfl,re,ul,pM⟩:=FX.out.formSome Jt.out (by omega);have HY:Hid (b7[q]?=some y):=jq (by rw[oY,oQ (by rw[dh.out]; exact bQ _),dh.out,Nat.sub_self]; rfl);obtain⟨zc,sy,dvy,svy,fvy,pvy,E6,iR,C2,dM,uK,a1,a2,a3,a4,a5,a6⟩:=OO FX.out (by rw[Jt.out]; omega) HY.out;obtain⟨fA,fc,rfl,_,_⟩:=ag uK;obtain⟨fn,gK⟩:∃ fn,y.fresh.length=fn:=⟨_,rfl⟩;obtain⟨fr,oX⟩:∃ fr,y.fresh=fr:=⟨_,rfl⟩;rw[gK,oX] at uK;rw[gK] at a6;have ui:=jq uK;have HU8:Hid (∀ k,(Value.slice (some ⟨g,0,none⟩) nn cap).ownBlock=some k->M k\/wS.heap.size=k):=jq (λk e=>by
         rcases H8.out.2.2 with h | h
         ·exact .inl (Kb.out k (h ▸ e))
         ·rw[h] at e; exact .inr (Option.some.inj e))
        have zP:Hid (∀ g',M2 g'->(X+1<=g'/\g'≠cb)/\g'<w8.heap.size):=jq (λg' hg'=>by
         rw[xo] at hg';rcases hg' with h | h
         ·have:=rb.out g' h; omega
         ·rcases HU8.out g' h with h2 | h2
          ·have:=rb.out g' h2; omega
          ·have:=FX.out.lt g' h; omega)
        have La:Hid (bJ fS 8 70 (X+1) M2 w8 (.slice (some ⟨g,0,none⟩) nn cap) b7):=FX;have QR:(Value.slice uA q uc).ownBlock≠some cb:=λe=>(rb.out cb (Kb.out cb e)).1.2 rfl;have EM:w8.heap[cb]?=wG.heap[cb]?:=(H8.out.2.1.block cb (by omega) (λe=>QR e.symm)).trans (eu.out.block cb (by omega));have f6:=a6;have c1:=(iQ (a:=⟨cb,1,none⟩) EM).trans t1;have c2:=(iQ (a:=⟨cb,2,none⟩) EM).trans t2;have RA:Hid (fr = []):=jq (by rw[<-oX,hy]);have n7:Hid (fr.length<=10000/\Np.mM fr):=jq (by rw[RA.out]; exact⟨by simp,λs hs=>by cases hs⟩);have jC:Hid (b7.set q ⟨y.zone,y.signed,Np.bq (fr ++ [⟨x.frm,x.til⟩]),y.spans⟩=hsN zone (psK (copies.take k) zone x j ++ [(⟨x.frm,x.til⟩,sg)])):=jq (by
         have h1:=ZD (zone:=zone) (ps:=psK (copies.take k) zone x j) (s:=sg) (by rw[<-wh.out]; exact azZ.out) (sp:=⟨x.frm,x.til⟩);rw[<-wh.out,dh.out] at h1;rw[oY,RA.out,hy];exact h1)
        have KV:Hid (Below (X+1) wi w8):=jq ((aXK.out.mono (by omega)).trans ((eu.out.mono (by omega)).trans ((vQ _ _).grown H8.out.2.1 (by omega) (λk e=>by have:=rb.out k (Kb.out k e); omega))));have LB:Hid (w8.heap[cb]?=wi.heap[cb]?):=jq (EM.trans aVZ.out);have axZ:g≠cb:=λe=>(zP.out g pM).1.2 e;have gO:(q:Int)<(nn:Int):=by omega
        have dh:Hid (b7.length=nn):=Jt;have hgS:g<w8.heap.size:=ul;clear xo hy oY oX gK E6 iR C2 dM uK a1 a2 a3 a4 a5 a6 e0 e1 e2 e3 e4 EM QR Fn t1 t2 t4;refine AF λa0 bi=>?_;have jg:=jq bi;have mW:=jq (show a0.eval (.tmp 5) = .slice (some ⟨g,0,none⟩) nn cap by rw[bi]; rfl);have wt:=jq (show a0.eval (.tmp 7) = .pointer (some ⟨cb,0,none⟩) by rw[bi]; rfl);have mi:=jq (show a0.eval (.tmp 9) = .int .i64 (q:Nat) by rw[bi]; rfl);have HM:=jq (show a0.tmps.size=90 by rw[bi]; rfl);clear bi;refine wp_region_any (by kernel_rfl) ?_;refine fN (w:=w8.drew) (D:=[0,1,2,3,4,5,6,7,8,9,10,11,14,15]) (A:=[]) (p:=12) (dst:=eY) (val:=ft g nn cap q fA fn fc cb x.frm x.til undef undef) (m:=90)
         (base:=dt a0 90 vF) (fM (by kernel_rfl)) (by simp) (by simp) (fD (by kernel_rfl)) ?_
         (λi hi=>(kd i (by simp at hi |-; omega)).1) (λi hi j hj=>qw i (by simp at hi |-; omega) j (by simp at hj |-; omega)) (λi hi=>cx (kd i (by simp at hi |-; omega)).2) ?_ ?_ _ _ _ (Held.start (λq hq=>pw q hq) HM.out)
        ·intro i hi ar;simp only[List.mem_cons,Qh,or_false] at hi;rcases hi with rfl | rfl | rfl | rfl | rfl | rfl | rfl | rfl | rfl | rfl | rfl | rfl | rfl | rfl
         all_goals first | (exfalso; simp at ar; done) | exact⟨_,rfl,rfl⟩
        ·intro i hi ar o ho a' hb aR;have k5':=(aT hb (j:=5) (by decide) (by decide)).trans mW.out;have k7':=(aT hb (j:=7) (by decide) (by decide)).trans wt.out;have k9':=(aT hb (j:=9) (by decide) (by decide)).trans mi.out;simp[Act.eval] at k5' k7' k9';simp only[List.mem_cons,Qh,or_false] at hi;rcases hi with rfl | rfl | rfl | rfl | rfl | rfl | rfl | rfl | rfl | rfl | rfl | rfl | rfl | rfl
         all_goals first
          | (exfalso; simp at ar; done)
          | (cases ho
             try simp[Act.eval,Region.binds,ft,eY] at aR
             refine .inl ⟨by simp[Region.wanted],λw' hw'=>?_⟩;subst hw';simp[Oper.quietAt,Oper.quietUpon,execOp,go_sem,ft,k5',k7',k9',f6,c1,c2,kJ,gO,aR])
        ·intro f listed a' hH hr;obtain⟨_,o,ho,ax⟩:=mem_ready.1 hr
         cases ho
         have hG:=hH.good;have hval:=λi hi hl=>hG.val i hi hl;have bB:∀ k,({ on:=k,ground:=.data } : Edge)∈_->listed.getD k false=true:=λk hk=>ax _ hk rfl;have av11:=hval 11 (by simp) (bB 11 (by simp));simp[Act.eval,ft,eY] at av11;simp only[wpOp];simp[Region.wanted];refine .inl ?_;simp[Oper.wp,execOp,go_sem,av11];obtain⟨wA,gR⟩:∃ W,W=(w8.alloc (.cells #[.int .i64 x.frm,.int .i64 x.til] 114)).drew:=⟨_,rfl⟩;rw[<-gR];have eC:Below w8.heap.size w8 wA:=by rw[gR]; exact ((vQ _ _).alloc (bQ _) _).drew
         have Lr:wA.heap.size=w8.heap.size+1:=by rw[gR]; simp[World.drew]
         have Ku:Hid (SlR cV 2 wA wA.heap.size (.slice (some ⟨w8.heap.size,0,none⟩) 1 1) [⟨x.frm,x.til⟩]):=jq (Hx (by omega) (by rw[gR]; simp[go_sem]) (by rw[gR]; simp[go_sem]));replace f6:=(cl eC (by omega)).trans f6;replace c1:=(cl eC (by omega)).trans c1;replace c2:=(cl eC (by omega)).trans c2;have KM:=jq (La.out.keep ii j8 gU eC);have Br:=jq ((ui.out.keep fE eC).more jY eC.size);have ei:=jq eC;clear gR eC;refine fN (w:=wA) (D:=[0,1,2,3,4,5,6,7,8,9,10,11,14,15,12]) (A:=[12]) (p:=13) (dst:=eY) (val:=ft g nn cap q fA fn fc cb x.frm x.til (.slice (some ⟨w8.heap.size,0,none⟩) 1 1) undef) (m:=90)
          (base:=dt a0 90 vF) (fM (by kernel_rfl)) (by simp) (by simp) (fD (by kernel_rfl)) ?_
          (λi hi=>(kd i (by simp at hi |-; omega)).1) (λi hi j hj=>qw i (by simp at hi |-; omega) j (by simp at hj |-; omega)) (λi hi=>cx (kd i (by simp at hi |-; omega)).2) ?_ ?_ _ _ _ (hH.act (D':=[0,1,2,3,4,5,6,7,8,9,10,11,14,15,12]) (val':=ft g nn cap q fA fn fc cb x.frm x.til (.slice (some ⟨w8.heap.size,0,none⟩) 1 1) undef) hr (by simp) (λi hi=>by simp at hi |-; omega) (λi hi=>by simp at hi; rcases hi with rfl | rfl | rfl | rfl | rfl | rfl | rfl | rfl | rfl | rfl | rfl | rfl | rfl | rfl <;> rfl) rfl (by simp[eY]) (λj hj=>qw 12 (by simp) j (by simp at hj |-; omega) (by rintro rfl; simp at hj)) (cx (kd 12 (by simp)).2) (by simp))
         ·intro i hi ar;simp only[List.mem_cons,Qh,or_false] at hi;rcases hi with rfl | rfl | rfl | rfl | rfl | rfl | rfl | rfl | rfl | rfl | rfl | rfl | rfl | rfl | rfl
          all_goals first | (exfalso; simp at ar; done) | exact⟨_,rfl,rfl⟩
         ·intro i hi ar o ho a' hb aR;have k5':=(aT hb (j:=5) (by decide) (by decide)).trans mW.out;have k7':=(aT hb (j:=7) (by decide) (by decide)).trans wt.out;have k9':=(aT hb (j:=9) (by decide) (by decide)).trans mi.out;simp[Act.eval] at k5' k7' k9';simp only[List.mem_cons,Qh,or_false] at hi;rcases hi with rfl | rfl | rfl | rfl | rfl | rfl | rfl | rfl | rfl | rfl | rfl | rfl | rfl | rfl | rfl
          all_goals first
           | (exfalso; simp at ar; done)
           | (cases ho
              try simp[Act.eval,Region.binds,ft,eY] at aR
              refine .inl ⟨by simp[Region.wanted],λw' hw'=>?_⟩;subst hw';simp[Oper.quietAt,Oper.quietUpon,execOp,go_sem,ft,k5',k7',k9',f6,c1,c2,kJ,gO,aR])
         ·intro f listed a' hH hr;obtain⟨_,o,ho,ax⟩:=mem_ready.1 hr
          cases ho
          have hG:=hH.good;have hval:=λi hi hl=>hG.val i hi hl;have bB:∀ k,({ on:=k,ground:=.data } : Edge)∈_->listed.getD k false=true:=λk hk=>ax _ hk rfl;have av6:=hval 6 (by simp) (bB 6 (by simp));have av12:=hval 12 (by simp) (bB 12 (by simp));simp[Act.eval,ft,eY] at av6 av12;simp only[wpOp];simp[Region.wanted];refine .inl ?_;simp[Oper.wp,go_sem,av6,av12];refine (GM _ _ fr [⟨x.frm,x.til⟩] n7.out.1 (by simp) n7.out.2 (λs hs=>by rw[List.mem_singleton] at hs; subst hs; exact uX.out) wA Br.out Ku.out).mono ?_;rintro e wB ⟨vB,rfl,sS,bg⟩;have Jv:=bg.size;replace f6:=(cl bg (by omega)).trans f6;replace c1:=(cl bg (by omega)).trans c1;replace c2:=(cl bg (by omega)).trans c2;have LA:Hid (∀ g,vB.ownBlock=some g->wA.heap.size<=g):=jq (λg hg=>(sS.lt g hg).1);obtain⟨em,hem⟩:∃ em,(Np.bq (fr ++ [⟨x.frm,x.til⟩])).length=em:=⟨_,rfl⟩;have bU:em<=20000:=by rw[<-hem]; have:=qv (fr ++ [⟨x.frm,x.til⟩]); have:=n7.out.1; rw[List.length_append] at *; simp at *; omega
          obtain⟨eA,ec,rfl⟩:=Dk sS hem;have IY:Hid (aI wA.heap.size wB (.slice eA em ec) (Np.bq (fr ++ [⟨x.frm,x.til⟩]))):=jq sS;have HEM:=jq hem;have iI:=jq (KM.out.keep ii j8 gU bg);have dE:=jq bg;clear sS bg hem;dsimp only;refine fN (w:=wB) (D:=[0,1,2,3,4,5,6,7,8,9,10,11,14,15,12,13]) (A:=[13,12]) (p:=16) (dst:=eY) (val:=ft g nn cap q fA fn fc cb x.frm x.til (.slice (some ⟨w8.heap.size,0,none⟩) 1 1) (.slice eA em ec)) (m:=90)
           (base:=dt a0 90 vF) (fM (by kernel_rfl)) (by simp) (by simp) (fD (by kernel_rfl)) ?_
           (λi hi=>(kd i (by simp at hi |-; omega)).1) (λi hi j hj=>qw i (by simp at hi |-; omega) j (by simp at hj |-; omega)) (λi hi=>cx (kd i (by simp at hi |-; omega)).2) ?_ ?_ _ _ _ (hH.act (D':=[0,1,2,3,4,5,6,7,8,9,10,11,14,15,12,13]) (val':=ft g nn cap q fA fn fc cb x.frm x.til (.slice (some ⟨w8.heap.size,0,none⟩) 1 1) (.slice eA em ec)) hr (by simp) (λi hi=>by simp at hi |-; omega) (λi hi=>by simp at hi; rcases hi with rfl | rfl | rfl | rfl | rfl | rfl | rfl | rfl | rfl | rfl | rfl | rfl | rfl | rfl | rfl <;> rfl) rfl (by simp[eY]) (λj hj=>qw 13 (by simp) j (by simp at hj |-; omega) (by rintro rfl; simp at hj)) (cx (kd 13 (by simp)).2) (by simp))
          ·intro i hi ar;simp only[List.mem_cons,Qh,or_false] at hi;rcases hi with rfl | rfl | rfl | rfl | rfl | rfl | rfl | rfl | rfl | rfl | rfl | rfl | rfl | rfl | rfl | rfl
           all_goals first | (exfalso; simp at ar; done) | exact⟨_,rfl,rfl⟩
          ·intro i hi ar o ho a' hb aR;have k5':=(aT hb (j:=5) (by decide) (by decide)).trans mW.out;have k7':=(aT hb (j:=7) (by decide) (by decide)).trans wt.out;have k9':=(aT hb (j:=9) (by decide) (by decide)).trans mi.out;simp[Act.eval] at k5' k7' k9';simp only[List.mem_cons,Qh,or_false] at hi;rcases hi with rfl | rfl | rfl | rfl | rfl | rfl | rfl | rfl | rfl | rfl | rfl | rfl | rfl | rfl | rfl | rfl
           all_goals first
            | (exfalso; simp at ar; done)
            | (cases ho
               try simp[Act.eval,Region.binds,ft,eY] at aR
               refine .inl ⟨by simp[Region.wanted],λw' hw'=>?_⟩;subst hw';simp[Oper.quietAt,Oper.quietUpon,execOp,go_sem,ft,k5',k7',k9',f6,c1,c2,kJ,gO,aR])
          ·intro f listed a' hH hr;obtain⟨_,o,ho,ax⟩:=mem_ready.1 hr
           cases ho
           have hG:=hH.good;have hval:=λi hi hl=>hG.val i hi hl;have bB:∀ k,({ on:=k,ground:=.data } : Edge)∈_->listed.getD k false=true:=λk hk=>ax _ hk rfl;obtain⟨rfl,bY⟩:=hH.all hr (by kernel_rfl);have av13:=hval 13 (by simp) (bY 13 (by simp) (by simp));have av15:=hval 15 (by simp) (bY 15 (by simp) (by simp));simp[Act.eval,ft,eY] at av13 av15;have gE:=Held.frame (D:=[0,1,2,3,4,5,6,7,8,9,10,11,14,15,12,13]) (dst:=eY) (a0:=a0) (m:=90) hH HM.out (λi hi=>bY i (by simp at hi |-; omega) (by simp at hi; omega)) (λi hi=>(kd i (by simp at hi |-; omega)).1);simp only[wpOp];simp[Region.wanted];refine .inl ?_;have ff:wB.frozen? ⟨g,q * 8+6,none⟩=false:=iI.out.frozenAt dh.out _;simp[Oper.wp,execOp,go_sem,av13,av15,f6,ff];refine⟨pz (λi hi=>?_) (by rw[Array.size_setIfInBounds]; exact hG.size),?_⟩
           ·by_cases hip:i=16
            ·subst hip;have hs:16<listed.size:=by rw[hG.size]; exact hi
             simp[Array.getD,hs]
            ·exact kL (bY i hi hip)
           ·rw[gE,jg.out];simp[jJ,Act.put,ft,eY];clear gE hval bB bY ax hG hH;clear f6 c1 c2 ff;have ck:Hid (bJ fS 8 70 (X+1) M2 (wB.setCell ⟨g,q * 8+6,none⟩ (.slice eA em ec)) (.slice (some ⟨g,0,none⟩) nn cap) (b7.set q ⟨y.zone,y.signed,Np.bq (fr ++ [⟨x.frm,x.til⟩]),y.spans⟩)):=jq (by
             refine bJ.stored ii j8 gU iI.out dh.out HY.out (by omega) _ (λr hr hR=>MI hR ?_);have h1:aI wA.heap.size (bp wB M2) (.slice eA em ec) (Np.bq (fr ++ [⟨x.frm,x.til⟩])):=fL IY.out (λk hk=>j9 (λhm=>by have h2:=LA.out k hk; have h3:=zP.out k hm; omega));have h4:=h1.slr (by rw[HEM.out]; omega);rw[gH] at h4;exact h4)
            have IP:Hid ((wB.setCell ⟨g,q * 8+6,none⟩ (.slice eA em ec)).heap[cb]?=w8.heap[cb]?):=jq ((wQ _ _ _ cb (by dsimp only; omega)).trans ((dE.out.block cb (by omega)).trans (ei.out.block cb (by omega))));have gC:Hid (Below (X+1) w8 (wB.setCell ⟨g,q * 8+6,none⟩ (.slice eA em ec))):=jq ((((ei.out.mono (by omega)).trans (dE.out.mono (by omega)))).setCell (by dsimp only; omega) _);go_wp2_with fail;go_roundw
            case measure=>simp[intOf] <;> omega
            case rel=>
             exact⟨j+1,nn,by omega,by go_num,λha=>absurd pt.out ha,by have:=gC.out.size; omega,jq (cA.out.trans ((KV.out.mono (by omega)).trans gC.out)),jq (IP.out.trans (LB.out.trans yI.out)),_,M2,by rw[List.length_set]; exact dh.out,jq ck.out,jq (by rw[yG.out]; exact jC.out),jq (λg' hg=>by have:=zP.out g' hg; have:=gC.out.size; omega)⟩
     ·obtain rfl:j=xn:=by omega
      go_wp2_with fail;go_roundw
      case measure=>simp[intOf] <;> omega
      case rel=>exact⟨k+1,n,by omega,by go_num,by omega,jq (ak.out.trans cA.out),hs,M,hn,p8,jq (by
       rw[wh.out,Hz (.inl ⟨pt.out,rv.out.symm⟩)];obtain⟨hl,he⟩:=cQ.1 qh.out;rw[fQ hl,he]),jq (λg hg=>by have:=rb.out g hg; omega)⟩
  ·have fe:Hid (copies.take k=copies):=jq (kQ (by rw[er.out]; omega));go_wp2_with fail;go_ret;refine⟨_,rfl,?_,HB.out⟩;have he:=uO.out;rw[fe.out] at he;have h9:=Rd.out.slr j8 (by rw[he]; have:=Ia zone (Np.dJ copies zone); have:=KG.out; omega);rw[he] at h9;exact h9
end
section
open Go.RowKit
def Np.km(h:Np.Hist)(z:List UInt8):Prop:=Np.VHist h/\Np.aG z=true
def Np.lD(h:Np.Hist)(z:List UInt8):Prop:=∃ c∈h.copies,c.zone.apex=z
theorem Gj(e:List Value)(h:Np.Hist)(hf:Np.oR h)(w:World)(hh:bw w w.heap.size e h) :
 Calls prog 17 #[.agg e.toArray] w λe w'=>e = .returned (.bool (Np.yes (Np.VHist h)))/\Below w.heap.size w w':=by
 obtain⟨hv,cv,s,dv,cj,rfl,h1,h2,h3,h4,h5,h6⟩:=hh;obtain⟨hosts,copies,⟨name,ty,life,data⟩,hints,drift,stop⟩:=h;dsimp only at h1 h3 h4 h5 h6;subst h1;exact C5 _ hosts _ copies s h2 ty life _ data _ hints drift stop hf.1 hf.2 _ h3 h4 h5 h6
theorem Wh(e:List Value)(h:Np.Hist)(hf:Np.oR h)(z:ByteArray)(hz:z.size<=140737488355328)(hp:(Np.dJ h.copies z.data.toList).length<=5000)(w:World)(hh:bw w w.heap.size e h) :
 Calls prog 21 #[.agg e.toArray,.string z] w λe w'=>((¬ Np.km h z.data.toList/\e = .returned (.tuple #[.slice none 0 0,.int .i64 1]))\/(Np.km h z.data.toList/\((¬ Np.lD h z.data.toList/\e = .returned (.tuple #[.slice none 0 0,.int .i64 4]))\/(Np.lD h z.data.toList/\∃ v',e = .returned (.tuple #[v',.int .i64 0])/\SlR fS 8 w' w'.heap.size v' (Np.pub h.copies z.data.toList)))))/\Below w.heap.size w w':=by
 have gS:=jq hh;obtain⟨hv,cv,s,dv,cj,rfl,aZ,b7,h3,h4,h5,h6⟩:=hh;obtain⟨ty,dD⟩:∃ ty,h.anchor.type=ty:=⟨_,rfl⟩;obtain⟨life,mu⟩:∃ life,h.anchor.life=life:=⟨_,rfl⟩;obtain⟨drift,pT⟩:∃ drift,h.drift=drift:=⟨_,rfl⟩;obtain⟨stop,gj⟩:∃ stop,h.stop=stop:=⟨_,rfl⟩;have H3:=jq h3;have H4:=jq h4;have H5:=jq h5;have H6:=jq h6;have HS:=jq (And.intro aZ b7);have cR:=jq hf;have ck:=jq gj;have fe:=jq (And.intro dD mu);obtain⟨A1,c1,rfl,_,_⟩:=ag h3;obtain⟨A2,c2,rfl,_,_⟩:=ag h4;obtain⟨A3,c3,rfl,_,_⟩:=ag h5;obtain⟨A4,c4,rfl,_,_⟩:=ag h6;clear h3 h4 h5 h6 aZ b7 hf;obtain⟨n1,aJ⟩:∃ n,h.hosts.length=n:=⟨_,rfl⟩;obtain⟨n2,aK⟩:∃ n,h.copies.length=n:=⟨_,rfl⟩;obtain⟨n3,bk⟩:∃ n,h.anchor.data.length=n:=⟨_,rfl⟩;obtain⟨n4,bl⟩:∃ n,h.hints.length=n:=⟨_,rfl⟩;rw[aJ] at H3;rw[aK] at H4;rw[bk] at H5;rw[bl] at H6;rw[aJ,aK,bk,bl,dD,mu,pT,gj] at gS |-;have iA:=jq aK;clear aJ aK bk bl dD mu pT gj;obtain⟨r,hr⟩:∃ r,Np.yes (Np.VHist h)=r:=⟨_,rfl⟩;have fi:=jq hr;clear hr;obtain⟨X,hX⟩:∃ X,w.heap.size=X:=⟨_,rfl⟩;obtain⟨W1,ae⟩:∃ W1,w.alloc (.cells #[.slice A1 n1 c1,.slice A2 n2 c2,.string s,.int .i64 ty,.int .i64 life,.slice A3 n3 c3,.slice A4 n4 c4,.int .i64 drift,.int .i64 stop] 29)=W1:=⟨_,rfl⟩;have aw:Below w.heap.size w W1:=by rw[<-ae]; exact (vQ _ _).alloc (bQ _) _
 have eG:W1.heap.size=X+1:=by rw[<-ae,<-hX]; simp
 have k0:W1.cell? ⟨X,0,none⟩=some (.slice A1 n1 c1):=by rw[<-ae,<-hX]; simp[go_sem]
 have k1:W1.cell? ⟨X,1,none⟩=some (.slice A2 n2 c2):=by rw[<-ae,<-hX]; simp[go_sem]
 have k2:W1.cell? ⟨X,2,none⟩=some (.string s):=by rw[<-ae,<-hX]; simp[go_sem]
 have k3:W1.cell? ⟨X,3,none⟩=some (.int .i64 ty):=by rw[<-ae,<-hX]; simp[go_sem]
 have k4:W1.cell? ⟨X,4,none⟩=some (.int .i64 life):=by rw[<-ae,<-hX]; simp[go_sem]
 have k5:W1.cell? ⟨X,5,none⟩=some (.slice A3 n3 c3):=by rw[<-ae,<-hX]; simp[go_sem]
 have k6:W1.cell? ⟨X,6,none⟩=some (.slice A4 n4 c4):=by rw[<-ae,<-hX]; simp[go_sem]
 have k7:W1.cell? ⟨X,7,none⟩=some (.int .i64 drift):=by rw[<-ae,<-hX]; simp[go_sem]
 have k8:W1.cell? ⟨X,8,none⟩=some (.int .i64 stop):=by rw[<-ae,<-hX]; simp[go_sem]
 rw[hX] at aw H3 H4 H5 H6 gS |-;have ay:=jq aw;clear aw;go_enter func21,ntmps21;go_wp2_with fail;refine (Gj _ h cR.out W1 (cM _ _ _ _ _ (cE _ _ _ _ _ gS.out ay.out) (by omega))).mono ?_;rw[fi.out];rintro e w2 ⟨rfl,aa⟩;have aN:=aa.size;have m0:=(cl aa (by omega)).trans k0;have m1:=(cl aa (by omega)).trans k1;have m2:=(cl aa (by omega)).trans k2;have m3:=(cl aa (by omega)).trans k3;have m4:=(cl aa (by omega)).trans k4;have m5:=(cl aa (by omega)).trans k5;have m6:=(cl aa (by omega)).trans k6;have m7:=(cl aa (by omega)).trans k7;have m8:=(cl aa (by omega)).trans k8;have ak:=jq (ay.out.trans (aa.mono (by omega)));clear aa ae hX k0 k1 k2 k3 k4 k5 k6 k7 k8
 cases r with
 | false=>
  have HN:Hid (¬ Np.VHist h):=jq (λh=>by have:=Np.bO h; rw[fi.out] at this; cases this);go_wp2_with fail;go_ret2;exact⟨.inl ⟨λh=>HN.out h.1,rfl⟩,ak.out⟩
 | true=>
  have HV:Hid (Np.VHist h):=jq (Np.eE.1 fi.out);go_wp2_with fail;refine (tq z hz _).mono ?_;rintro e w3 ⟨rfl,ah⟩;have dP:=ah.size;replace m0:=(cl ah (by omega)).trans m0;replace m1:=(cl ah (by omega)).trans m1;replace m2:=(cl ah (by omega)).trans m2;replace m3:=(cl ah (by omega)).trans m3;replace m4:=(cl ah (by omega)).trans m4;replace m5:=(cl ah (by omega)).trans m5;replace m6:=(cl ah (by omega)).trans m6;replace m7:=(cl ah (by omega)).trans m7;replace m8:=(cl ah (by omega)).trans m8;have av:=jq (ak.out.trans (ah.mono (by omega)));clear ah
  cases bX:Np.aG z.data.toList with
  | false=>
   have dU:=jq bX;clear bX;go_wp2_with fail;go_ret2;exact⟨.inl ⟨λh=>absurd h.2 (by rw[dU.out]; simp),rfl⟩,av.out⟩
  | true=>
   have dU:=jq bX;clear bX;go_wp2_with fail;have bdJ:n2<=500:=by have:=cR.out.1; have:=iA.out; omega
   go_loopw [6,7] (λf i wr=>∃ (k:Nat) (b:Bool),k<=n2/\i = .int .i64 k/\f = .bool b/\Hid (Below w3.heap.size w3 wr)/\Hid (b=(h.copies.take k).any λc=>c.zone.apex == z.data.toList)) (λ_ i _=>n2 - (intOf i).toNat)
   case atStart=>exact⟨0,false,jQ _,rfl,rfl,jq (vQ _ _),jq (by simp)⟩
   case round=>
    obtain⟨k,b,hk,rfl,rfl,aO,Qo⟩:=hrel;have E9:=aO.out.size;have HB:=jq (av.out.trans (aO.out.mono (by omega)));have q0:=(cl aO.out (by omega)).trans m0;have q1:=(cl aO.out (by omega)).trans m1;have q2:=(cl aO.out (by omega)).trans m2;have q3:=(cl aO.out (by omega)).trans m3;have q4:=(cl aO.out (by omega)).trans m4;have q5:=(cl aO.out (by omega)).trans m5;have q6:=(cl aO.out (by omega)).trans m6;have q7:=(cl aO.out (by omega)).trans m7;have q8:=(cl aO.out (by omega)).trans m8;by_cases ab:k<n2
    ·obtain⟨x,ac⟩:∃ x,h.copies[k]?=some x:=⟨_,aQ (by rw[iA.out]; exact ab)⟩;obtain⟨b',o,sn,vz,rfl,bg,az,bL,bX,f0,f1,f2,f3,f4⟩:=nC (H4.out.keep fk HB.out) ac;have bW:(0:Int)<=(k:Int):=by omega
     have bV:(k:Int)<(n2:Int):=by omega
     obtain⟨ap,oV⟩:∃ ap,(sn.toList == z.toList)=ap:=⟨_,rfl⟩;have HT:Hid (((h.copies.take (k+1)).any λc=>c.zone.apex == z.data.toList)=(b||ap)):=jq (by
      obtain⟨hl,he⟩:=cQ.1 ac;rw[fQ hl,he,List.any_append,<-Qo.out,<-oV,dQ,dQ,az];simp)
     clear ac az bX bL
     cases b with
     | true=>
      go_wp2_with fail;go_roundw
      case measure=>simp[intOf] <;> omega
      case rel=>exact⟨k+1,true,by omega,by go_num,rfl,aO,jq (by rw[HT.out]; rfl)⟩
     | false=>
      go_wp2_with fail;go_roundw
      case measure=>simp[intOf] <;> omega
      case rel=>exact⟨k+1,ap,by omega,by go_num,by rw[<-oV],aO,jq (by rw[HT.out]; rfl)⟩
    ·have fe:Hid (h.copies.take k=h.copies):=jq (kQ (by rw[iA.out]; omega));have C3:Hid (b=true↔Np.lD h z.data.toList):=jq (by rw[Qo.out,fe.out,List.any_eq_true]; unfold Np.lD; simp)
     cases b with
     | false=>
      go_wp2_with fail;go_ret2;exact⟨.inr ⟨⟨HV.out,dU.out⟩,.inl ⟨λhh=>absurd (C3.out.2 hh) (by simp),rfl⟩⟩,HB.out⟩
     | true=>
      go_wp2_with fail;refine (U3 _ h HV.out.full cR.out.1 z hz hp cR.out.2 wr (cM _ _ _ _ _ (cE _ _ _ _ _ gS.out HB.out) (by omega))).mono ?_;rintro e w4 ⟨v4,rfl,h4,am⟩;have xN:=jq h4;have bD:=jq (HB.out.trans (am.mono (by omega)));obtain⟨A4',c4',rfl,_,_⟩:=ag h4;obtain⟨np,FM⟩:∃ np,(Np.pub h.copies z.data.toList).length=np:=⟨_,rfl⟩;have bjX:np<=5000:=by rw[<-FM]; have:=Ia z.data.toList (Np.dJ h.copies z.data.toList); unfold hsN at this; unfold Np.pub; omega
      rw[FM] at xN |-;have RU:decide ((20000:Int)<(np:Int))=false:=tQ (by omega);have PR:decide (20000<np)=false:=tQ (by omega);clear h4 am FM;go_wp2_with fail;go_ret2;exact⟨.inr ⟨⟨HV.out,dU.out⟩,.inr ⟨C3.out.1 (by trivial),_,rfl,xN.out⟩⟩,bD.out⟩
section
variable {P:Program} (w:World)
theorem Tn(base:Nat)(t u ty e:TypeId)(i:TypeInfo)(ht:P.underlying t=some (.slice e))(hu:P.underlying u=some .string)(hi:P.info? e=some i)(hz:i.zero=some (.int .u8 0))
 (mx:i.size=1) (jh:i.bytes=1) (v:Value) (n:Nat) (xs:List Value) (hown:w.ownsRow base e 1 v n xs) (s:ByteArray) (li:n+s.size<=maxLen) (nU:n+s.size<=140737488355328) (eS:base<=w.heap.size) :
 ∃ v' w',(Builtin.append_ #[t,u] ty #[v,.string s]).run P w = .ok v' w'/\w'.ownsRow base e 1 v' (n+s.size) (xs++Lib.strCells s)/\w.grownBy w' v.ownBlock/\(v'.ownBlock=v.ownBlock\/v'.ownBlock=some w.heap.size)/\(v' = .slice none 0 0↔v = .slice none 0 0/\s.size=0):=by
 obtain⟨v',w',dH,h2,h3,h4⟩:=Lib.run_append_own_string (P:=P) w base t u ty e i ht hu hi hz mx jh v n xs hown s li nU eS;refine⟨v',w',dH,h2,h3,?_,h4⟩;have baK:n+s.size<=9223372036854775807:=by simp only[maxLen] at li; omega
 rcases hown.2 with ⟨rfl,rfl⟩ | ⟨g,cap,cur,rfl,fJ,hg,pr,gG,hcs,aoZ⟩
 ·by_cases hm:s.size=0
  ·exact .inl (by rw[h4.2 ⟨rfl,hm⟩])
  ·have hr:=run_append_nil_string (P:=P) w t u ty e i (.int .u8 0) ht hu hi hz s (by omega) (by omega) (by rw[jh]; omega);rw[hr] at dH;injection dH with h5 _
   exact .inr (by rw[<-h5]; rfl)
 ·by_cases a3K:n+s.size<=cap
  ·have hr:=Lib.run_append_room_string (P:=P) w t u ty e i ht hu hi mx g n cap cur hg s a3K (by omega);rw[hr] at dH;injection dH with h5 _
   exact .inl (by rw[<-h5]; rfl)
  ·have holds:∀ j u,xs[j]?=some u->w.cell? ((⟨g,0,none⟩:Addr).add j)=some u:=hown.cells (g:=g) rfl;have hr:=Lib.run_append_grow_string (P:=P) w t u ty e i (.int .u8 0) ht hu hi hz ⟨g,0,none⟩ n cap xs (by rw[mx]; exact hown.1) holds s (by omega) (by omega) (by rw[jh]; exact growslice_fits (by omega) (by omega));rw[hr] at dH;injection dH with h5 _
   exact .inr (by rw[<-h5]; rfl)
theorem Tl{ops:Array Oper}{rest:List Oper}{o:Oper}{a:Act}{Q:Exit->Act->World->Prop}(jA:o.guard=none)(sl x:Operand)(t u:TypeId)
 (ho:o.op = .call { callee:=.builtin .append,args:=#[sl,x],argTypes:=#[t,u] })
 (base:Nat) (e:TypeId) (i:TypeInfo) (ht:P.underlying t=some (.slice e)) (hu:P.underlying u=some .string) (hi:P.info? e=some i) (hz:i.zero=some (.int .u8 0)) (mx:i.size=1) (jh:i.bytes=1)
 (v:Value) (n:Nat) (xs:List Value) (hs:a.eval sl=v) (hown:w.ownsRow base e 1 v n xs) (s:ByteArray) (hx:a.eval x = .string s) (li:n+s.size<=maxLen) (nU:n+s.size<=140737488355328) (eS:base<=w.heap.size)
 (h:∀ v' w',w'.ownsRow base e 1 v' (n+s.size) (xs++Lib.strCells s)->w.grownBy w' v.ownBlock->(v'.ownBlock=v.ownBlock\/v'.ownBlock=some w.heap.size)->(v' = .slice none 0 0↔v = .slice none 0 0/\s.size=0)->wpList P ops Q rest (a.put o.dst v') w'):wpList P ops Q (o::rest) a w:=by
 obtain⟨v',w',hr,h2,h3,h4,h5⟩:=Tn (P:=P) w base t u o.type e i ht hu hi hz mx jh v n xs hown s li nU eS;refine wpList_plain jA λK hK=>?_;unfold Oper.wp execOp;simp only[ho,resolve,invoke,builtin,Sem.run_bind,Sem.run_pure,Result.andThen_ok,List.map_toArray,List.map_cons,List.map_nil,hs,hx,hr];exact hK _ _ (h v' w' h2 h3 h4 h5)
end
theorem Tryz.infoByte:(prog.info? 5).map (λi=>(i.zero,i.size,i.bytes))=some (some (.int .u8 0),1,1):=by kernel_rfl
end
end Go.Proofs.YtbfbobfbgabjiaaGreatDoor
