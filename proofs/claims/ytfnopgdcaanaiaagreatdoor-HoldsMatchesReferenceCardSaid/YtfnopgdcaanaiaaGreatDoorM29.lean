/- Parts of the proof. No condition. -/
import Derived.Test.YtfnopgdcaanaiaaGreatDoorM28
set_option linter.all false
set_option maxRecDepth 100000
set_option maxHeartbeats 8000000
namespace Go.Proofs.YtfnopgdcaanaiaaGreatDoor
open Go.Proofs.Tryz
section
open Go.RowKit Go.Shelf
def Np.rO(d:Int)(x:Np.Held):Np.Held:={ x with spans:=Np.ka x d }
theorem Np.Vz(h:Np.Hist):Np.bp h=(Np.pubAll h).map (Np.rO h.drift):=rfl
theorem Ls{α:Type}{l:List α}{k:Nat}{x:α}(hx:l[k]?=some x):l.take (k+1)=l.take k ++ [x]:=by
 obtain⟨hl,he⟩:=cQ.1 hx;rw[fQ hl,he]
def sA(A1:Option Addr)(n1 c1:Nat)(A2:Option Addr)(n2 c2:Nat)(s:ByteArray)(ty lf:Int)(A3:Option Addr)(n3 c3:Nat)(A4:Option Addr)(n4 c4:Nat)(dr st:Int)(zb zo nz cz k:Nat)(zs:ByteArray)(e5:Value)(i:Nat):Value:=[.agg #[.slice A1 n1 c1,.slice A2 n2 c2,.string s,.int .i64 ty,.int .i64 lf,.slice A3 n3 c3,.slice A4 n4 c4,.int .i64 dr,.int .i64 st],.slice (some ⟨zb,zo,none⟩) nz cz,.int .i64 (k:Nat),.pointer (some ⟨zb,zo+k,none⟩),.string zs,e5,undef].getD i undef
def rl(i:Nat):Nat:=[21,22,23,24,25,26,7].getD i 0
def Xh:List Nat:=[0,1,2,3,4,5].map rl
theorem D9:∀ i∈[0,1,2,3,4,5],rl i<50/\rl i∈Xh:=by decide
theorem IV:∀ i∈[0,1,2,3,4,5],∀ j∈[0,1,2,3,4,5],j≠i->rl i≠rl j:=by decide
theorem aBK(e:List Value)(h:Np.Hist)(cK:Np.VHist h)(w:World)(k:iW w e h) :
 Calls prog 73 #[.agg e.toArray] w λe w'=>∃ A n c,e = .returned (.slice A n c)/\(Np.bp h).length=n/\SlR db 8 w' w'.heap.size (.slice A n c) (Np.bp h)/\Below w.heap.size w w':=by
 obtain⟨A1,n1,c1,A2,n2,c2,s,ty,lf,A3,n3,c3,A4,n4,c4,dr,st,rfl,-,-,aB,Cd,BZ⟩:=tm k.rh;have Aj:Hid (h.drift=dr):=jq (by
  obtain⟨hv,cv,s',dv,dU,he,_⟩:=k.rh;simp only[List.cons.injEq,Value.int.injEq,true_and,and_true] at he;exact he.2.2.2.2.2.2.2.1.symm)
 have fu:=jq cK;have iG:=jq k.use;obtain⟨X,hX⟩:=acJ w.heap.size;obtain⟨w1,ah⟩:=acJ (w.alloc (.cells #[.slice A1 n1 c1,.slice A2 n2 c2,.string s,.int .i64 ty,.int .i64 lf,.slice A3 n3 c3,.slice A4 n4 c4,.int .i64 dr,.int .i64 st] 29));have bd:w1.heap.size=X+1:=by rw[<-ah,<-hX];simp
 have hb:Below w.heap.size w w1:=by rw[<-ah];exact (vQ _ _).alloc (bQ _) _
 have aG:=jq hb;have fM:=jq (k.keep hb);have az:=jq (iq _ _ hX ah);have GG:Hid (0<=dr/\dr<=1000):=jq (by rw[<-Aj.out];exact cK.drift);clear hb k aB Cd BZ cK;have k0:=az.out 0 _ rfl;have k1:=az.out 1 _ rfl;have k2:=az.out 2 _ rfl;have k3:=az.out 3 _ rfl;have k4:=az.out 4 _ rfl;have k5:=az.out 5 _ rfl;have k6:=az.out 6 _ rfl;have k7:=az.out 7 _ rfl;have k8:=az.out 8 _ rfl;go_enter func73,ntmps73;go_wp2_with fail;clear ah;refine (aFJ _ h iG.out.fewH w1 fM.out.rh).mono ?_;rintro e w2 ⟨mF,hb⟩;obtain⟨v',rfl,ho⟩:∃ v',e = .returned (.tuple #[v',.int .i64 0])/\cF w1.heap.size w2 v' (Np.apexes h.copies):=by
  rcases mF with ⟨_,v',h1,h2⟩ | ⟨h1,_⟩
  ·exact⟨v',h1,h2⟩
  ·exact absurd fu.out h1
 have ju:(Np.apexes h.copies).length<=1000:=by
  have h2:=IJ h.copies;have h3:=iG.out.copies;omega
 have Ev:SlR RTx 1 w2 w2.heap.size v' (Np.apexes h.copies):=ho.slr (by omega) (λx hx=>by
  obtain⟨c,hc,rfl⟩:=Np.zF.1 hx;have h1:=(Np.tj (Np.zT (fu.out.each c hc).zone).1).1;omega)
 obtain⟨zA,cz,rfl,sL,_⟩:=ak Ev;obtain⟨nz,xm⟩:=acJ ((Np.apexes h.copies).length);rw[xm] at Ev ju sL |-;have ja:=jq Ev;have tL:=jq xm;have ai:=jq (aG.out.trans (hb.mono aG.out.size));have iV:=jq (fM.out.keep hb);have aZ:=jq (az.out.keep hb (by omega));have aN:=hb.size;obtain⟨B,hB⟩:=acJ w2.heap.size;have O1:X<B:=by omega
 have Du:Hid (gC w2 B [.slice A1 n1 c1,.slice A2 n2 c2,.string s,.int .i64 ty,.int .i64 lf,.slice A3 n3 c3,.slice A4 n4 c4,.int .i64 dr,.int .i64 st] h):=jq (by rw[<-hB];exact iV.out.rh);obtain⟨i0,la,fk,KE,Fj⟩:=info_parts Tryz.infoHeldA;clear hb mF ho Ev xm k0 k1 k2 k3 k4 k5 k6 k7 k8;go_wp2_with fail;go_loopw [3,6] (λvo i wr=>∃ (k m:Nat) (A:Option Addr) (c:Nat) (M:Nat->Prop),k<=nz/\i = .int .i64 k/\vo = .slice A m c/\(Np.pubTo h k).length=m/\Hid (∀ j,M j->B<=j/\j<wr.heap.size)/\Hid (br db 8 57 B M wr (.slice A m c) ((Np.pubTo h k).map (Np.rO dr)))/\Hid (Below B w2 wr)) (λ_ i _=>nz - (intOf i).toNat)
 case atStart=>exact⟨0,0,none,0,λ_=>False,jQ _,rfl,rfl,rfl,jq (λj h=>h.elim),jq (br.nil _),jq (vQ _ _)⟩
 case round=>
  obtain⟨k,m,A,c,M,hk,rfl,rfl,hm,MD,HO,HB⟩:=hrel;have an:=HB.out.size;have jt:m<=2100:=by rw[<-hm];exact iG.out.pubTo k
  have dt:=jq hm;clear hm;by_cases ab:k<nz
  case neg=>
   have Hw:Hid (Np.pubTo h k=Np.pubAll h):=jq (Np.K2 (by have:=tL.out;omega));rw[Hw.out] at HO dt;have aY:Hid ((Np.pubAll h).map (Np.rO dr)=Np.bp h):=jq (by rw[Np.Vz,Aj.out]);rw[aY.out] at HO;have jm:Hid ((Np.bp h).length=m):=jq (by rw[<-aY.out,List.length_map];exact dt.out);have HE:Hid (Below w.heap.size w wr):=acZ ai HB.out;go_wp2_with fail;refine bodyPost_ret (v:=.slice A m c) (by simp[results,results73,go_sem]) rfl ?_;exact⟨_,_,_,rfl,jm.out,HO.out.slr fp (by rw[jm.out];omega),HE.out⟩
  case pos=>
   obtain⟨z,aa⟩:∃ z,(Np.apexes h.copies)[k]?=some z:=⟨_,aQ (by have:=tL.out;omega)⟩;have cx:=ja.out.later mY Le (show Below w2.heap.size w2 wr by rw[hB];exact HB.out);obtain⟨zb,zo,zs,rfl,bB,fV,gL,e0⟩:=qz cx aa;have tS:=jq (And.intro fV gL);have vO:=jq (Np.RI aa);have DQ:=jq (gQ aa);have Uf:Hid (gC wr B [.slice A1 n1 c1,.slice A2 n2 c2,.string s,.int .i64 ty,.int .i64 lf,.slice A3 n3 c3,.slice A4 n4 c4,.int .i64 dr,.int .i64 st] h):=jq (mX _ _ _ _ _ Du.out HB.out);have ek:=jq (aZ.out.keep HB.out (by omega));have bJ:(0:Int)<=(k:Int):=by omega
   have bI:(k:Int)<(nz:Int):=by omega
   clear cx aa fV gL;have cL:Below wr.heap.size wr wr.drew:=(vQ _ _).drew;obtain⟨w8,eB⟩:=acJ wr.drew;rw[eB] at cL;have n7:w8.heap.size=wr.heap.size:=by rw[<-eB];rfl
   have eF:Hid (Below B w2 w8):=acZ HB cL;have GV:Hid (gC w8 B [.slice A1 n1 c1,.slice A2 n2 c2,.string s,.int .i64 ty,.int .i64 lf,.slice A3 n3 c3,.slice A4 n4 c4,.int .i64 dr,.int .i64 st] h):=jq (mX _ _ _ _ _ Uf.out (cL.adZ));have Hp:=jq (HO.out.keep eY fp eZ cL);have k0:=ek.out 0 _ rfl;have k1:=ek.out 1 _ rfl;have k2:=ek.out 2 _ rfl;have k3:=ek.out 3 _ rfl;have k4:=ek.out 4 _ rfl;have k5:=ek.out 5 _ rfl;have k6:=ek.out 6 _ rfl;have k7:=ek.out 7 _ rfl;have k8:=ek.out 8 _ rfl;go_wp2_with fail;replace e0:=aaJ cL e0;clear k0 k1 k2 k3 k4 k5 k6 k7 k8;have cH:=jq (ek.out.keep cL (by omega));have k0:=cH.out 0 _ rfl;have k1:=cH.out 1 _ rfl;have k2:=cH.out 2 _ rfl;have k3:=cH.out 3 _ rfl;have k4:=cH.out 4 _ rfl;have k5:=cH.out 5 _ rfl;have k6:=cH.out 6 _ rfl;have k7:=cH.out 7 _ rfl;have k8:=cH.out 8 _ rfl;have aYK:=jq cL;clear cL;refine De λa0 bw=>?_;have jA:=jq bw;have vg:=jq (show a0.eval (.tmp 1) = .pointer (some ⟨X,0,none⟩) by rw[bw];rfl);have LV:=jq (show a0.eval (.tmp 4) = .slice (some ⟨zb,zo,none⟩) nz cz by rw[bw];rfl);have iT:=jq (show a0.eval (.tmp 6) = .int .i64 (k:Nat) by rw[bw];rfl);have HM:=jq (show a0.tmps.size=50 by rw[bw];rfl);clear bw;refine wp_region_any (by kernel_rfl) ?_
   try rw[show ({ heap:=wr.heap,tape:=wr.tape,drawn:=wr.drawn+1,os:=wr.os,output:=wr.output } : World)=w8 from eB]
   try rw[eB]
   refine gl 5 (D:=[0,1,2,3,4]) (val:=sA A1 n1 c1 A2 n2 c2 s ty lf A3 n3 c3 A4 n4 c4 dr st zb zo nz cz k zs undef) D9 IV (rr HM.out) (by kernel_rfl) ?_ ?_
   ·intro i aR bS o ho a' hb aP;have k1':=aZJ hb vg.out;have k4':=aZJ hb LV.out;have k6':=aZJ hb iT.out;simp[Act.eval] at k1' k4' k6'
    repeat' (rcases aR with _ | ⟨_,aR⟩)
    all_goals first
     | (exfalso;simp at bS;done)
     | (cases ho
        try simp[Act.eval,Region.binds,sA,rl] at aP
        refine gv (by simp[Region.wanted]) ?_;simp[Oper.quietAt,Oper.quietUpon,execOp,go_sem,sA,k1',k4',k6',k0,k1,k2,k3,k4,k5,k6,k7,k8,e0,bJ,bI,aP])
   ·intro f listed a' hH hr hv;have av0:=hv 0;have av4:=hv 4;simp[Act.eval,sA,rl] at av0 av4;simp only[wpOp];simp[Region.wanted];refine .inl ?_;simp[Oper.wp,go_sem,av0,av4];refine (VE B _ h fu.out.full iG.out.fewH.1 zs tS.out.2 (by rw[tS.out.1];exact iG.out.pairs z) iG.out.fewH.2 w8 (by omega) GV.out).mono ?_;rw[tS.out.1];rintro e w9 ⟨vl,rfl,je,hb⟩;have bX:=je.all fp;obtain⟨Ap,cp,rfl,_,_⟩:=ak bX;obtain⟨np,J6⟩:=acJ ((Np.pub h.copies z).length);rw[J6] at je bX |-;have aY:=jq je;have kh:=jq J6;have qv:=hb.size;have cR:=jq hb;replace e0:=aaJ hb e0;clear k0 k1 k2 k3 k4 k5 k6 k7 k8;have cm:=jq (cH.out.keep hb (by omega));have k0:=cm.out 0 _ rfl;have k1:=cm.out 1 _ rfl;have k2:=cm.out 2 _ rfl;have k3:=cm.out 3 _ rfl;have k4:=cm.out 4 _ rfl;have k5:=cm.out 5 _ rfl;have k6:=cm.out 6 _ rfl;have k7:=cm.out 7 _ rfl;have k8:=cm.out 8 _ rfl;clear je bX hb J6;dsimp only;refine gl 6 (D:=[0,1,2,3,4,5]) (val:=sA A1 n1 c1 A2 n2 c2 s ty lf A3 n3 c3 A4 n4 c4 dr st zb zo nz cz k zs (.slice Ap np cp)) D9 IV (hH.next D9 IV hr) (by kernel_rfl) ?_ ?_
    ·intro i aR bS o ho a' hb aP;have k1':=aZJ hb vg.out;have k4':=aZJ hb LV.out;have k6':=aZJ hb iT.out;simp[Act.eval] at k1' k4' k6'
     repeat' (rcases aR with _ | ⟨_,aR⟩)
     all_goals first
      | (exfalso;simp at bS;done)
      | (cases ho
         try simp[Act.eval,Region.binds,sA,rl] at aP
         refine gv (by simp[Region.wanted]) ?_;simp[Oper.quietAt,Oper.quietUpon,execOp,go_sem,sA,k1',k4',k6',k0,k1,k2,k3,k4,k5,k6,k7,k8,e0,bJ,bI,aP])
    ·intro f listed a' hH hr hv;have av5:=hv 5;simp[Act.eval,sA,rl] at av5;simp only[wpOp];simp[Region.wanted];refine .inl ?_;simp[Oper.wp,execOp,go_sem,av5];refine tv hH hr HM.out D9 (by kernel_rfl) λdZ=>?_
     ·rw[dZ,jA.out];simp[lp,Act.put,sA,rl];clear hv hH dZ;clear e0 k0 k1 k2 k3 k4 k5 k6 k7 k8;have tM:=jq (Hp.out.keep eY fp eZ cR.out);have Zn:m+np<=2100:=by
       have h1:=iG.out.pubTo (k+1);rw[vO.out,List.length_append,dt.out,kh.out] at h1;exact h1
      go_wp2_with fail;clear hk;go_loopw [3,8] (λvo i wr=>∃ (j m':Nat) (A':Option Addr) (c':Nat) (M':Nat->Prop),j<=np/\i = .int .i64 j/\vo = .slice A' m' c'/\m'=m+j/\w9.heap.size<=wr.heap.size/\Hid (∀ q,M' q->(B<=q/\(q<w8.heap.size\/w9.heap.size<=q))/\q<wr.heap.size)/\Hid (Leaves' (λq=>M' q/\q<w8.heap.size) w9 wr M')/\Hid (br db 8 57 B M' wr (.slice A' m' c') ((Np.pubTo h k++(Np.pub h.copies z).take j).map (Np.rO dr)))/\Hid (Below B w9 wr)) (λ_ i _=>np - (intOf i).toNat)
      case atStart=>exact⟨0,m,_,_,M,jQ _,rfl,rfl,rfl,bQ _,jq (λq hq=>by have:=MD.out q hq;omega),jq ⟨rfl,rfl,rfl,bQ _,λq hq hM=>⟨λe=>hM ⟨e,by have:=MD.out q e;omega⟩,rfl⟩⟩,jq (by rw[List.take_zero,List.append_nil];exact tM.out),jq (vQ _ _)⟩
      case round=>
       obtain⟨j,m',A',c',M',hj,rfl,rfl,rfl,beZ,yy,AE,HO',HB'⟩:=hrel;by_cases pb:j<np
       case neg=>
        have tP:Hid ((Np.pub h.copies z).take j=Np.pub h.copies z):=jq (kQ (by rw[kh.out];omega));rw[tP.out,<-vO.out] at HO';have nU:j=np:=by omega
        subst nU;have mt:Hid (Below B w2 wr):=jq (eF.out.trans ((cR.out.adZ).trans HB'.out));go_wp2_with fail;go_roundw
        case measure=>simp[intOf] <;> omega
        case rel=>exact⟨k+1,m+j,A',c',M',by omega,by go_num,rfl,by rw[vO.out,List.length_append,dt.out,kh.out],jq (λq hq=>by have:=yy.out q hq;omega),HO',mt⟩
       case pos=>
        obtain⟨x,aa⟩:∃ x,(Np.pub h.copies z)[j]?=some x:=⟨_,aQ (by rw[kh.out];exact pb)⟩;have nv:=jq (Np.RF fu.out iG.out (Np.KX.2 ⟨z,DQ.out,gQ aa⟩));have AW:Hid ((Np.pubTo h k++(Np.pub h.copies z).take (j+1)).map (Np.rO dr)=(Np.pubTo h k++(Np.pub h.copies z).take j).map (Np.rO dr) ++ [Np.rO dr x]):=jq (by rw[Ls aa,<-List.append_assoc,List.map_append,List.map_singleton]);have Qw:=aY.out (λq=>M' q/\q<w8.heap.size) (λq hq=>⟨(yy.out q hq.1).1.1,hq.2⟩);have ZS:=AE.out.slr eY fp eZ Qw;obtain⟨A'',c'',hA'',_,_,bU⟩:=ZS;simp only[Value.slice.injEq] at hA'';obtain⟨rfl,-,rfl⟩:=hA'';obtain⟨b,o,ec,rfl,Pc,hlen,hce,Qq⟩:=bU j x aa;have UU:=jq Qq;obtain⟨zs2,sn,dv,sv,fv,pv,rfl,_,_,aw,eW,aK,aS,jg,jj⟩:=Qq;obtain⟨dA,dn,dc,rfl⟩:=om aK;obtain⟨gA,gn,gc,rfl⟩:=om aS;obtain⟨fA,fn,fc,rfl⟩:=om jg;obtain⟨pA,pn,pc,rfl⟩:=om jj;have pR:=jq (aS.all zJ);have vF:=jq (jg.all (λ_ _ _ _ _ _ _ h=>h));have f0:=(rL (hce 0 _ rfl)).2;have f1:=(rL (hce 1 _ rfl)).2;have f2:=(rL (hce 2 _ rfl)).2;have f3:=(rL (hce 3 _ rfl)).2;have f4:=(rL (hce 4 _ rfl)).2;have f5:=(rL (hce 5 _ rfl)).2;have f6:=(rL (hce 6 _ rfl)).2;have f7:=(rL (hce 7 _ rfl)).2;simp only[Nat.add_zero] at f0;have a6K:(0:Int)<=(j:Int):=by omega
        have a6X:(j:Int)<(np:Int):=by omega
        obtain⟨E,hE⟩:=acJ wr.heap.size;obtain⟨w5,aX⟩:=acJ (wr.alloc (.cells #[.string zs2,.string sn,.int .i64 x.signed.set.type,.int .i64 x.signed.set.life,.slice dA dn dc,.slice gA gn gc,.slice fA fn fc,.slice pA pn pc] 57));have aH:Below wr.heap.size wr w5:=by rw[<-aX];exact (vQ _ _).alloc (bQ _) _
        have ik:w5.heap.size=E+1:=by rw[<-aX,<-hE];simp
        have kf:=jq (iq _ _ hE aX);have g9:Hid (w5.heap[E]?=some (.cells #[.string zs2,.string sn,.int .i64 x.signed.set.type,.int .i64 x.signed.set.life,.slice dA dn dc,.slice gA gn gc,.slice fA fn fc,.slice pA pn pc] 57 (0,0))):=jq (by rw[<-aX,<-hE];exact heap_alloc_new _ _);have bN:=jq aH;have mu:=jq ((cm.out.keep HB'.out (by omega)).keep aH (by omega));have k7:=mu.out 7 _ rfl;have d0:=kf.out 0 _ rfl;have d1:=kf.out 1 _ rfl;have d2:=kf.out 2 _ rfl;have d3:=kf.out 3 _ rfl;have d4:=kf.out 4 _ rfl;have d5:=kf.out 5 _ rfl;have d6:=kf.out 6 _ rfl;have d7:=kf.out 7 _ rfl;clear aa Qw bU hce aw eW aK aS jg jj aH hlen;go_wp2_with fail;clear aX f0 f1 f2 f3 f4 f5 f6 f7 d0 d1 d2 d3 d4 d5 d6 d7;refine (aEK x nv.out.1 dr GG.out nv.out.2.1 nv.out.2.2 sn dA gA dn dc gn gc _ w5 (pR.out.later cg cY bN.out) (vF.out.later eE jk bN.out)).mono ?_;rintro e w6 ⟨v6,rfl,ix,hb⟩;obtain⟨A6,c6,rfl⟩:=ix.form;obtain⟨n6,xg⟩:=acJ ((Np.ka x dr).length);rw[xg] at ix |-;have iy:=hb.size;have qV:=jq ix;have AG:=jq xg;have tE:=jq (kf.out.keep hb (by omega));have Qe:w6.heap[E]?=some (.cells #[.string zs2,.string sn,.int .i64 x.signed.set.type,.int .i64 x.signed.set.life,.slice dA dn dc,.slice gA gn gc,.slice fA fn fc,.slice pA pn pc] 57 (0,0)):=(hb.block E (by omega)).trans g9.out;have q7:=tE.out 7 _ rfl;have z7:w6.frozen? ⟨E,7,none⟩=false:=by simp[World.frozen?,Qe]
        have TN:Hid (Below wr.heap.size wr w6):=acZ bN hb;have d0:=tE.out 0 _ rfl;have d1:=tE.out 1 _ rfl;have d2:=tE.out 2 _ rfl;have d3:=tE.out 3 _ rfl;have d4:=tE.out 4 _ rfl;have d5:=tE.out 5 _ rfl;have d6:=tE.out 6 _ rfl;obtain⟨wR,pk⟩:=acJ ((w6.setCell ⟨E,7,none⟩ (.slice A6 n6 c6)).alloc (.cells #[.string zs2,.string sn,.int .i64 x.signed.set.type,.int .i64 x.signed.set.life,.slice dA dn dc,.slice gA gn gc,.slice fA fn fc,.slice A6 n6 c6] 57));have hzR:wR.heap.size=w6.heap.size+1:=by rw[<-pk];simp[World.setCell]
        have rT:Hid (Below wr.heap.size wr wR):=jq (by rw[<-pk];exact (TN.out.setCell (by dsimp only;omega) _).alloc (by simp[World.setCell];omega) _);have GE:Hid (eh wR w6.heap.size 0 [.string zs2,.string sn,.int .i64 x.signed.set.type,.int .i64 x.signed.set.life,.slice dA dn dc,.slice gA gn gc,.slice fA fn fc,.slice A6 n6 c6]):=jq (wl (w:=w6.setCell ⟨E,7,none⟩ (.slice A6 n6 c6)) _ _ (by simp[World.setCell]) pk.symm);have UC:Hid (aJ w5.heap.size wR (.slice A6 n6 c6) (Np.ka x dr)):=jq (gN ix (λg hg=>by
         have h1:=(World.ownsRow.lt ix g hg);rw[<-pk];exact (((vQ (w6.setCell ⟨E,7,none⟩ (.slice A6 n6 c6)).heap.size _).alloc (bQ _) _).block g (by simp[World.setCell];omega)).trans (wQ _ _ _ _ (by dsimp only;omega))))
        have yG:Hid (db (bF wR M') wR.heap.size [.string zs2,.string sn,.int .i64 x.signed.set.type,.int .i64 x.signed.set.life,.slice dA dn dc,.slice gA gn gc,.slice fA fn fc,.slice A6 n6 c6] (Np.rO dr x)):=jq (by
         have h1:=(Leaves'.of_below (M:=M') rT.out).read eY fp eZ UU.out;have h2:SlR cT 2 (bF wR M') wR.heap.size (.slice A6 n6 c6) (Np.ka x dr):=(UC.out.around (n:=wr.heap.size) (by omega) (by rw[AG.out];have:=rG (x.fresh.map (Np.gi x.signed dr));have h2:=AG.out;unfold Np.ka at h2;rw[List.length_map] at this;have:=nv.out.2.2;omega)) M' (λq hq=>⟨jQ _,(yy.out q hq).2⟩);exact R7 h1 h2)
        obtain⟨ys,CQ⟩:=acJ ((Np.pubTo h k++(Np.pub h.copies z).take j).map (Np.rO dr));obtain⟨y,hy⟩:=acJ (Np.rO dr x);rw[CQ] at HO' AW;rw[hy] at AW yG;have DC:=jq (HO'.out.keep eY fp eZ rT.out);have iE:=jq HO'.out.lt;have G8:Hid (ys.length=m+j):=jq (by rw[<-CQ,List.length_map,List.length_append,dt.out,List.length_take,kh.out];omega);have Is:=jq pk;clear ix hb xg Qe k7 CQ hy pk;go_wp2_with (at_builtin;rw[Is.out];refine Dd (R:=db) (M:=M') wR rfl _ _ 52 rfl B 57 i0 (.agg #[.string ⟨#[]⟩,.string ⟨#[]⟩,.int .i64 0,.int .i64 0,.slice none 0 0,.slice none 0 0,.slice none 0 0,.slice none 0 0]) 144 underlying52 la fk KE Fj rfl (by decide) (.slice A' (m+j) c') ys rfl DC.out (some ⟨w6.heap.size,0,none⟩) 1 [y] rfl (C4 rfl yG.out GE.out) Lc (by rw[G8.out];simp[maxLen];omega) (by rw[G8.out];simp;omega) (by omega) eY fp eZ ?_;intro v8 w8' eV dw iN;obtain⟨A8,c8,rfl⟩:=br.formN eV (n:=m+(j+1)) (by rw[List.length_append,G8.out];simp;omega);have H8:=jq (And.intro eV (And.intro dw iN));clear eV dw iN);have acX:=H8.out.2.1.size;have aV:Hid (Below B w9 w8'):=jq (HB'.out.trans ((rT.out.adZ).trans ((vQ _ _).grown H8.out.2.1 (by omega) (λg hg=>(iE.out g hg).1))));have Un:Hid (Leaves' (λq=>(M' q\/(Value.slice A8 (m+(j+1)) c8).ownBlock=some q)/\q<w8.heap.size) w9 w8' (λq=>M' q\/(Value.slice A8 (m+(j+1)) c8).ownBlock=some q)):=jq (by
         have hown:∀ q,(Value.slice A8 (m+(j+1)) c8).ownBlock=some q->M' q\/wR.heap.size=q:=λq hq=>by
          rcases H8.out.2.2 with h | h
          ·exact .inl (by obtain⟨_,_,_,h3,_⟩:=HO'.out;exact h3 q (h ▸ hq))
          ·rw[h] at hq;exact .inr (Option.some.inj hq)
         refine⟨H8.out.2.1.os.trans (rT.out.os.trans AE.out.os),H8.out.2.1.tape.trans (rT.out.tape.trans AE.out.tape),H8.out.2.1.output.trans (rT.out.output.trans AE.out.output),by have:=aV.out.size;omega,λq hq hm=>?_⟩;have hm':¬ M' q:=λe=>hm ⟨.inl e,by rcases (yy.out q e).1.2 with h | h <;> omega⟩;obtain⟨h1,h2⟩:=AE.out.keep q hq (λe=>hm' e.1);refine⟨λe=>?_,?_⟩
         ·rcases e with e | e
          ·exact hm' e
          ·rcases hown q e with h | h
           ·exact hm' h
           ·omega
         ·refine (H8.out.2.1.block q (by omega) (λe=>hm' ?_)).trans ((rT.out.block q (by omega)).trans h2);obtain⟨_,_,_,h3,_⟩:=HO'.out;exact h3 q e.symm)
        go_wp2_with fail;go_roundw
        case measure=>simp[intOf] <;> omega
        case rel=>exact⟨j+1,m+(j+1),A8,c8,_,by omega,by go_num,rfl,rfl,by omega,jq (λq hq=>by
         rcases hq with hq | hq
         ·have:=yy.out q hq;omega
         ·have:=H8.out.1.lt q hq
          rcases H8.out.2.2 with h | h
          ·have h3:=(yy.out q (by obtain⟨_,_,_,h3,_⟩:=HO'.out;exact h3 q (h ▸ hq)));omega
          ·rw[h] at hq;have:=Option.some.inj hq;omega),Un,jq (by rw[AW.out];exact H8.out.1),aV⟩
end
end Go.Proofs.YtfnopgdcaanaiaaGreatDoor
