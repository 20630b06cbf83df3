/- Parts of the proof. No condition. -/
import Derived.Test.YtfnopgdcaanaiaaGreatDoorH23
import Derived.Test.YtfnopgdcaanaiaaGreatDoorH24
set_option linter.all false
set_option maxRecDepth 100000
set_option maxHeartbeats 8000000
namespace Go.Proofs.YtfnopgdcaanaiaaGreatDoor
open Go.Proofs.Tryz
section
open Go.RowKit
theorem ZI{h:Np.Hist} : Np.VHist h↔(((Np.VHosts h.hosts/\Np.VRoot h.anchor h.hints)/\Np.qF h)/\∀ c∈h.copies,Np.CopyOk h c)/\h.copies.Pairwise λc d=>¬ Np.jf c d:=
 ⟨λv=>⟨⟨⟨⟨v.hosts,v.root⟩,v.stop,v.drift⟩,v.each⟩,v.apart⟩,λv=>⟨v.1.1.2.1,v.1.1.2.2,v.1.1.1.1,v.1.1.1.2,v.1.2,v.2⟩⟩
theorem X7(hv:Value)(hs:List Np.Host)(cv:Value)(l:List Np.Copy)(s:ByteArray)(an:s.size<=140737488355328)(ty life:Int)(dv:Value)(d:List Np.Datum)(cN:Value)(hints:List Int)(drift stop:Int)(hl:l.length<=500)(hz:∀ p∈l,p.zone.sets.length<=20000)(w:World)
 (hh:SlR iG 3 w w.heap.size hv hs) (hd:SlR fU 5 w w.heap.size cv l) (hdd:SlR bn 3 w w.heap.size dv d) (nC:SlR jn 1 w w.heap.size cN hints) :
 Calls prog 44 #[.agg #[hv,cv,.string s,.int .i64 ty,.int .i64 life,dv,cN,.int .i64 drift,.int .i64 stop]] w λe w'=>e = .returned (.bool (Np.yes (Np.VHist ⟨hs,l,⟨s.data.toList,ty,life,d⟩,hints,drift,stop⟩)))/\Below w.heap.size w w':=by
 obtain⟨r,hr⟩:∃ r,Np.yes (Np.VHist ⟨hs,l,⟨s.data.toList,ty,life,d⟩,hints,drift,stop⟩)=r:=⟨_,rfl⟩;obtain⟨gI,pE⟩:∃ h:Np.Hist,(⟨hs,l,⟨s.data.toList,ty,life,d⟩,hints,drift,stop⟩:Np.Hist)=h:=⟨_,rfl⟩;rw[hr];have HR:Hid (Np.yes ((((Np.VHosts hs/\Np.VRoot ⟨s.data.toList,ty,life,d⟩ hints)/\Np.qF gI)/\∀ c∈l,Np.CopyOk gI c)/\l.Pairwise λc d=>¬ Np.jf c d)=r):=jq (by rw[<-hr,<-pE];exact (Np.ql (ZI (h:=⟨hs,l,⟨s.data.toList,ty,life,d⟩,hints,drift,stop⟩))).symm);have fI:Hid (Np.qF gI↔(1<=stop/\stop<=10000000)/\(0<=drift/\drift<=1000)):=jq (by rw[<-pE];exact Iff.rfl);have ic:Hid (∀ c,Np.CopyOk gI c↔(0<=c.host/\c.host<hs.length)/\(0<=c.frm/\c.frm<c.til/\c.til<=stop)/\Np.VZone c.zone):=jq (λc=>by rw[<-pE];exact⟨λh=>⟨h.host,h.times,h.zone⟩,λh=>⟨h.1,h.2.1,h.2.2⟩⟩);have HH:=jq hh;have HD:=jq hd;have jL:=jq hdd;have nW:=jq nC;have HZ:=jq hz;obtain⟨A1,c1,rfl,_,_⟩:=al hh;obtain⟨A2,c2,rfl,_,_⟩:=al hd;obtain⟨A3,c3,rfl,_,_⟩:=al hdd;obtain⟨A4,c4,rfl,_,_⟩:=al nC;clear hr pE hd hh hdd nC hz;obtain⟨n1,bl⟩:∃ n,hs.length=n:=⟨_,rfl⟩;obtain⟨n2,bP⟩:∃ n,l.length=n:=⟨_,rfl⟩;obtain⟨n3,dW⟩:∃ n,d.length=n:=⟨_,rfl⟩;obtain⟨n4,eT⟩:∃ n,hints.length=n:=⟨_,rfl⟩;rw[bl] at HH ic |-;rw[bP] at HD hl |-;rw[dW] at jL |-;rw[eT] at nW |-;have HN:=jq (And.intro bl (And.intro bP (And.intro dW eT)));clear bl bP dW eT;obtain⟨W1,ap⟩:∃ W1,w.alloc (.cells #[.slice A1 n1 c1,.slice A2 n2 c2,.string s,.int .i64 ty,.int .i64 life,.slice A3 n3 c3,.slice A4 n4 c4,.int .i64 drift,.int .i64 stop] 29)=W1:=⟨_,rfl⟩;have aG:Below w.heap.size w W1:=by rw[<-ap];exact (vQ _ _).alloc (bQ _) _
 have kJ:W1.heap.size=w.heap.size+1:=by rw[<-ap];simp
 obtain⟨X,hX⟩:∃ X,w.heap.size=X:=⟨_,rfl⟩;have jS:=jq hX;have k0:W1.cell? ⟨X,0,none⟩=some (.slice A1 n1 c1):=by rw[<-ap,<-hX];simp[go_sem]
 have k1:W1.cell? ⟨X,1,none⟩=some (.slice A2 n2 c2):=by rw[<-ap,<-hX];simp[go_sem]
 have k2:W1.cell? ⟨X,2,none⟩=some (.string s):=by rw[<-ap,<-hX];simp[go_sem]
 have k3:W1.cell? ⟨X,3,none⟩=some (.int .i64 ty):=by rw[<-ap,<-hX];simp[go_sem]
 have k4:W1.cell? ⟨X,4,none⟩=some (.int .i64 life):=by rw[<-ap,<-hX];simp[go_sem]
 have k5:W1.cell? ⟨X,5,none⟩=some (.slice A3 n3 c3):=by rw[<-ap,<-hX];simp[go_sem]
 have k6:W1.cell? ⟨X,6,none⟩=some (.slice A4 n4 c4):=by rw[<-ap,<-hX];simp[go_sem]
 have k7:W1.cell? ⟨X,7,none⟩=some (.int .i64 drift):=by rw[<-ap,<-hX];simp[go_sem]
 have k8:W1.cell? ⟨X,8,none⟩=some (.int .i64 stop):=by rw[<-ap,<-hX];simp[go_sem]
 rw[hX] at aG kJ HH HD jL nW;rw[hX];have aP:=jq aG;clear aG;go_enter func44,ntmps44;go_wp2_with fail;refine (X8 _ hs _ ((HH.out.keep mI aP.out).more vJ (by omega))).mono ?_;rintro e w2 ⟨rfl,ac⟩;have aJ:=ac.size;replace k0:=(cl ac (by omega)).trans k0;replace k1:=(cl ac (by omega)).trans k1;replace k2:=(cl ac (by omega)).trans k2;replace k3:=(cl ac (by omega)).trans k3;replace k4:=(cl ac (by omega)).trans k4;replace k5:=(cl ac (by omega)).trans k5;replace k6:=(cl ac (by omega)).trans k6;replace k7:=(cl ac (by omega)).trans k7;replace k8:=(cl ac (by omega)).trans k8;have aj:=jq (aP.out.trans (ac.mono (by omega)));clear ac ap;obtain⟨b1,az⟩:∃ b1,Np.yes (Np.VHosts hs)=b1:=⟨_,rfl⟩;rw[az];have qE:=jq az;clear az
 cases b1 with
 | false=>
  have HX:Hid (r=false):=jq (by rw[<-HR.out];exact Np.aF λq=>by have:=Np.bB q.1.1.1.1;rw[qE.out] at this;cases this);go_wp2_with fail;go_ret;exact⟨ae HX.out.symm,aj.out⟩
 | true=>
 go_wp2_with fail;refine (Ye s an ty life _ d _ hints _ ((jL.out.keep de aj.out).more eN (by omega)) ((nW.out.keep oP aj.out).more vK (by omega))).mono ?_;rintro e w3 ⟨rfl,ak⟩;have el:=ak.size;replace k0:=(cl ak (by omega)).trans k0;replace k1:=(cl ak (by omega)).trans k1;replace k2:=(cl ak (by omega)).trans k2;replace k3:=(cl ak (by omega)).trans k3;replace k4:=(cl ak (by omega)).trans k4;replace k5:=(cl ak (by omega)).trans k5;replace k6:=(cl ak (by omega)).trans k6;replace k7:=(cl ak (by omega)).trans k7;replace k8:=(cl ak (by omega)).trans k8;have ar:=jq (aj.out.trans (ak.mono (by omega)));clear ak;obtain⟨b2,ac⟩:∃ b2,Np.yes (Np.VRoot ⟨s.data.toList,ty,life,d⟩ hints)=b2:=⟨_,rfl⟩;rw[ac];have xk:=jq ac;clear ac
 cases b2 with
 | false=>
  have HX:Hid (r=false):=jq (by rw[<-HR.out];exact Np.aF λq=>by have:=Np.bB q.1.1.1.2;rw[xk.out] at this;cases this);go_wp2_with fail;go_ret;exact⟨ae HX.out.symm,ar.out⟩
 | true=>
 by_cases g1:stop<1
 ·have dg1:decide (stop<1)=true:=uQ g1;have HX:Hid (r=false):=jq (by rw[<-HR.out];exact Np.aF λq=>by have:=fI.out.1 q.1.1.2;omega);clear g1;go_wp2_with fail;go_ret;exact⟨ae HX.out.symm,ar.out⟩
 have dg1:decide (stop<1)=false:=tQ g1;by_cases g2:10000000<stop
 ·have dg2:decide (10000000<stop)=true:=uQ g2;have HX:Hid (r=false):=jq (by rw[<-HR.out];exact Np.aF λq=>by have:=fI.out.1 q.1.1.2;omega);clear g2;go_wp2_with fail;go_ret;exact⟨ae HX.out.symm,ar.out⟩
 have dg2:decide (10000000<stop)=false:=tQ g2;by_cases g3:drift<0
 ·have dg3:decide (drift<0)=true:=uQ g3;have HX:Hid (r=false):=jq (by rw[<-HR.out];exact Np.aF λq=>by have:=fI.out.1 q.1.1.2;omega);clear g3;go_wp2_with fail;go_ret;exact⟨ae HX.out.symm,ar.out⟩
 have dg3:decide (drift<0)=false:=tQ g3;by_cases g4:1000<drift
 ·have dg4:decide (1000<drift)=true:=uQ g4;have HX:Hid (r=false):=jq (by rw[<-HR.out];exact Np.aF λq=>by have:=fI.out.1 q.1.1.2;omega);clear g4;go_wp2_with fail;go_ret;exact⟨ae HX.out.symm,ar.out⟩
 have dg4:decide (1000<drift)=false:=tQ g4;have d5:decide (4000<(n2:Int))=false:=tQ (by omega);have CZ:Hid (Np.qF gI):=jq (fI.out.2 (by omega));have fJ:Hid (l.length=n2):=jq HN.out.2.1;clear g1 g2 g3 g4;go_wp2_with fail;go_loopw [3] (λi wr=>∃ (k:Nat),k<=n2/\i = .int .i64 k/\w3.heap.size<=wr.heap.size/\Hid (Below w3.heap.size w3 wr)/\Hid (∀ c∈l.take k,Np.CopyOk gI c)/\Hid ((l.take k).Pairwise λc d=>¬ Np.jf c d)) (λi _=>n2 - (intOf i).toNat)
 case atStart=>exact⟨0,jQ _,rfl,bQ _,jq (vQ _ _),jq (by simp),jq (by simp)⟩
 case round=>
  obtain⟨k,hk,rfl,aqZ,bD,bk,mi⟩:=hrel;have HB:=jq (ar.out.trans (bD.out.mono (by omega)));have q0:=(cl bD.out (by omega)).trans k0;have q1:=(cl bD.out (by omega)).trans k1;have q8:=(cl bD.out (by omega)).trans k8;by_cases aa:k<n2
  ·obtain⟨x,ab⟩:∃ x,l[k]?=some x:=⟨_,aQ (by rw[fJ.out];exact aa)⟩;obtain⟨b,o,sn,vz,rfl,bJ,ay,cw,fm,f0,f1,f2,f3,f4⟩:=pq (HD.out.keep g8 HB.out) ab;obtain⟨Az,cz,rfl,_,_⟩:=al fm;obtain⟨nz,iU⟩:∃ nz,x.zone.sets.length=nz:=⟨_,rfl⟩;rw[iU] at f4;have HT:Hid (l.take (k+1)=l.take k ++ [x]):=jq (by
    obtain⟨hl,he⟩:=cQ.1 ab;rw[fQ hl,he])
   have HF:Hid (¬ Np.CopyOk gI x->r=false):=jq (λh=>by rw[<-HR.out];exact Np.aF λq=>h (q.1.2 x (gQ ab)));have rY:Hid (∀ (j:Nat) (y:Np.Copy),j<k->l[j]?=some y->Np.jf y x->r=false):=jq (λj y hj hy kB=>by
    rw[<-HR.out];refine Np.aF λq=>?_;have h1:=q.2;rw[List.pairwise_iff_getElem] at h1;obtain⟨e1,e2⟩:=cQ.1 hy;obtain⟨e3,e4⟩:=cQ.1 ab;have h2:=h1 j k e1 e3 hj;rw[e2,e4] at h2;exact h2 kB)
   have xo:Hid (x.zone.sets.length<=20000):=jq (HZ.out x (gQ ab));have aL:=jq ay;have kV:Hid (SlR bh 5 wr wr.heap.size (.slice Az nz cz) x.zone.sets):=jq (by rw[<-iU];exact fm.more cj (by omega));obtain⟨w4,bA⟩:∃ w4,wr.alloc (.cells #[.int .i64 x.host,.int .i64 x.frm,.int .i64 x.til,.string sn,.slice Az nz cz] 46)=w4:=⟨_,rfl⟩;have em:w4.heap.size=wr.heap.size+1:=by rw[<-bA];simp
   have av:Below wr.heap.size wr w4:=by rw[<-bA];exact (vQ _ _).alloc (bQ _) _
   have p0:w4.cell? ⟨wr.heap.size,0,none⟩=some (.int .i64 x.host):=by rw[<-bA];simp[go_sem]
   have p1:w4.cell? ⟨wr.heap.size,1,none⟩=some (.int .i64 x.frm):=by rw[<-bA];simp[go_sem]
   have p2:w4.cell? ⟨wr.heap.size,2,none⟩=some (.int .i64 x.til):=by rw[<-bA];simp[go_sem]
   have p3:w4.cell? ⟨wr.heap.size,3,none⟩=some (.string sn):=by rw[<-bA];simp[go_sem]
   have p4:w4.cell? ⟨wr.heap.size,4,none⟩=some (.slice Az nz cz):=by rw[<-bA];simp[go_sem]
   have u0:w4.cell? ⟨X,0,none⟩=some (.slice A1 n1 c1):=(av.cell (by dsimp only;omega)).trans q0;have u1:w4.cell? ⟨X,1,none⟩=some (.slice (some ⟨b,o,none⟩) n2 c2):=(av.cell (by dsimp only;omega)).trans q1;have u8:w4.cell? ⟨X,8,none⟩=some (.int .i64 stop):=(av.cell (by dsimp only;omega)).trans q8;have ba:=jq (HB.out.trans (av.mono (by omega)));have C9:=jq (bD.out.trans (av.mono (by omega)));have qD:Hid (SlR bh 5 w4 w4.heap.size (.slice Az nz cz) x.zone.sets):=jq ((kV.out.keep aX av).more cj av.size);have x9:X<wr.heap.size:=by omega
   clear ab ay fm iU av kV;by_cases g1:x.host<0
   ·have dg1:decide (x.host<0)=true:=uQ g1;have HX:Hid (r=false):=jq (HF.out λh=>by have:=(ic.out x).1 h;omega);clear g1;go_wp2_with fail;go_ret;exact⟨ae HX.out.symm,ba.out⟩
   have dg1:decide (x.host<0)=false:=tQ g1;by_cases g2:(n1:Int)<=x.host
   ·have dg2:decide ((n1:Int)<=x.host)=true:=uQ g2;have HX:Hid (r=false):=jq (HF.out λh=>by have:=(ic.out x).1 h;omega);clear g2;go_wp2_with fail;go_ret;exact⟨ae HX.out.symm,ba.out⟩
   have dg2:decide ((n1:Int)<=x.host)=false:=tQ g2;by_cases g3:x.frm<0
   ·have dg3:decide (x.frm<0)=true:=uQ g3;have HX:Hid (r=false):=jq (HF.out λh=>by have:=(ic.out x).1 h;omega);clear g3;go_wp2_with fail;go_ret;exact⟨ae HX.out.symm,ba.out⟩
   have dg3:decide (x.frm<0)=false:=tQ g3;by_cases g4:x.til<=x.frm
   ·have dg4:decide (x.til<=x.frm)=true:=uQ g4;have HX:Hid (r=false):=jq (HF.out λh=>by have:=(ic.out x).1 h;omega);clear g4;go_wp2_with fail;go_ret;exact⟨ae HX.out.symm,ba.out⟩
   have dg4:decide (x.til<=x.frm)=false:=tQ g4;by_cases g5:stop<x.til
   ·have dg5:decide (stop<x.til)=true:=uQ g5;have HX:Hid (r=false):=jq (HF.out λh=>by have:=(ic.out x).1 h;omega);clear g5;go_wp2_with fail;go_ret;exact⟨ae HX.out.symm,ba.out⟩
   have dg5:decide (stop<x.til)=false:=tQ g5;have wD:Hid ((0<=x.host/\x.host<n1)/\(0<=x.frm/\x.frm<x.til/\x.til<=stop)):=jq (by omega);clear g1 g2 g3 g4 g5;go_wp2_with fail;refine (Ym sn cw _ x.zone.sets xo.out w4 qD.out).mono ?_;rintro e w5 ⟨rfl,aI⟩;have iX:w4.heap.size<=w5.heap.size:=aI.size;have s0:w5.cell? ⟨wr.heap.size,0,none⟩=some (.int .i64 x.host):=(aI.cell (by dsimp only;omega)).trans p0;have s1:w5.cell? ⟨wr.heap.size,1,none⟩=some (.int .i64 x.frm):=(aI.cell (by dsimp only;omega)).trans p1;have s2:w5.cell? ⟨wr.heap.size,2,none⟩=some (.int .i64 x.til):=(aI.cell (by dsimp only;omega)).trans p2;have s3:w5.cell? ⟨wr.heap.size,3,none⟩=some (.string sn):=(aI.cell (by dsimp only;omega)).trans p3;have s4:w5.cell? ⟨wr.heap.size,4,none⟩=some (.slice Az nz cz):=(aI.cell (by dsimp only;omega)).trans p4;have t1:w5.cell? ⟨X,1,none⟩=some (.slice (some ⟨b,o,none⟩) n2 c2):=(aI.cell (by dsimp only;omega)).trans u1;have cx:=jq (ba.out.trans (aI.mono (by omega)));have O9:=jq (C9.out.trans (aI.mono (by omega)));clear aI p0 p1 p2 p3 p4 bA f0 f1 f2 f3 f4 u0 u1 u8 q0 q1 q8;obtain⟨rz,dJ⟩:∃ rz,Np.yes (Np.VZone ⟨sn.data.toList,x.zone.sets⟩)=rz:=⟨_,rfl⟩;rw[dJ];have ie:=jq dJ;clear dJ
   cases rz with
   | false=>
    have HX:Hid (r=false):=jq (HF.out λh=>by
     have h1:=((ic.out x).1 h).2.2;have h2:x.zone=⟨sn.data.toList,x.zone.sets⟩:=by rw[aL.out]
     rw[h2] at h1;have h3:=Np.bB h1;rw[ie.out] at h3
     cases h3)
    go_wp2_with fail;go_ret;exact⟨ae HX.out.symm,cx.out⟩
   | true=>
    have ji:Hid (Np.CopyOk gI x):=jq ((ic.out x).2 ⟨wD.out.1,wD.out.2,by
     have h2:x.zone=⟨sn.data.toList,x.zone.sets⟩:=by rw[aL.out]
     rw[h2];exact Np.ew.1 ie.out⟩)
    have wM:Hid (∀ c∈l.take (k+1),Np.CopyOk gI c):=jq (λc hc=>by
     rw[HT.out] at hc;rcases List.mem_append.1 hc with hc | hc
     ·exact bk.out c hc
     ·rw[List.mem_singleton] at hc;subst hc;exact ji.out)
    obtain⟨Y,hY⟩:∃ Y,wr.heap.size=Y:=⟨_,rfl⟩;rw[hY] at s0 s1 s2 s3 s4 x9 em;have ya:Y<w5.heap.size:=by omega
    have aqQ:w3.heap.size<=w5.heap.size:=by omega
    obtain⟨wo,rfl⟩:∃ wo,wo=wr:=⟨_,rfl⟩;go_wp2_with fail;go_loopw [5] (λjv wi=>∃ (j:Nat),j<=k/\jv = .int .i64 j/\Hid (Below w5.heap.size w5 wi)/\Hid (∀ (t:Nat) (y:Np.Copy),t<j->l[t]?=some y->¬ Np.jf y x)) (λjv _=>k - (intOf jv).toNat)
    case atStart=>exact⟨0,jQ _,rfl,jq (vQ _ _),jq (λt y ht=>by omega)⟩
    case round=>
     obtain⟨j,re,rfl,ck,HQ⟩:=hrel;have rG:=ck.out.size;by_cases hj:j<k
     ·obtain⟨y,eH⟩:∃ y,l[j]?=some y:=⟨_,aQ (by rw[fJ.out];omega)⟩;have jh:=jq (cx.out.trans (ck.out.mono (by omega)));obtain⟨b',o',sy,vy,cL,yf,eU,anX,za,f0,f1,f2,f3,f4⟩:=pq (HD.out.keep g8 jh.out) eH
      cases cL
      obtain⟨Ay,cy,rfl,_,_⟩:=al za;obtain⟨ny,pL⟩:∃ ny,y.zone.sets.length=ny:=⟨_,rfl⟩;rw[pL] at f4;have e0:=(ck.out.cell (p:=⟨Y,0,none⟩) ya).trans s0;have e1:=(ck.out.cell (p:=⟨Y,1,none⟩) ya).trans s1;have e2:=(ck.out.cell (p:=⟨Y,2,none⟩) ya).trans s2;have e3:=(ck.out.cell (p:=⟨Y,3,none⟩) ya).trans s3;have e4:=(ck.out.cell (p:=⟨Y,4,none⟩) ya).trans s4;have m1:=(cl ck.out (by omega)).trans t1;have Kf:Y<wr.heap.size:=by omega
      have adY:X<wr.heap.size:=by omega
      have afQ:b<wr.heap.size:=by omega
      have mj:=jq eU;have aZ:Hid (∀ o,Below w5.heap.size w5 (wr.alloc o)):=jq (λo=>ck.out.alloc (by omega) _);have HAT:Hid (∀ o,Below X w (wr.alloc o)):=jq (λo=>jh.out.alloc (by omega) _);have Aj:Hid (¬ Np.jf y x->∀ (t:Nat) (z:Np.Copy),t<j+1->l[t]?=some z->¬ Np.jf z x):=jq (λhn t z ht hz=>by
       by_cases e:t=j
       ·subst e;rw[eH] at hz;cases hz;exact hn
       ·exact HQ.out t z (by omega) hz)
      have xm:Hid (Np.jf y x->r=false):=jq (λhc=>rY.out j y hj eH hc);have ahX:(0:Int)<=(j:Int):=by omega
      have nD:(j:Int)<(n2:Int):=by omega
      have ahY:j<n2:=by omega
      clear eH eU za pL;by_cases h1:y.host=x.host
      case neg=>
       have eb0:(y.host == x.host)=false:=by simpa using h1
       have ed0:decide (y.host=x.host)=false:=tQ h1;have HX:=jq (Aj.out (λhc=>h1 hc.1));clear h1;go_wp2_with fail;go_roundw
       case rel=>exact⟨j+1,by omega,by go_num,jq (aZ.out _),HX⟩
       case measure=>simp[intOf] <;> omega
      have eb0:(y.host == x.host)=true:=by simpa using h1
      have ed0:decide (y.host=x.host)=true:=uQ h1;by_cases h2:sy.toList=sn.toList
      case neg=>
       have eb1:(sy.toList == sn.toList)=false:=by simpa using h2
       have HX:=jq (Aj.out (λhc=>h2 (by rw[dQ,dQ,mj.out,aL.out];exact hc.2.1)));clear h2;go_wp2_with fail;go_roundw
       case rel=>exact⟨j+1,by omega,by go_num,jq (aZ.out _),HX⟩
       case measure=>simp[intOf] <;> omega
      have eb1:(sy.toList == sn.toList)=true:=by simpa using h2
      by_cases h3:y.frm<x.til
      case neg=>
       have ed2:decide (y.frm<x.til)=false:=tQ h3;have HX:=jq (Aj.out (λhc=>h3 hc.2.2.1));clear h3;go_wp2_with fail;go_roundw
       case rel=>exact⟨j+1,by omega,by go_num,jq (aZ.out _),HX⟩
       case measure=>simp[intOf] <;> omega
      have ed2:decide (y.frm<x.til)=true:=uQ h3;by_cases h4:x.frm<y.til
      case neg=>
       have ed3:decide (x.frm<y.til)=false:=tQ h4;have HX:=jq (Aj.out (λhc=>h4 hc.2.2.2));clear h4;go_wp2_with fail;go_roundw
       case rel=>exact⟨j+1,by omega,by go_num,jq (aZ.out _),HX⟩
       case measure=>simp[intOf] <;> omega
      have ed3:decide (x.frm<y.til)=true:=uQ h4;have HX:Hid (r=false):=jq (xm.out ⟨h1,by rw[<-mj.out,<-aL.out,<-dQ,<-dQ];exact h2,h3,h4⟩);clear h1 h2 h3 h4;go_wp2_with fail;go_ret;exact⟨ae HX.out.symm,HAT.out _⟩
     ·have P3:Hid ((l.take (k+1)).Pairwise λc d=>¬ Np.jf c d):=jq (by
       rw[HT.out,List.pairwise_append];refine⟨mi.out,by simp,λc hc d hd=>?_⟩;rw[List.mem_singleton] at hd;subst hd;obtain⟨t,ht,rfl⟩:=nQ.1 hc;rw[List.length_take] at ht;rw[List.getElem_take];exact HQ.out t _ (by omega) (aQ (by omega)))
      go_wp2_with fail;go_roundw
      case rel=>exact⟨k+1,by omega,by go_num,by omega,jq (O9.out.trans (ck.out.mono (by omega))),wM,P3⟩
      case measure=>simp[intOf] <;> omega
  ·have fL:Hid (l.take k=l):=jq (kQ (by rw[fJ.out];omega));have wN:Hid (∀ c∈l,Np.CopyOk gI c):=jq (by have:=bk.out;rwa [fL.out] at this);have P4:Hid (l.Pairwise λc d=>¬ Np.jf c d):=jq (by have:=mi.out;rwa [fL.out] at this);go_wp2_with fail;refine (XW _ l (by rw[fJ.out];omega) (λc hc=>?_) _ ((HD.out.keep g8 HB.out).more ma (by omega))).mono ?_
   ·have h1:=((ic.out c).1 (wN.out c hc)).2.2.right;unfold Np.dZ at h1;simp only[Bool.and_eq_true] at h1;exact yQ (qk h1.1.1) (by omega)
   rintro e w13 ⟨v13,rfl,yK,ye⟩;obtain⟨A13,c13,rfl⟩:=bU.form yK;have rU:=jq (HB.out.trans (ye.mono (by omega)));have Fv:(Np.apexes l).length<=500:=by
    rw[<-Np.En]
    have:=ED (l.map (·.zone.apex)) []
    rw[List.length_map,fJ.out] at this;simp at this;omega
   obtain⟨m13,yF⟩:∃ m,(Np.apexes l).length=m:=⟨_,rfl⟩;rw[yF] at Fv |-;have d13:decide ((m13:Int)<=500)=true:=uQ (by omega);clear yK ye yF;go_wp2_with fail;go_ret;exact⟨ae (by rw[<-HR.out];exact (Np.bB ⟨⟨⟨⟨Np.ew.1 qE.out,Np.ew.1 xk.out⟩,CZ.out⟩,wN.out⟩,P4.out⟩).symm),rU.out⟩
end
end Go.Proofs.YtfnopgdcaanaiaaGreatDoor
