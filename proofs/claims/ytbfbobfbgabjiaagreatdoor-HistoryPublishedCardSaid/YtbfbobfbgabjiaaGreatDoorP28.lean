/- Parts of the proof. No condition. -/
import Derived.Test.YtbfbobfbgabjiaaGreatDoorP23
import Derived.Test.YtbfbobfbgabjiaaGreatDoorP24
set_option linter.all false
set_option maxRecDepth 100000
set_option maxHeartbeats 8000000
namespace Go.Proofs.YtbfbobfbgabjiaaGreatDoor
open Go.Proofs.Tryz
section
open Go.RowKit
theorem aNQ{h:Np.Hist} : Np.VHist h↔(((Np.VHosts h.hosts/\Np.VRoot h.anchor h.hints)/\Np.tk h)/\∀ c∈h.copies,Np.CopyOk h c)/\h.copies.Pairwise λc d=>¬ Np.gE c d:=
 ⟨λv=>⟨⟨⟨⟨v.hosts,v.root⟩,v.stop,v.drift⟩,v.each⟩,v.apart⟩,λv=>⟨v.1.1.2.1,v.1.1.2.2,v.1.1.1.1,v.1.1.1.2,v.1.2,v.2⟩⟩
theorem awX(hv:Value)(hs:List Np.Host)(cv:Value)(l:List Np.Copy)(s:ByteArray)(am:s.size<=140737488355328)(ty life:Int)(dv:Value)(d:List Np.Datum)(dh:Value)(hints:List Int)(drift stop:Int)(hl:l.length<=500)(hz:∀ p∈l,p.zone.sets.length<=20000)(w:World)
 (hh:SlR gb 3 w w.heap.size hv hs) (hd:SlR dD 5 w w.heap.size cv l) (hdd:SlR cr 3 w w.heap.size dv d) (pB:SlR gJ 1 w w.heap.size dh hints) :
 Calls prog 17 #[.agg #[hv,cv,.string s,.int .i64 ty,.int .i64 life,dv,dh,.int .i64 drift,.int .i64 stop]] w λe w'=>e = .returned (.bool (Np.yes (Np.VHist ⟨hs,l,⟨s.data.toList,ty,life,d⟩,hints,drift,stop⟩)))/\Below w.heap.size w w':=by
 obtain⟨r,hr⟩:∃ r,Np.yes (Np.VHist ⟨hs,l,⟨s.data.toList,ty,life,d⟩,hints,drift,stop⟩)=r:=⟨_,rfl⟩;obtain⟨iG,rT⟩:∃ h:Np.Hist,(⟨hs,l,⟨s.data.toList,ty,life,d⟩,hints,drift,stop⟩:Np.Hist)=h:=⟨_,rfl⟩;rw[hr];have HR:Hid (Np.yes ((((Np.VHosts hs/\Np.VRoot ⟨s.data.toList,ty,life,d⟩ hints)/\Np.tk iG)/\∀ c∈l,Np.CopyOk iG c)/\l.Pairwise λc d=>¬ Np.gE c d)=r):=jq (by rw[<-hr,<-rT]; exact (Np.uB (aNQ (h:=⟨hs,l,⟨s.data.toList,ty,life,d⟩,hints,drift,stop⟩))).symm);have jG:Hid (Np.tk iG↔(1<=stop/\stop<=10000000)/\(0<=drift/\drift<=1000)):=jq (by rw[<-rT]; exact Iff.rfl);have ji:Hid (∀ c,Np.CopyOk iG c↔(0<=c.host/\c.host<hs.length)/\(0<=c.frm/\c.frm<c.til/\c.til<=stop)/\Np.VZone c.zone):=jq (λc=>by rw[<-rT]; exact⟨λh=>⟨h.host,h.times,h.zone⟩,λh=>⟨h.1,h.2.1,h.2.2⟩⟩);have HH:=jq hh;have HD:=jq hd;have qg:=jq hdd;have qi:=jq pB;have HZ:=jq hz;obtain⟨A1,c1,rfl,_,_⟩:=ah hh;obtain⟨A2,c2,rfl,_,_⟩:=ah hd;obtain⟨A3,c3,rfl,_,_⟩:=ah hdd;obtain⟨A4,c4,rfl,_,_⟩:=ah pB;clear hr rT hd hh hdd pB hz;obtain⟨n1,aO⟩:∃ n,hs.length=n:=⟨_,rfl⟩;obtain⟨n2,be⟩:∃ n,l.length=n:=⟨_,rfl⟩;obtain⟨n3,cP⟩:∃ n,d.length=n:=⟨_,rfl⟩;obtain⟨n4,cW⟩:∃ n,hints.length=n:=⟨_,rfl⟩;rw[aO] at HH ji |-;rw[be] at HD hl |-;rw[cP] at qg |-;rw[cW] at qi |-;have HN:=jq (And.intro aO (And.intro be (And.intro cP cW)));clear aO be cP cW;obtain⟨W1,ai⟩:∃ W1,w.alloc (.cells #[.slice A1 n1 c1,.slice A2 n2 c2,.string s,.int .i64 ty,.int .i64 life,.slice A3 n3 c3,.slice A4 n4 c4,.int .i64 drift,.int .i64 stop] 29)=W1:=⟨_,rfl⟩;have aG:Below w.heap.size w W1:=by rw[<-ai]; exact (vQ _ _).alloc (bQ _) _
 have jA:W1.heap.size=w.heap.size+1:=by rw[<-ai]; simp
 obtain⟨X,hX⟩:∃ X,w.heap.size=X:=⟨_,rfl⟩;have lP:=jq hX;have k0:W1.cell? ⟨X,0,none⟩=some (.slice A1 n1 c1):=by rw[<-ai,<-hX]; simp[go_sem]
 have k1:W1.cell? ⟨X,1,none⟩=some (.slice A2 n2 c2):=by rw[<-ai,<-hX]; simp[go_sem]
 have k2:W1.cell? ⟨X,2,none⟩=some (.string s):=by rw[<-ai,<-hX]; simp[go_sem]
 have k3:W1.cell? ⟨X,3,none⟩=some (.int .i64 ty):=by rw[<-ai,<-hX]; simp[go_sem]
 have k4:W1.cell? ⟨X,4,none⟩=some (.int .i64 life):=by rw[<-ai,<-hX]; simp[go_sem]
 have k5:W1.cell? ⟨X,5,none⟩=some (.slice A3 n3 c3):=by rw[<-ai,<-hX]; simp[go_sem]
 have k6:W1.cell? ⟨X,6,none⟩=some (.slice A4 n4 c4):=by rw[<-ai,<-hX]; simp[go_sem]
 have k7:W1.cell? ⟨X,7,none⟩=some (.int .i64 drift):=by rw[<-ai,<-hX]; simp[go_sem]
 have k8:W1.cell? ⟨X,8,none⟩=some (.int .i64 stop):=by rw[<-ai,<-hX]; simp[go_sem]
 rw[hX] at aG jA HH HD qg qi;rw[hX];have aB:=jq aG;clear aG;go_enter func17,ntmps17;go_wp2_with fail;refine (awY _ hs _ ((HH.out.keep fw aB.out).more kP (by omega))).mono ?_;rintro e w2 ⟨rfl,ab⟩;have aM:=ab.size;replace k0:=(cl ab (by omega)).trans k0;replace k1:=(cl ab (by omega)).trans k1;replace k2:=(cl ab (by omega)).trans k2;replace k3:=(cl ab (by omega)).trans k3;replace k4:=(cl ab (by omega)).trans k4;replace k5:=(cl ab (by omega)).trans k5;replace k6:=(cl ab (by omega)).trans k6;replace k7:=(cl ab (by omega)).trans k7;replace k8:=(cl ab (by omega)).trans k8;have al:=jq (aB.out.trans (ab.mono (by omega)));clear ab ai;obtain⟨b1,ap⟩:∃ b1,Np.yes (Np.VHosts hs)=b1:=⟨_,rfl⟩;rw[ap];have th:=jq ap;clear ap
 cases b1 with
 | false=>
  have HX:Hid (r=false):=jq (by rw[<-HR.out]; exact Np.aJ λq=>by have:=Np.bM q.1.1.1.1; rw[th.out] at this; cases this);go_wp2_with fail;go_ret;exact⟨ae HX.out.symm,al.out⟩
 | true=>
 go_wp2_with fail;refine (axX s am ty life _ d _ hints _ ((qg.out.keep cB al.out).more cZ (by omega)) ((qi.out.keep kR al.out).more sI (by omega))).mono ?_;rintro e w3 ⟨rfl,ag⟩;have er:=ag.size;replace k0:=(cl ag (by omega)).trans k0;replace k1:=(cl ag (by omega)).trans k1;replace k2:=(cl ag (by omega)).trans k2;replace k3:=(cl ag (by omega)).trans k3;replace k4:=(cl ag (by omega)).trans k4;replace k5:=(cl ag (by omega)).trans k5;replace k6:=(cl ag (by omega)).trans k6;replace k7:=(cl ag (by omega)).trans k7;replace k8:=(cl ag (by omega)).trans k8;have ar:=jq (al.out.trans (ag.mono (by omega)));clear ag;obtain⟨b2,ab⟩:∃ b2,Np.yes (Np.VRoot ⟨s.data.toList,ty,life,d⟩ hints)=b2:=⟨_,rfl⟩;rw[ab];have AG:=jq ab;clear ab
 cases b2 with
 | false=>
  have HX:Hid (r=false):=jq (by rw[<-HR.out]; exact Np.aJ λq=>by have:=Np.bM q.1.1.1.2; rw[AG.out] at this; cases this);go_wp2_with fail;go_ret;exact⟨ae HX.out.symm,ar.out⟩
 | true=>
 by_cases g1:stop<1
 ·have dg1:decide (stop<1)=true:=uQ g1;have HX:Hid (r=false):=jq (by rw[<-HR.out]; exact Np.aJ λq=>by have:=jG.out.1 q.1.1.2; omega);clear g1;go_wp2_with fail;go_ret;exact⟨ae HX.out.symm,ar.out⟩
 have dg1:decide (stop<1)=false:=tQ g1;by_cases g2:10000000<stop
 ·have dg2:decide (10000000<stop)=true:=uQ g2;have HX:Hid (r=false):=jq (by rw[<-HR.out]; exact Np.aJ λq=>by have:=jG.out.1 q.1.1.2; omega);clear g2;go_wp2_with fail;go_ret;exact⟨ae HX.out.symm,ar.out⟩
 have dg2:decide (10000000<stop)=false:=tQ g2;by_cases g3:drift<0
 ·have dg3:decide (drift<0)=true:=uQ g3;have HX:Hid (r=false):=jq (by rw[<-HR.out]; exact Np.aJ λq=>by have:=jG.out.1 q.1.1.2; omega);clear g3;go_wp2_with fail;go_ret;exact⟨ae HX.out.symm,ar.out⟩
 have dg3:decide (drift<0)=false:=tQ g3;by_cases g4:1000<drift
 ·have dg4:decide (1000<drift)=true:=uQ g4;have HX:Hid (r=false):=jq (by rw[<-HR.out]; exact Np.aJ λq=>by have:=jG.out.1 q.1.1.2; omega);clear g4;go_wp2_with fail;go_ret;exact⟨ae HX.out.symm,ar.out⟩
 have dg4:decide (1000<drift)=false:=tQ g4;have d5:decide (4000<(n2:Int))=false:=tQ (by omega);have F3:Hid (Np.tk iG):=jq (jG.out.2 (by omega));have gl:Hid (l.length=n2):=jq HN.out.2.1;clear g1 g2 g3 g4;go_wp2_with fail;go_loopw [3] (λi wr=>∃ (k:Nat),k<=n2/\i = .int .i64 k/\w3.heap.size<=wr.heap.size/\Hid (Below w3.heap.size w3 wr)/\Hid (∀ c∈l.take k,Np.CopyOk iG c)/\Hid ((l.take k).Pairwise λc d=>¬ Np.gE c d)) (λi _=>n2 - (intOf i).toNat)
 case atStart=>exact⟨0,jQ _,rfl,bQ _,jq (vQ _ _),jq (by simp),jq (by simp)⟩
 case round=>
  obtain⟨k,hk,rfl,a9Y,bO,bR,qk⟩:=hrel;have HB:=jq (ar.out.trans (bO.out.mono (by omega)));have q0:=(cl bO.out (by omega)).trans k0;have q1:=(cl bO.out (by omega)).trans k1;have q8:=(cl bO.out (by omega)).trans k8;by_cases aa:k<n2
  ·obtain⟨x,ac⟩:∃ x,l[k]?=some x:=⟨_,aQ (by rw[gl.out]; exact aa)⟩;obtain⟨b,o,sn,vz,rfl,bS,av,cA,eq,f0,f1,f2,f3,f4⟩:=rI (HD.out.keep fu HB.out) ac;obtain⟨Az,cz,rfl,_,_⟩:=ah eq;obtain⟨nz,kC⟩:∃ nz,x.zone.sets.length=nz:=⟨_,rfl⟩;rw[kC] at f4;have HT:Hid (l.take (k+1)=l.take k ++ [x]):=jq (by
    obtain⟨hl,he⟩:=cQ.1 ac;rw[fQ hl,he])
   have HF:Hid (¬ Np.CopyOk iG x->r=false):=jq (λh=>by rw[<-HR.out]; exact Np.aJ λq=>h (q.1.2 x (gQ ac)));have ri:Hid (∀ (j:Nat) (y:Np.Copy),j<k->l[j]?=some y->Np.gE y x->r=false):=jq (λj y hj hy js=>by
    rw[<-HR.out];refine Np.aJ λq=>?_;have h1:=q.2;rw[List.pairwise_iff_getElem] at h1;obtain⟨e1,e2⟩:=cQ.1 hy;obtain⟨e3,e4⟩:=cQ.1 ac;have h2:=h1 j k e1 e3 hj;rw[e2,e4] at h2;exact h2 js)
   have AI:Hid (x.zone.sets.length<=20000):=jq (HZ.out x (gQ ac));have aH:=jq av;have jk:Hid (SlR bC 5 wr wr.heap.size (.slice Az nz cz) x.zone.sets):=jq (by rw[<-kC]; exact eq.more bN (by omega));obtain⟨w4,bE⟩:∃ w4,wr.alloc (.cells #[.int .i64 x.host,.int .i64 x.frm,.int .i64 x.til,.string sn,.slice Az nz cz] 58)=w4:=⟨_,rfl⟩;have gC:w4.heap.size=wr.heap.size+1:=by rw[<-bE]; simp
   have an:Below wr.heap.size wr w4:=by rw[<-bE]; exact (vQ _ _).alloc (bQ _) _
   have p0:w4.cell? ⟨wr.heap.size,0,none⟩=some (.int .i64 x.host):=by rw[<-bE]; simp[go_sem]
   have p1:w4.cell? ⟨wr.heap.size,1,none⟩=some (.int .i64 x.frm):=by rw[<-bE]; simp[go_sem]
   have p2:w4.cell? ⟨wr.heap.size,2,none⟩=some (.int .i64 x.til):=by rw[<-bE]; simp[go_sem]
   have p3:w4.cell? ⟨wr.heap.size,3,none⟩=some (.string sn):=by rw[<-bE]; simp[go_sem]
   have p4:w4.cell? ⟨wr.heap.size,4,none⟩=some (.slice Az nz cz):=by rw[<-bE]; simp[go_sem]
   have u0:w4.cell? ⟨X,0,none⟩=some (.slice A1 n1 c1):=(an.cell (by dsimp only; omega)).trans q0;have u1:w4.cell? ⟨X,1,none⟩=some (.slice (some ⟨b,o,none⟩) n2 c2):=(an.cell (by dsimp only; omega)).trans q1;have u8:w4.cell? ⟨X,8,none⟩=some (.int .i64 stop):=(an.cell (by dsimp only; omega)).trans q8;have bq:=jq (HB.out.trans (an.mono (by omega)));have Gh:=jq (bO.out.trans (an.mono (by omega)));have qn:Hid (SlR bC 5 w4 w4.heap.size (.slice Az nz cz) x.zone.sets):=jq ((jk.out.keep aN an).more bN an.size);have Bp:X<wr.heap.size:=by omega
   clear ac av eq kC an jk;by_cases g1:x.host<0
   ·have dg1:decide (x.host<0)=true:=uQ g1;have HX:Hid (r=false):=jq (HF.out λh=>by have:=(ji.out x).1 h; omega);clear g1;go_wp2_with fail;go_ret;exact⟨ae HX.out.symm,bq.out⟩
   have dg1:decide (x.host<0)=false:=tQ g1;by_cases g2:(n1:Int)<=x.host
   ·have dg2:decide ((n1:Int)<=x.host)=true:=uQ g2;have HX:Hid (r=false):=jq (HF.out λh=>by have:=(ji.out x).1 h; omega);clear g2;go_wp2_with fail;go_ret;exact⟨ae HX.out.symm,bq.out⟩
   have dg2:decide ((n1:Int)<=x.host)=false:=tQ g2;by_cases g3:x.frm<0
   ·have dg3:decide (x.frm<0)=true:=uQ g3;have HX:Hid (r=false):=jq (HF.out λh=>by have:=(ji.out x).1 h; omega);clear g3;go_wp2_with fail;go_ret;exact⟨ae HX.out.symm,bq.out⟩
   have dg3:decide (x.frm<0)=false:=tQ g3;by_cases g4:x.til<=x.frm
   ·have dg4:decide (x.til<=x.frm)=true:=uQ g4;have HX:Hid (r=false):=jq (HF.out λh=>by have:=(ji.out x).1 h; omega);clear g4;go_wp2_with fail;go_ret;exact⟨ae HX.out.symm,bq.out⟩
   have dg4:decide (x.til<=x.frm)=false:=tQ g4;by_cases g5:stop<x.til
   ·have dg5:decide (stop<x.til)=true:=uQ g5;have HX:Hid (r=false):=jq (HF.out λh=>by have:=(ji.out x).1 h; omega);clear g5;go_wp2_with fail;go_ret;exact⟨ae HX.out.symm,bq.out⟩
   have dg5:decide (stop<x.til)=false:=tQ g5;have zP:Hid ((0<=x.host/\x.host<n1)/\(0<=x.frm/\x.frm<x.til/\x.til<=stop)):=jq (by omega);clear g1 g2 g3 g4 g5;go_wp2_with fail;refine (ayY sn cA _ x.zone.sets AI.out w4 qn.out).mono ?_;rintro e w5 ⟨rfl,aF⟩;have me:w4.heap.size<=w5.heap.size:=aF.size;have s0:w5.cell? ⟨wr.heap.size,0,none⟩=some (.int .i64 x.host):=(aF.cell (by dsimp only; omega)).trans p0;have s1:w5.cell? ⟨wr.heap.size,1,none⟩=some (.int .i64 x.frm):=(aF.cell (by dsimp only; omega)).trans p1;have s2:w5.cell? ⟨wr.heap.size,2,none⟩=some (.int .i64 x.til):=(aF.cell (by dsimp only; omega)).trans p2;have s3:w5.cell? ⟨wr.heap.size,3,none⟩=some (.string sn):=(aF.cell (by dsimp only; omega)).trans p3;have s4:w5.cell? ⟨wr.heap.size,4,none⟩=some (.slice Az nz cz):=(aF.cell (by dsimp only; omega)).trans p4;have t1:w5.cell? ⟨X,1,none⟩=some (.slice (some ⟨b,o,none⟩) n2 c2):=(aF.cell (by dsimp only; omega)).trans u1;have cS:=jq (bq.out.trans (aF.mono (by omega)));have SJ:=jq (Gh.out.trans (aF.mono (by omega)));clear aF p0 p1 p2 p3 p4 bE f0 f1 f2 f3 f4 u0 u1 u8 q0 q1 q8;obtain⟨rz,fq⟩:∃ rz,Np.yes (Np.VZone ⟨sn.data.toList,x.zone.sets⟩)=rz:=⟨_,rfl⟩;rw[fq];have gX:=jq fq;clear fq
   cases rz with
   | false=>
    have HX:Hid (r=false):=jq (HF.out λh=>by
     have h1:=((ji.out x).1 h).2.2;have h2:x.zone=⟨sn.data.toList,x.zone.sets⟩:=by rw[aH.out]
     rw[h2] at h1;have h3:=Np.bM h1;rw[gX.out] at h3
     cases h3)
    go_wp2_with fail;go_ret;exact⟨ae HX.out.symm,cS.out⟩
   | true=>
    have oY:Hid (Np.CopyOk iG x):=jq ((ji.out x).2 ⟨zP.out.1,zP.out.2,by
     have h2:x.zone=⟨sn.data.toList,x.zone.sets⟩:=by rw[aH.out]
     rw[h2];exact Np.fz.1 gX.out⟩)
    have G9:Hid (∀ c∈l.take (k+1),Np.CopyOk iG c):=jq (λc hc=>by
     rw[HT.out] at hc;rcases List.mem_append.1 hc with hc | hc
     ·exact bR.out c hc
     ·rw[List.mem_singleton] at hc; subst hc; exact oY.out)
    obtain⟨Y,hY⟩:∃ Y,wr.heap.size=Y:=⟨_,rfl⟩;rw[hY] at s0 s1 s2 s3 s4 Bp gC;have Br:Y<w5.heap.size:=by omega
    have a9X:w3.heap.size<=w5.heap.size:=by omega
    obtain⟨wo,rfl⟩:∃ wo,wo=wr:=⟨_,rfl⟩;go_wp2_with fail;go_loopw [5] (λjv wi=>∃ (j:Nat),j<=k/\jv = .int .i64 j/\Hid (Below w5.heap.size w5 wi)/\Hid (∀ (t:Nat) (y:Np.Copy),t<j->l[t]?=some y->¬ Np.gE y x)) (λjv _=>k - (intOf jv).toNat)
    case atStart=>exact⟨0,jQ _,rfl,jq (vQ _ _),jq (λt y ht=>by omega)⟩
    case round=>
     obtain⟨j,BN,rfl,cT,HQ⟩:=hrel;have um:=cT.out.size;by_cases hj:j<k
     ·obtain⟨y,cj⟩:∃ y,l[j]?=some y:=⟨_,aQ (by rw[gl.out]; omega)⟩;have kl:=jq (cS.out.trans (cT.out.mono (by omega)));obtain⟨b',o',sy,vy,cg,vR,iZ,a5X,Cn,f0,f1,f2,f3,f4⟩:=rI (HD.out.keep fu kl.out) cj
      cases cg
      obtain⟨Ay,cy,rfl,_,_⟩:=ah Cn;obtain⟨ny,rY⟩:∃ ny,y.zone.sets.length=ny:=⟨_,rfl⟩;rw[rY] at f4;have e0:=(cT.out.cell (p:=⟨Y,0,none⟩) Br).trans s0;have e1:=(cT.out.cell (p:=⟨Y,1,none⟩) Br).trans s1;have e2:=(cT.out.cell (p:=⟨Y,2,none⟩) Br).trans s2;have e3:=(cT.out.cell (p:=⟨Y,3,none⟩) Br).trans s3;have e4:=(cT.out.cell (p:=⟨Y,4,none⟩) Br).trans s4;have m1:=(cl cT.out (by omega)).trans t1;have Oj:Y<wr.heap.size:=by omega
      have aWQ:X<wr.heap.size:=by omega
      have aXQ:b<wr.heap.size:=by omega
      have td:=jq iZ;have aY:Hid (∀ o,Below w5.heap.size w5 (wr.alloc o)):=jq (λo=>cT.out.alloc (by omega) _);have HAT:Hid (∀ o,Below X w (wr.alloc o)):=jq (λo=>kl.out.alloc (by omega) _);have Dd:Hid (¬ Np.gE y x->∀ (t:Nat) (z:Np.Copy),t<j+1->l[t]?=some z->¬ Np.gE z x):=jq (λhn t z ht hz=>by
       by_cases e:t=j
       ·subst e; rw[cj] at hz; cases hz; exact hn
       ·exact HQ.out t z (by omega) hz)
      have AH:Hid (Np.gE y x->r=false):=jq (λhc=>ri.out j y hj cj hc);have a0Z:(0:Int)<=(j:Int):=by omega
      have yy:(j:Int)<(n2:Int):=by omega
      have a0J:j<n2:=by omega
      clear cj iZ Cn rY;by_cases h1:y.host=x.host
      case neg=>
       have eb0:(y.host == x.host)=false:=by simpa using h1
       have ed0:decide (y.host=x.host)=false:=tQ h1;have HX:=jq (Dd.out (λhc=>h1 hc.1));clear h1;go_wp2_with fail;go_roundw
       case rel=>exact⟨j+1,by omega,by go_num,jq (aY.out _),HX⟩
       case measure=>simp[intOf] <;> omega
      have eb0:(y.host == x.host)=true:=by simpa using h1
      have ed0:decide (y.host=x.host)=true:=uQ h1;by_cases h2:sy.toList=sn.toList
      case neg=>
       have eb1:(sy.toList == sn.toList)=false:=by simpa using h2
       have HX:=jq (Dd.out (λhc=>h2 (by rw[dQ,dQ,td.out,aH.out]; exact hc.2.1)));clear h2;go_wp2_with fail;go_roundw
       case rel=>exact⟨j+1,by omega,by go_num,jq (aY.out _),HX⟩
       case measure=>simp[intOf] <;> omega
      have eb1:(sy.toList == sn.toList)=true:=by simpa using h2
      by_cases h3:y.frm<x.til
      case neg=>
       have ed2:decide (y.frm<x.til)=false:=tQ h3;have HX:=jq (Dd.out (λhc=>h3 hc.2.2.1));clear h3;go_wp2_with fail;go_roundw
       case rel=>exact⟨j+1,by omega,by go_num,jq (aY.out _),HX⟩
       case measure=>simp[intOf] <;> omega
      have ed2:decide (y.frm<x.til)=true:=uQ h3;by_cases h4:x.frm<y.til
      case neg=>
       have ed3:decide (x.frm<y.til)=false:=tQ h4;have HX:=jq (Dd.out (λhc=>h4 hc.2.2.2));clear h4;go_wp2_with fail;go_roundw
       case rel=>exact⟨j+1,by omega,by go_num,jq (aY.out _),HX⟩
       case measure=>simp[intOf] <;> omega
      have ed3:decide (x.frm<y.til)=true:=uQ h4;have HX:Hid (r=false):=jq (AH.out ⟨h1,by rw[<-td.out,<-aH.out,<-dQ,<-dQ]; exact h2,h3,h4⟩);clear h1 h2 h3 h4;go_wp2_with fail;go_ret;exact⟨ae HX.out.symm,HAT.out _⟩
     ·have Ug:Hid ((l.take (k+1)).Pairwise λc d=>¬ Np.gE c d):=jq (by
       rw[HT.out,List.pairwise_append];refine⟨qk.out,by simp,λc hc d hd=>?_⟩;rw[List.mem_singleton] at hd; subst hd;obtain⟨t,ht,rfl⟩:=nQ.1 hc;rw[List.length_take] at ht;rw[List.getElem_take];exact HQ.out t _ (by omega) (aQ (by omega)))
      go_wp2_with fail;go_roundw
      case rel=>exact⟨k+1,by omega,by go_num,by omega,jq (SJ.out.trans (cT.out.mono (by omega))),G9,Ug⟩
      case measure=>simp[intOf] <;> omega
  ·have gY:Hid (l.take k=l):=jq (kQ (by rw[gl.out]; omega));have Ab:Hid (∀ c∈l,Np.CopyOk iG c):=jq (by have:=bR.out; rwa [gY.out] at this);have Uh:Hid (l.Pairwise λc d=>¬ Np.gE c d):=jq (by have:=qk.out; rwa [gY.out] at this);go_wp2_with fail;refine (avJ _ l (by rw[gl.out]; omega) (λc hc=>?_) _ ((HD.out.keep fu HB.out).more jD (by omega))).mono ?_
   ·have h1:=((ji.out c).1 (Ab.out c hc)).2.2.right;unfold Np.eN at h1;simp only[Bool.and_eq_true] at h1;exact yQ (sO h1.1.1) (by omega)
   rintro e w13 ⟨v13,rfl,B0,Bv⟩;obtain⟨A13,c13,rfl⟩:=cE.form B0;have mh:=jq (HB.out.trans (Bv.mono (by omega)));have JF:(Np.apexes l).length<=500:=by
    rw[<-Np.Ii]
    have:=IF (l.map (·.zone.apex)) []
    rw[List.length_map,gl.out] at this;simp at this;omega
   obtain⟨m13,BV⟩:∃ m,(Np.apexes l).length=m:=⟨_,rfl⟩;rw[BV] at JF |-;have d13:decide ((m13:Int)<=500)=true:=uQ (by omega);clear B0 Bv BV;go_wp2_with fail;go_ret;exact⟨ae (by rw[<-HR.out]; exact (Np.bM ⟨⟨⟨⟨Np.fz.1 th.out,Np.fz.1 AG.out⟩,F3.out⟩,Ab.out⟩,Uh.out⟩).symm),mh.out⟩
end
end Go.Proofs.YtbfbobfbgabjiaaGreatDoor
