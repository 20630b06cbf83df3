/- Parts of the proof. No condition. -/
import Derived.Test.YtbfbobfbgabjiaaGreatDoorM13
import Derived.Test.YtbfbobfbgabjiaaGreatDoorM15
set_option linter.all false
set_option maxRecDepth 100000
set_option maxHeartbeats 8000000
namespace Go.Proofs.YtbfbobfbgabjiaaGreatDoor
open Go.Proofs.Tryz
section
open Go.RowKit
theorem Up{h:Np.Hist} : Np.VHist h↔(((Np.VHosts h.hosts/\Np.VRoot h.anchor h.hints)/\Np.tE h)/\∀ c∈h.copies,Np.CopyOk h c)/\h.copies.Pairwise λc d=>¬ Np.jN c d:=
 ⟨λv=>⟨⟨⟨⟨v.hosts,v.root⟩,v.stop,v.drift⟩,v.each⟩,v.apart⟩,λv=>⟨v.1.1.2.1,v.1.1.2.2,v.1.1.1.1,v.1.1.1.2,v.1.2,v.2⟩⟩
theorem C5(hv:Value)(hs:List Np.Host)(cv:Value)(l:List Np.Copy)(s:ByteArray)(an:s.size<=140737488355328)(ty life:Int)(dv:Value)(d:List Np.Datum)(cj:Value)(hints:List Int)(drift stop:Int)(hl:l.length<=500)(hz:∀ p∈l,p.zone.sets.length<=20000)(w:World)
 (hh:SlR gW 3 w w.heap.size hv hs) (hd:SlR iF 5 w w.heap.size cv l) (hdd:SlR cG 3 w w.heap.size dv d) (kp:SlR ip 1 w w.heap.size cj hints) :
 Calls prog 17 #[.agg #[hv,cv,.string s,.int .i64 ty,.int .i64 life,dv,cj,.int .i64 drift,.int .i64 stop]] w λe w'=>e = .returned (.bool (Np.yes (Np.VHist ⟨hs,l,⟨s.data.toList,ty,life,d⟩,hints,drift,stop⟩)))/\Below w.heap.size w w':=by
 obtain⟨r,hr⟩:∃ r,Np.yes (Np.VHist ⟨hs,l,⟨s.data.toList,ty,life,d⟩,hints,drift,stop⟩)=r:=⟨_,rfl⟩;obtain⟨jb,sG⟩:∃ h:Np.Hist,(⟨hs,l,⟨s.data.toList,ty,life,d⟩,hints,drift,stop⟩:Np.Hist)=h:=⟨_,rfl⟩;rw[hr];have HR:Hid (Np.yes ((((Np.VHosts hs/\Np.VRoot ⟨s.data.toList,ty,life,d⟩ hints)/\Np.tE jb)/\∀ c∈l,Np.CopyOk jb c)/\l.Pairwise λc d=>¬ Np.jN c d)=r):=jq (by rw[<-hr,<-sG]; exact (Np.tw (Up (h:=⟨hs,l,⟨s.data.toList,ty,life,d⟩,hints,drift,stop⟩))).symm);have ko:Hid (Np.tE jb↔(1<=stop/\stop<=10000000)/\(0<=drift/\drift<=1000)):=jq (by rw[<-sG]; exact Iff.rfl);have jU:Hid (∀ c,Np.CopyOk jb c↔(0<=c.host/\c.host<hs.length)/\(0<=c.frm/\c.frm<c.til/\c.til<=stop)/\Np.VZone c.zone):=jq (λc=>by rw[<-sG]; exact⟨λh=>⟨h.host,h.times,h.zone⟩,λh=>⟨h.1,h.2.1,h.2.2⟩⟩);have HH:=jq hh;have HD:=jq hd;have rB:=jq hdd;have mU:=jq kp;have HZ:=jq hz;obtain⟨A1,c1,rfl,_,_⟩:=ag hh;obtain⟨A2,c2,rfl,_,_⟩:=ag hd;obtain⟨A3,c3,rfl,_,_⟩:=ag hdd;obtain⟨A4,c4,rfl,_,_⟩:=ag kp;clear hr sG hd hh hdd kp hz;obtain⟨n1,aJ⟩:∃ n,hs.length=n:=⟨_,rfl⟩;obtain⟨n2,aK⟩:∃ n,l.length=n:=⟨_,rfl⟩;obtain⟨n3,bk⟩:∃ n,d.length=n:=⟨_,rfl⟩;obtain⟨n4,bl⟩:∃ n,hints.length=n:=⟨_,rfl⟩;rw[aJ] at HH jU |-;rw[aK] at HD hl |-;rw[bk] at rB |-;rw[bl] at mU |-;have HN:=jq (And.intro aJ (And.intro aK (And.intro bk bl)));clear aJ aK bk bl;obtain⟨W1,ae⟩:∃ W1,w.alloc (.cells #[.slice A1 n1 c1,.slice A2 n2 c2,.string s,.int .i64 ty,.int .i64 life,.slice A3 n3 c3,.slice A4 n4 c4,.int .i64 drift,.int .i64 stop] 29)=W1:=⟨_,rfl⟩;have aw:Below w.heap.size w W1:=by rw[<-ae]; exact (vQ _ _).alloc (bQ _) _
 have eG:W1.heap.size=w.heap.size+1:=by rw[<-ae]; simp
 obtain⟨X,hX⟩:∃ X,w.heap.size=X:=⟨_,rfl⟩;have gF:=jq hX;have k0:W1.cell? ⟨X,0,none⟩=some (.slice A1 n1 c1):=by rw[<-ae,<-hX]; simp[go_sem]
 have k1:W1.cell? ⟨X,1,none⟩=some (.slice A2 n2 c2):=by rw[<-ae,<-hX]; simp[go_sem]
 have k2:W1.cell? ⟨X,2,none⟩=some (.string s):=by rw[<-ae,<-hX]; simp[go_sem]
 have k3:W1.cell? ⟨X,3,none⟩=some (.int .i64 ty):=by rw[<-ae,<-hX]; simp[go_sem]
 have k4:W1.cell? ⟨X,4,none⟩=some (.int .i64 life):=by rw[<-ae,<-hX]; simp[go_sem]
 have k5:W1.cell? ⟨X,5,none⟩=some (.slice A3 n3 c3):=by rw[<-ae,<-hX]; simp[go_sem]
 have k6:W1.cell? ⟨X,6,none⟩=some (.slice A4 n4 c4):=by rw[<-ae,<-hX]; simp[go_sem]
 have k7:W1.cell? ⟨X,7,none⟩=some (.int .i64 drift):=by rw[<-ae,<-hX]; simp[go_sem]
 have k8:W1.cell? ⟨X,8,none⟩=some (.int .i64 stop):=by rw[<-ae,<-hX]; simp[go_sem]
 rw[hX] at aw eG HH HD rB mU;rw[hX];have ay:=jq aw;clear aw;go_enter func17,ntmps17;go_wp2_with fail;refine (UG _ hs _ ((HH.out.keep fF ay.out).more jZ (by omega))).mono ?_;rintro e w2 ⟨rfl,aa⟩;have aN:=aa.size;replace k0:=(cl aa (by omega)).trans k0;replace k1:=(cl aa (by omega)).trans k1;replace k2:=(cl aa (by omega)).trans k2;replace k3:=(cl aa (by omega)).trans k3;replace k4:=(cl aa (by omega)).trans k4;replace k5:=(cl aa (by omega)).trans k5;replace k6:=(cl aa (by omega)).trans k6;replace k7:=(cl aa (by omega)).trans k7;replace k8:=(cl aa (by omega)).trans k8;have ak:=jq (ay.out.trans (aa.mono (by omega)));clear aa ae;obtain⟨b1,aq⟩:∃ b1,Np.yes (Np.VHosts hs)=b1:=⟨_,rfl⟩;rw[aq];have uR:=jq aq;clear aq
 cases b1 with
 | false=>
  have HX:Hid (r=false):=jq (by rw[<-HR.out]; exact Np.aP λq=>by have:=Np.bO q.1.1.1.1; rw[uR.out] at this; cases this);go_wp2_with fail;go_ret;exact⟨aj HX.out.symm,ak.out⟩
 | true=>
 go_wp2_with fail;refine (UE s an ty life _ d _ hints _ ((rB.out.keep cL ak.out).more dp (by omega)) ((mU.out.keep iU ak.out).more nv (by omega))).mono ?_;rintro e w3 ⟨rfl,ah⟩;have dP:=ah.size;replace k0:=(cl ah (by omega)).trans k0;replace k1:=(cl ah (by omega)).trans k1;replace k2:=(cl ah (by omega)).trans k2;replace k3:=(cl ah (by omega)).trans k3;replace k4:=(cl ah (by omega)).trans k4;replace k5:=(cl ah (by omega)).trans k5;replace k6:=(cl ah (by omega)).trans k6;replace k7:=(cl ah (by omega)).trans k7;replace k8:=(cl ah (by omega)).trans k8;have av:=jq (ak.out.trans (ah.mono (by omega)));clear ah;obtain⟨b2,aa⟩:∃ b2,Np.yes (Np.VRoot ⟨s.data.toList,ty,life,d⟩ hints)=b2:=⟨_,rfl⟩;rw[aa];have Bw:=jq aa;clear aa
 cases b2 with
 | false=>
  have HX:Hid (r=false):=jq (by rw[<-HR.out]; exact Np.aP λq=>by have:=Np.bO q.1.1.1.2; rw[Bw.out] at this; cases this);go_wp2_with fail;go_ret;exact⟨aj HX.out.symm,av.out⟩
 | true=>
 by_cases g1:stop<1
 ·have dg1:decide (stop<1)=true:=uQ g1;have HX:Hid (r=false):=jq (by rw[<-HR.out]; exact Np.aP λq=>by have:=ko.out.1 q.1.1.2; omega);clear g1;go_wp2_with fail;go_ret;exact⟨aj HX.out.symm,av.out⟩
 have dg1:decide (stop<1)=false:=tQ g1;by_cases g2:10000000<stop
 ·have dg2:decide (10000000<stop)=true:=uQ g2;have HX:Hid (r=false):=jq (by rw[<-HR.out]; exact Np.aP λq=>by have:=ko.out.1 q.1.1.2; omega);clear g2;go_wp2_with fail;go_ret;exact⟨aj HX.out.symm,av.out⟩
 have dg2:decide (10000000<stop)=false:=tQ g2;by_cases g3:drift<0
 ·have dg3:decide (drift<0)=true:=uQ g3;have HX:Hid (r=false):=jq (by rw[<-HR.out]; exact Np.aP λq=>by have:=ko.out.1 q.1.1.2; omega);clear g3;go_wp2_with fail;go_ret;exact⟨aj HX.out.symm,av.out⟩
 have dg3:decide (drift<0)=false:=tQ g3;by_cases g4:1000<drift
 ·have dg4:decide (1000<drift)=true:=uQ g4;have HX:Hid (r=false):=jq (by rw[<-HR.out]; exact Np.aP λq=>by have:=ko.out.1 q.1.1.2; omega);clear g4;go_wp2_with fail;go_ret;exact⟨aj HX.out.symm,av.out⟩
 have dg4:decide (1000<drift)=false:=tQ g4;have d5:decide (4000<(n2:Int))=false:=tQ (by omega);have IR:Hid (Np.tE jb):=jq (ko.out.2 (by omega));have er:Hid (l.length=n2):=jq HN.out.2.1;clear g1 g2 g3 g4;go_wp2_with fail;go_loopw [3] (λi wr=>∃ (k:Nat),k<=n2/\i = .int .i64 k/\w3.heap.size<=wr.heap.size/\Hid (Below w3.heap.size w3 wr)/\Hid (∀ c∈l.take k,Np.CopyOk jb c)/\Hid ((l.take k).Pairwise λc d=>¬ Np.jN c d)) (λi _=>n2 - (intOf i).toNat)
 case atStart=>exact⟨0,jQ _,rfl,bQ _,jq (vQ _ _),jq (by simp),jq (by simp)⟩
 case round=>
  obtain⟨k,hk,rfl,bmY,aO,bZ,rk⟩:=hrel;have HB:=jq (av.out.trans (aO.out.mono (by omega)));have q0:=(cl aO.out (by omega)).trans k0;have q1:=(cl aO.out (by omega)).trans k1;have q8:=(cl aO.out (by omega)).trans k8;by_cases ab:k<n2
  ·obtain⟨x,ac⟩:∃ x,l[k]?=some x:=⟨_,aQ (by rw[er.out]; exact ab)⟩;obtain⟨b,o,sn,vz,rfl,bg,az,bL,bX,f0,f1,f2,f3,f4⟩:=nC (HD.out.keep fk HB.out) ac;obtain⟨Az,cz,rfl,_,_⟩:=ag bX;obtain⟨nz,iq⟩:∃ nz,x.zone.sets.length=nz:=⟨_,rfl⟩;rw[iq] at f4;have HT:Hid (l.take (k+1)=l.take k ++ [x]):=jq (by
    obtain⟨hl,he⟩:=cQ.1 ac;rw[fQ hl,he])
   have HF:Hid (¬ Np.CopyOk jb x->r=false):=jq (λh=>by rw[<-HR.out]; exact Np.aP λq=>h (q.1.2 x (gQ ac)));have rY:Hid (∀ (j:Nat) (y:Np.Copy),j<k->l[j]?=some y->Np.jN y x->r=false):=jq (λj y hj hy jE=>by
    rw[<-HR.out];refine Np.aP λq=>?_;have h1:=q.2;rw[List.pairwise_iff_getElem] at h1;obtain⟨e1,e2⟩:=cQ.1 hy;obtain⟨e3,e4⟩:=cQ.1 ac;have h2:=h1 j k e1 e3 hj;rw[e2,e4] at h2;exact h2 jE)
   have Ba:Hid (x.zone.sets.length<=20000):=jq (HZ.out x (gQ ac));have aS:=jq az;have dU:Hid (SlR bK 5 wr wr.heap.size (.slice Az nz cz) x.zone.sets):=jq (by rw[<-iq]; exact bX.more bR (by omega));obtain⟨w4,bN⟩:∃ w4,wr.alloc (.cells #[.int .i64 x.host,.int .i64 x.frm,.int .i64 x.til,.string sn,.slice Az nz cz] 58)=w4:=⟨_,rfl⟩;have ga:w4.heap.size=wr.heap.size+1:=by rw[<-bN]; simp
   have am:Below wr.heap.size wr w4:=by rw[<-bN]; exact (vQ _ _).alloc (bQ _) _
   have p0:w4.cell? ⟨wr.heap.size,0,none⟩=some (.int .i64 x.host):=by rw[<-bN]; simp[go_sem]
   have p1:w4.cell? ⟨wr.heap.size,1,none⟩=some (.int .i64 x.frm):=by rw[<-bN]; simp[go_sem]
   have p2:w4.cell? ⟨wr.heap.size,2,none⟩=some (.int .i64 x.til):=by rw[<-bN]; simp[go_sem]
   have p3:w4.cell? ⟨wr.heap.size,3,none⟩=some (.string sn):=by rw[<-bN]; simp[go_sem]
   have p4:w4.cell? ⟨wr.heap.size,4,none⟩=some (.slice Az nz cz):=by rw[<-bN]; simp[go_sem]
   have u0:w4.cell? ⟨X,0,none⟩=some (.slice A1 n1 c1):=(am.cell (by dsimp only; omega)).trans q0;have u1:w4.cell? ⟨X,1,none⟩=some (.slice (some ⟨b,o,none⟩) n2 c2):=(am.cell (by dsimp only; omega)).trans q1;have u8:w4.cell? ⟨X,8,none⟩=some (.int .i64 stop):=(am.cell (by dsimp only; omega)).trans q8;have bD:=jq (HB.out.trans (am.mono (by omega)));have Kj:=jq (aO.out.trans (am.mono (by omega)));have tb:Hid (SlR bK 5 w4 w4.heap.size (.slice Az nz cz) x.zone.sets):=jq ((dU.out.keep aV am).more bR am.size);have uE:X<wr.heap.size:=by omega
   clear ac az bX iq am dU;by_cases g1:x.host<0
   ·have dg1:decide (x.host<0)=true:=uQ g1;have HX:Hid (r=false):=jq (HF.out λh=>by have:=(jU.out x).1 h; omega);clear g1;go_wp2_with fail;go_ret;exact⟨aj HX.out.symm,bD.out⟩
   have dg1:decide (x.host<0)=false:=tQ g1;by_cases g2:(n1:Int)<=x.host
   ·have dg2:decide ((n1:Int)<=x.host)=true:=uQ g2;have HX:Hid (r=false):=jq (HF.out λh=>by have:=(jU.out x).1 h; omega);clear g2;go_wp2_with fail;go_ret;exact⟨aj HX.out.symm,bD.out⟩
   have dg2:decide ((n1:Int)<=x.host)=false:=tQ g2;by_cases g3:x.frm<0
   ·have dg3:decide (x.frm<0)=true:=uQ g3;have HX:Hid (r=false):=jq (HF.out λh=>by have:=(jU.out x).1 h; omega);clear g3;go_wp2_with fail;go_ret;exact⟨aj HX.out.symm,bD.out⟩
   have dg3:decide (x.frm<0)=false:=tQ g3;by_cases g4:x.til<=x.frm
   ·have dg4:decide (x.til<=x.frm)=true:=uQ g4;have HX:Hid (r=false):=jq (HF.out λh=>by have:=(jU.out x).1 h; omega);clear g4;go_wp2_with fail;go_ret;exact⟨aj HX.out.symm,bD.out⟩
   have dg4:decide (x.til<=x.frm)=false:=tQ g4;by_cases g5:stop<x.til
   ·have dg5:decide (stop<x.til)=true:=uQ g5;have HX:Hid (r=false):=jq (HF.out λh=>by have:=(jU.out x).1 h; omega);clear g5;go_wp2_with fail;go_ret;exact⟨aj HX.out.symm,bD.out⟩
   have dg5:decide (stop<x.til)=false:=tQ g5;have BE:Hid ((0<=x.host/\x.host<n1)/\(0<=x.frm/\x.frm<x.til/\x.til<=stop)):=jq (by omega);clear g1 g2 g3 g4 g5;go_wp2_with fail;refine (Vi sn bL _ x.zone.sets Ba.out w4 tb.out).mono ?_;rintro e w5 ⟨rfl,aA⟩;have kF:w4.heap.size<=w5.heap.size:=aA.size;have s0:w5.cell? ⟨wr.heap.size,0,none⟩=some (.int .i64 x.host):=(aA.cell (by dsimp only; omega)).trans p0;have s1:w5.cell? ⟨wr.heap.size,1,none⟩=some (.int .i64 x.frm):=(aA.cell (by dsimp only; omega)).trans p1;have s2:w5.cell? ⟨wr.heap.size,2,none⟩=some (.int .i64 x.til):=(aA.cell (by dsimp only; omega)).trans p2;have s3:w5.cell? ⟨wr.heap.size,3,none⟩=some (.string sn):=(aA.cell (by dsimp only; omega)).trans p3;have s4:w5.cell? ⟨wr.heap.size,4,none⟩=some (.slice Az nz cz):=(aA.cell (by dsimp only; omega)).trans p4;have t1:w5.cell? ⟨X,1,none⟩=some (.slice (some ⟨b,o,none⟩) n2 c2):=(aA.cell (by dsimp only; omega)).trans u1;have ca:=jq (bD.out.trans (aA.mono (by omega)));have aXJ:=jq (Kj.out.trans (aA.mono (by omega)));clear aA p0 p1 p2 p3 p4 bN f0 f1 f2 f3 f4 u0 u1 u8 q0 q1 q8;obtain⟨rz,fY⟩:∃ rz,Np.yes (Np.VZone ⟨sn.data.toList,x.zone.sets⟩)=rz:=⟨_,rfl⟩;rw[fY];have iJ:=jq fY;clear fY
   cases rz with
   | false=>
    have HX:Hid (r=false):=jq (HF.out λh=>by
     have h1:=((jU.out x).1 h).2.2;have h2:x.zone=⟨sn.data.toList,x.zone.sets⟩:=by rw[aS.out]
     rw[h2] at h1;have h3:=Np.bO h1;rw[iJ.out] at h3
     cases h3)
    go_wp2_with fail;go_ret;exact⟨aj HX.out.symm,ca.out⟩
   | true=>
    have pU:Hid (Np.CopyOk jb x):=jq ((jU.out x).2 ⟨BE.out.1,BE.out.2,by
     have h2:x.zone=⟨sn.data.toList,x.zone.sets⟩:=by rw[aS.out]
     rw[h2];exact Np.eE.1 iJ.out⟩)
    have JF:Hid (∀ c∈l.take (k+1),Np.CopyOk jb c):=jq (λc hc=>by
     rw[HT.out] at hc;rcases List.mem_append.1 hc with hc | hc
     ·exact bZ.out c hc
     ·rw[List.mem_singleton] at hc; subst hc; exact pU.out)
    obtain⟨Y,hY⟩:∃ Y,wr.heap.size=Y:=⟨_,rfl⟩;rw[hY] at s0 s1 s2 s3 s4 uE ga;have Bp:Y<w5.heap.size:=by omega
    have bqK:w3.heap.size<=w5.heap.size:=by omega
    obtain⟨wo,rfl⟩:∃ wo,wo=wr:=⟨_,rfl⟩;go_wp2_with fail;go_loopw [5] (λjv wi=>∃ (j:Nat),j<=k/\jv = .int .i64 j/\Hid (Below w5.heap.size w5 wi)/\Hid (∀ (t:Nat) (y:Np.Copy),t<j->l[t]?=some y->¬ Np.jN y x)) (λjv _=>k - (intOf jv).toNat)
    case atStart=>exact⟨0,jQ _,rfl,jq (vQ _ _),jq (λt y ht=>by omega)⟩
    case round=>
     obtain⟨j,Ck,rfl,cA,HQ⟩:=hrel;have ut:=cA.out.size;by_cases hj:j<k
     ·obtain⟨y,dM⟩:∃ y,l[j]?=some y:=⟨_,aQ (by rw[er.out]; omega)⟩;have lp:=jq (ca.out.trans (cA.out.mono (by omega)));obtain⟨b',o',sy,vy,du,xP,iR,bnQ,CX,f0,f1,f2,f3,f4⟩:=nC (HD.out.keep fk lp.out) dM
      cases du
      obtain⟨Ay,cy,rfl,_,_⟩:=ag CX;obtain⟨ny,s6⟩:∃ ny,y.zone.sets.length=ny:=⟨_,rfl⟩;rw[s6] at f4;have e0:=(cA.out.cell (p:=⟨Y,0,none⟩) Bp).trans s0;have e1:=(cA.out.cell (p:=⟨Y,1,none⟩) Bp).trans s1;have e2:=(cA.out.cell (p:=⟨Y,2,none⟩) Bp).trans s2;have e3:=(cA.out.cell (p:=⟨Y,3,none⟩) Bp).trans s3;have e4:=(cA.out.cell (p:=⟨Y,4,none⟩) Bp).trans s4;have m1:=(cl cA.out (by omega)).trans t1;have Rt:Y<wr.heap.size:=by omega
      have boX:X<wr.heap.size:=by omega
      have aWK:b<wr.heap.size:=by omega
      have un:=jq iR;have br:Hid (∀ o,Below w5.heap.size w5 (wr.alloc o)):=jq (λo=>cA.out.alloc (by omega) _);have HAT:Hid (∀ o,Below X w (wr.alloc o)):=jq (λo=>lp.out.alloc (by omega) _);have xg:Hid (¬ Np.jN y x->∀ (t:Nat) (z:Np.Copy),t<j+1->l[t]?=some z->¬ Np.jN z x):=jq (λhn t z ht hz=>by
       by_cases e:t=j
       ·subst e; rw[dM] at hz; cases hz; exact hn
       ·exact HQ.out t z (by omega) hz)
      have CK:Hid (Np.jN y x->r=false):=jq (λhc=>rY.out j y hj dM hc);have bpY:(0:Int)<=(j:Int):=by omega
      have zj:(j:Int)<(n2:Int):=by omega
      have a6X:j<n2:=by omega
      clear dM iR CX s6;by_cases h1:y.host=x.host
      case neg=>
       have eb0:(y.host == x.host)=false:=by simpa using h1
       have ed0:decide (y.host=x.host)=false:=tQ h1;have HX:=jq (xg.out (λhc=>h1 hc.1));clear h1;go_wp2_with fail;go_roundw
       case rel=>exact⟨j+1,by omega,by go_num,jq (br.out _),HX⟩
       case measure=>simp[intOf] <;> omega
      have eb0:(y.host == x.host)=true:=by simpa using h1
      have ed0:decide (y.host=x.host)=true:=uQ h1;by_cases h2:sy.toList=sn.toList
      case neg=>
       have eb1:(sy.toList == sn.toList)=false:=by simpa using h2
       have HX:=jq (xg.out (λhc=>h2 (by rw[dQ,dQ,un.out,aS.out]; exact hc.2.1)));clear h2;go_wp2_with fail;go_roundw
       case rel=>exact⟨j+1,by omega,by go_num,jq (br.out _),HX⟩
       case measure=>simp[intOf] <;> omega
      have eb1:(sy.toList == sn.toList)=true:=by simpa using h2
      by_cases h3:y.frm<x.til
      case neg=>
       have ed2:decide (y.frm<x.til)=false:=tQ h3;have HX:=jq (xg.out (λhc=>h3 hc.2.2.1));clear h3;go_wp2_with fail;go_roundw
       case rel=>exact⟨j+1,by omega,by go_num,jq (br.out _),HX⟩
       case measure=>simp[intOf] <;> omega
      have ed2:decide (y.frm<x.til)=true:=uQ h3;by_cases h4:x.frm<y.til
      case neg=>
       have ed3:decide (x.frm<y.til)=false:=tQ h4;have HX:=jq (xg.out (λhc=>h4 hc.2.2.2));clear h4;go_wp2_with fail;go_roundw
       case rel=>exact⟨j+1,by omega,by go_num,jq (br.out _),HX⟩
       case measure=>simp[intOf] <;> omega
      have ed3:decide (x.frm<y.til)=true:=uQ h4;have HX:Hid (r=false):=jq (CK.out ⟨h1,by rw[<-un.out,<-aS.out,<-dQ,<-dQ]; exact h2,h3,h4⟩);clear h1 h2 h3 h4;go_wp2_with fail;go_ret;exact⟨aj HX.out.symm,HAT.out _⟩
     ·have a1X:Hid ((l.take (k+1)).Pairwise λc d=>¬ Np.jN c d):=jq (by
       rw[HT.out,List.pairwise_append];refine⟨rk.out,by simp,λc hc d hd=>?_⟩;rw[List.mem_singleton] at hd; subst hd;obtain⟨t,ht,rfl⟩:=nQ.1 hc;rw[List.length_take] at ht;rw[List.getElem_take];exact HQ.out t _ (by omega) (aQ (by omega)))
      go_wp2_with fail;go_roundw
      case rel=>exact⟨k+1,by omega,by go_num,by omega,jq (aXJ.out.trans (cA.out.mono (by omega))),JF,a1X⟩
      case measure=>simp[intOf] <;> omega
  ·have fe:Hid (l.take k=l):=jq (kQ (by rw[er.out]; omega));have CZ:Hid (∀ c∈l,Np.CopyOk jb c):=jq (by have:=bZ.out; rwa [fe.out] at this);have aGZ:Hid (l.Pairwise λc d=>¬ Np.jN c d):=jq (by have:=rk.out; rwa [fe.out] at this);go_wp2_with fail;refine (L3 _ l (by rw[er.out]; omega) (λc hc=>?_) _ ((HD.out.keep fk HB.out).more kK (by omega))).mono ?_
   ·have h1:=((jU.out c).1 (CZ.out c hc)).2.2.right;unfold Np.fm at h1;simp only[Bool.and_eq_true] at h1;exact yQ (qs h1.1.1) (by omega)
   rintro e w13 ⟨v13,rfl,CQ,B5⟩;obtain⟨A13,c13,rfl⟩:=cB.form CQ;have mb:=jq (HB.out.trans (B5.mono (by omega)));have I6:(Np.apexes l).length<=500:=by
    rw[<-Np.GQ]
    have:=Ha (l.map (·.zone.apex)) []
    rw[List.length_map,er.out] at this;simp at this;omega
   obtain⟨m13,Cd⟩:∃ m,(Np.apexes l).length=m:=⟨_,rfl⟩;rw[Cd] at I6 |-;have d13:decide ((m13:Int)<=500)=true:=uQ (by omega);clear CQ B5 Cd;go_wp2_with fail;go_ret;exact⟨aj (by rw[<-HR.out]; exact (Np.bO ⟨⟨⟨⟨Np.eE.1 uR.out,Np.eE.1 Bw.out⟩,IR.out⟩,CZ.out⟩,aGZ.out⟩).symm),mb.out⟩
def Np.jO(h:Np.Hist)(t:Int):Prop:=Np.VHist h/\0<=t/\t<h.stop
def Np.pG:Np.WorldP:=⟨[],[],⟨[],0,0,[]⟩,[]⟩
noncomputable def Np.atW(h:Np.Hist)(t:Int):Np.WorldP:=if Np.yes (Np.jO h t) then Np.jo h t else Np.pG
noncomputable def Np.atE(h:Np.Hist)(t:Int):Int:=if Np.yes (Np.jO h t) then 0 else 1
theorem Np.oL{h:Np.Hist}{t:Int}(k:Np.jO h t):Np.atW h t=Np.jo h t/\Np.atE h t=0:=by
 unfold Np.atW Np.atE;rw[Np.bO k];exact⟨rfl,rfl⟩
theorem Np.nG{h:Np.Hist}{t:Int}(k:¬ Np.jO h t):Np.atW h t=Np.pG/\Np.atE h t=1:=by
 unfold Np.atW Np.atE;rw[Np.aP k];exact⟨rfl,rfl⟩
theorem xZ(w:World)(B:Nat):lw w B [.slice none 0 0,.slice none 0 0,.string ⟨#[]⟩,.int .i64 0,.int .i64 0,.slice none 0 0,.slice none 0 0] Np.pG:=
 ⟨_,_,⟨#[]⟩,_,_,rfl,rfl,by decide,⟨none,0,rfl,bQ _,by simp[Np.pG],λi x h=>by simp[Np.pG] at h⟩,⟨none,0,rfl,bQ _,by simp[Np.pG],λi x h=>by simp[Np.pG] at h⟩,⟨none,0,rfl,bQ _,by simp[Np.pG],λi x h=>by simp[Np.pG] at h⟩,⟨none,0,rfl,bQ _,by simp[Np.pG],λi x h=>by simp[Np.pG] at h⟩⟩
theorem tu{a b c d:Value}(h1:a=c)(h2:b=d):Ending.returned (.tuple #[a,b]) = .returned (.tuple #[c,d]):=by rw[h1,h2]
theorem Wk(e:List Value)(h:Np.Hist)(hf:Np.oR h)(t:Int)(w:World)(hh:bw w w.heap.size e h) :
 Calls prog 13 #[.agg e.toArray,.int .i64 t] w λe w'=>∃ e',e = .returned (.tuple #[.agg e'.toArray,.int .i64 (Np.atE h t)])/\lw w' w'.heap.size e' (Np.atW h t)/\Below w.heap.size w w':=by
 have gS:=jq hh;obtain⟨hv,cv,s,dv,cj,rfl,h1,h2,h3,h4,h5,h6⟩:=hh;obtain⟨hosts,copies,⟨name,ty,life,data⟩,hints,drift,stop⟩:=h;dsimp only at h1 h3 h4 h5 h6 gS |-;subst h1;have H3:=jq h3;have H4:=jq h4;have H5:=jq h5;have H6:=jq h6;have cR:=jq hf;obtain⟨A1,c1,rfl,_,_⟩:=ag h3;obtain⟨A2,c2,rfl,_,_⟩:=ag h4;obtain⟨A3,c3,rfl,_,_⟩:=ag h5;obtain⟨A4,c4,rfl,_,_⟩:=ag h6;clear h3 h4 h5 h6 hf;obtain⟨l7,EL⟩:∃ l7:Np.Hist,⟨hosts,copies,⟨s.data.toList,ty,life,data⟩,hints,drift,stop⟩=l7:=⟨_,rfl⟩;have mU:=jq EL;obtain⟨r,hr⟩:∃ r,Np.yes (Np.VHist l7)=r:=⟨_,rfl⟩;have fi:=jq hr;have ck:Hid (l7.stop=stop):=jq (by rw[<-EL]);rw[EL] at gS cR |-;clear hr EL;obtain⟨n1,aJ⟩:∃ n,hosts.length=n:=⟨_,rfl⟩;obtain⟨n2,aK⟩:∃ n,copies.length=n:=⟨_,rfl⟩;obtain⟨n3,bk⟩:∃ n,data.length=n:=⟨_,rfl⟩;obtain⟨n4,bl⟩:∃ n,hints.length=n:=⟨_,rfl⟩;rw[aJ] at H3;rw[aK] at H4;rw[bk] at H5;rw[bl] at H6;rw[aJ,aK,bk,bl] at gS |-;clear aJ aK bk bl;obtain⟨X,hX⟩:∃ X,w.heap.size=X:=⟨_,rfl⟩;obtain⟨Y,hY⟩:∃ Y,X+1=Y:=⟨_,rfl⟩;obtain⟨W1,ae⟩:∃ W1,(w.alloc (.cells #[.slice A1 n1 c1,.slice A2 n2 c2,.string s,.int .i64 ty,.int .i64 life,.slice A3 n3 c3,.slice A4 n4 c4,.int .i64 drift,.int .i64 stop] 29)).alloc (.cells #[.slice none 0 0,.slice none 0 0,.string ⟨#[]⟩,.int .i64 0,.int .i64 0,.slice none 0 0,.slice none 0 0] 34)=W1:=⟨_,rfl⟩;have aw:Below w.heap.size w W1:=by rw[<-ae]; exact ((vQ _ _).alloc (bQ _) _).alloc (by simp) _
 have eG:W1.heap.size=X+2:=by rw[<-ae,<-hX]; simp
 have aYX:X<W1.heap.size:=by omega
 have aU:W1.heap[Y]?=some (.cells #[.slice none 0 0,.slice none 0 0,.string ⟨#[]⟩,.int .i64 0,.int .i64 0,.slice none 0 0,.slice none 0 0] 34):=by
  rw[<-ae,<-hY,<-hX]
  have:=heap_alloc_new (w.alloc (.cells #[.slice A1 n1 c1,.slice A2 n2 c2,.string s,.int .i64 ty,.int .i64 life,.slice A3 n3 c3,.slice A4 n4 c4,.int .i64 drift,.int .i64 stop] 29)) (.cells #[.slice none 0 0,.slice none 0 0,.string ⟨#[]⟩,.int .i64 0,.int .i64 0,.slice none 0 0,.slice none 0 0] 34)
  simpa using this
 have Kd:=jq aU;clear aU;have k0:W1.cell? ⟨X,0,none⟩=some (.slice A1 n1 c1):=by rw[<-ae,<-hX]; simp[go_sem]
 have k1:W1.cell? ⟨X,1,none⟩=some (.slice A2 n2 c2):=by rw[<-ae,<-hX]; simp[go_sem]
 have k2:W1.cell? ⟨X,2,none⟩=some (.string s):=by rw[<-ae,<-hX]; simp[go_sem]
 have k3:W1.cell? ⟨X,3,none⟩=some (.int .i64 ty):=by rw[<-ae,<-hX]; simp[go_sem]
 have k4:W1.cell? ⟨X,4,none⟩=some (.int .i64 life):=by rw[<-ae,<-hX]; simp[go_sem]
 have k5:W1.cell? ⟨X,5,none⟩=some (.slice A3 n3 c3):=by rw[<-ae,<-hX]; simp[go_sem]
 have k6:W1.cell? ⟨X,6,none⟩=some (.slice A4 n4 c4):=by rw[<-ae,<-hX]; simp[go_sem]
 have k7:W1.cell? ⟨X,7,none⟩=some (.int .i64 drift):=by rw[<-ae,<-hX]; simp[go_sem]
 have k8:W1.cell? ⟨X,8,none⟩=some (.int .i64 stop):=by rw[<-ae,<-hX]; simp[go_sem]
 rw[hX] at aw H3 H4 H5 H6 gS |-;have ay:=jq aw;clear aw;go_enter func13,ntmps13;go_wp2_with fail;clear ae hX;refine (C5 _ hosts _ copies s h2 ty life _ data _ hints drift stop (by have:=cR.out.1; rw[<-mU.out] at this; exact this) (by have:=cR.out.2; rw[<-mU.out] at this; exact this) _ ((H3.out.keep fF ay.out).more jZ (by omega)) ((H4.out.keep fk ay.out).more kK (by omega)) ((H5.out.keep cL ay.out).more dp (by omega)) ((H6.out.keep iU ay.out).more nv (by omega))).mono ?_;rw[mU.out,fi.out];rintro e w2 ⟨rfl,aa⟩;have aN:=aa.size;have m0:=(cl aa (by omega)).trans k0;have m1:=(cl aa (by omega)).trans k1;have m2:=(cl aa (by omega)).trans k2;have m3:=(cl aa (by omega)).trans k3;have m4:=(cl aa (by omega)).trans k4;have m5:=(cl aa (by omega)).trans k5;have m6:=(cl aa (by omega)).trans k6;have m7:=(cl aa (by omega)).trans k7;have m8:=(cl aa (by omega)).trans k8;have aU:=(aa.block Y (by omega)).trans Kd.out;have aC:=jq aU;have ak:=jq (ay.out.trans (aa.mono (by omega)));clear aa aU k0 k1 k2 k3 k4 k5 k6 k7 k8
 cases r with
 | false=>
  have HN:Hid (¬ Np.jO l7 t):=jq (λh=>by have:=Np.bO h.1; rw[fi.out] at this; cases this);have y0:w2.cell? ⟨Y,0,none⟩=some (.slice none 0 0):=by simp[World.cell?,aC.out]
  have z0:w2.frozen? ⟨Y,0,none⟩=false:=by simp[World.frozen?,aC.out]
  have y1:w2.cell? ⟨Y,1,none⟩=some (.slice none 0 0):=by simp[World.cell?,aC.out]
  have z1:w2.frozen? ⟨Y,1,none⟩=false:=by simp[World.frozen?,aC.out]
  have y2:w2.cell? ⟨Y,2,none⟩=some (.string ⟨#[]⟩):=by simp[World.cell?,aC.out]
  have z2:w2.frozen? ⟨Y,2,none⟩=false:=by simp[World.frozen?,aC.out]
  have y3:w2.cell? ⟨Y,3,none⟩=some (.int .i64 0):=by simp[World.cell?,aC.out]
  have z3:w2.frozen? ⟨Y,3,none⟩=false:=by simp[World.frozen?,aC.out]
  have y4:w2.cell? ⟨Y,4,none⟩=some (.int .i64 0):=by simp[World.cell?,aC.out]
  have z4:w2.frozen? ⟨Y,4,none⟩=false:=by simp[World.frozen?,aC.out]
  have y5:w2.cell? ⟨Y,5,none⟩=some (.slice none 0 0):=by simp[World.cell?,aC.out]
  have z5:w2.frozen? ⟨Y,5,none⟩=false:=by simp[World.frozen?,aC.out]
  have y6:w2.cell? ⟨Y,6,none⟩=some (.slice none 0 0):=by simp[World.cell?,aC.out]
  have z6:w2.frozen? ⟨Y,6,none⟩=false:=by simp[World.frozen?,aC.out]
  go_wp2_with fail;obtain⟨Wz,cw⟩:∃ Wz,(((((((w2.setCell ⟨Y,0,none⟩ (.slice none 0 0)).setCell ⟨Y,1,none⟩ (.slice none 0 0)).setCell ⟨Y,2,none⟩ (.string ⟨#[]⟩)).setCell ⟨Y,3,none⟩ (.int .i64 0)).setCell ⟨Y,4,none⟩ (.int .i64 0)).setCell ⟨Y,5,none⟩ (.slice none 0 0)).setCell ⟨Y,6,none⟩ (.slice none 0 0))=Wz:=⟨_,rfl⟩;have wk:Hid (Below (X+1) w2 Wz):=jq (by rw[<-cw]; exact ((((((((vQ _ _).setCell (by dsimp only; omega) _).setCell (by dsimp only; omega) _).setCell (by dsimp only; omega) _).setCell (by dsimp only; omega) _).setCell (by dsimp only; omega) _).setCell (by dsimp only; omega) _).setCell (by dsimp only; omega) _));have F6:Hid (∀ M:Nat->Prop,M Y->Leaves' M w2 Wz M):=jq (λM hY'=>by rw[<-cw]; exact (((((((Leaves'.setCell M _ (p:=⟨Y,0,none⟩) hY' _).trans (Leaves'.setCell M _ (p:=⟨Y,1,none⟩) hY' _)).trans (Leaves'.setCell M _ (p:=⟨Y,2,none⟩) hY' _)).trans (Leaves'.setCell M _ (p:=⟨Y,3,none⟩) hY' _)).trans (Leaves'.setCell M _ (p:=⟨Y,4,none⟩) hY' _)).trans (Leaves'.setCell M _ (p:=⟨Y,5,none⟩) hY' _)).trans (Leaves'.setCell M _ (p:=⟨Y,6,none⟩) hY' _)));have Lg:Wz.heap.size=w2.heap.size:=by rw[<-cw]; simp
  have e0:Wz.cell? ⟨Y,0,none⟩=some (.slice none 0 0):=by rw[<-cw]; simp[go_sem,y0]
  have e1:Wz.cell? ⟨Y,1,none⟩=some (.slice none 0 0):=by rw[<-cw]; simp[go_sem,y1]
  have e2:Wz.cell? ⟨Y,2,none⟩=some (.string ⟨#[]⟩):=by rw[<-cw]; simp[go_sem,y2]
  have e3:Wz.cell? ⟨Y,3,none⟩=some (.int .i64 0):=by rw[<-cw]; simp[go_sem,y3]
  have e4:Wz.cell? ⟨Y,4,none⟩=some (.int .i64 0):=by rw[<-cw]; simp[go_sem,y4]
  have e5:Wz.cell? ⟨Y,5,none⟩=some (.slice none 0 0):=by rw[<-cw]; simp[go_sem,y5]
  have e6:Wz.cell? ⟨Y,6,none⟩=some (.slice none 0 0):=by rw[<-cw]; simp[go_sem,y6]
  rw[cw];clear cw;refine bodyPost_ret (v:=.tuple #[.agg #[.slice none 0 0,.slice none 0 0,.string ⟨#[]⟩,.int .i64 0,.int .i64 0,.slice none 0 0,.slice none 0 0],.int .i64 1]) ?_ rfl ⟨[.slice none 0 0,.slice none 0 0,.string ⟨#[]⟩,.int .i64 0,.int .i64 0,.slice none 0 0,.slice none 0 0],tu rfl (by rw[(Np.nG HN.out).2]),by rw[(Np.nG HN.out).1]; exact xZ _ _,ak.out.trans (wk.out.mono (by omega))⟩;simp[results,results13,go_sem,e0,e1,e2,e3,e4,e5,e6]
 | true=>
  have HV:Hid (Np.VHist l7):=jq (Np.eE.1 fi.out);by_cases xE:t<0
  ·have HN:Hid (¬ Np.jO l7 t):=jq (λh=>by have:=h.2.1; omega);have hd:decide (t<0)=true:=uQ xE;have y0:w2.cell? ⟨Y,0,none⟩=some (.slice none 0 0):=by simp[World.cell?,aC.out]
   have z0:w2.frozen? ⟨Y,0,none⟩=false:=by simp[World.frozen?,aC.out]
   have y1:w2.cell? ⟨Y,1,none⟩=some (.slice none 0 0):=by simp[World.cell?,aC.out]
   have z1:w2.frozen? ⟨Y,1,none⟩=false:=by simp[World.frozen?,aC.out]
   have y2:w2.cell? ⟨Y,2,none⟩=some (.string ⟨#[]⟩):=by simp[World.cell?,aC.out]
   have z2:w2.frozen? ⟨Y,2,none⟩=false:=by simp[World.frozen?,aC.out]
   have y3:w2.cell? ⟨Y,3,none⟩=some (.int .i64 0):=by simp[World.cell?,aC.out]
   have z3:w2.frozen? ⟨Y,3,none⟩=false:=by simp[World.frozen?,aC.out]
   have y4:w2.cell? ⟨Y,4,none⟩=some (.int .i64 0):=by simp[World.cell?,aC.out]
   have z4:w2.frozen? ⟨Y,4,none⟩=false:=by simp[World.frozen?,aC.out]
   have y5:w2.cell? ⟨Y,5,none⟩=some (.slice none 0 0):=by simp[World.cell?,aC.out]
   have z5:w2.frozen? ⟨Y,5,none⟩=false:=by simp[World.frozen?,aC.out]
   have y6:w2.cell? ⟨Y,6,none⟩=some (.slice none 0 0):=by simp[World.cell?,aC.out]
   have z6:w2.frozen? ⟨Y,6,none⟩=false:=by simp[World.frozen?,aC.out]
   clear xE;go_wp2_with fail;obtain⟨Wz,cw⟩:∃ Wz,(((((((w2.setCell ⟨Y,0,none⟩ (.slice none 0 0)).setCell ⟨Y,1,none⟩ (.slice none 0 0)).setCell ⟨Y,2,none⟩ (.string ⟨#[]⟩)).setCell ⟨Y,3,none⟩ (.int .i64 0)).setCell ⟨Y,4,none⟩ (.int .i64 0)).setCell ⟨Y,5,none⟩ (.slice none 0 0)).setCell ⟨Y,6,none⟩ (.slice none 0 0))=Wz:=⟨_,rfl⟩;have wk:Hid (Below (X+1) w2 Wz):=jq (by rw[<-cw]; exact ((((((((vQ _ _).setCell (by dsimp only; omega) _).setCell (by dsimp only; omega) _).setCell (by dsimp only; omega) _).setCell (by dsimp only; omega) _).setCell (by dsimp only; omega) _).setCell (by dsimp only; omega) _).setCell (by dsimp only; omega) _));have F6:Hid (∀ M:Nat->Prop,M Y->Leaves' M w2 Wz M):=jq (λM hY'=>by rw[<-cw]; exact (((((((Leaves'.setCell M _ (p:=⟨Y,0,none⟩) hY' _).trans (Leaves'.setCell M _ (p:=⟨Y,1,none⟩) hY' _)).trans (Leaves'.setCell M _ (p:=⟨Y,2,none⟩) hY' _)).trans (Leaves'.setCell M _ (p:=⟨Y,3,none⟩) hY' _)).trans (Leaves'.setCell M _ (p:=⟨Y,4,none⟩) hY' _)).trans (Leaves'.setCell M _ (p:=⟨Y,5,none⟩) hY' _)).trans (Leaves'.setCell M _ (p:=⟨Y,6,none⟩) hY' _)));have Lg:Wz.heap.size=w2.heap.size:=by rw[<-cw]; simp
   have e0:Wz.cell? ⟨Y,0,none⟩=some (.slice none 0 0):=by rw[<-cw]; simp[go_sem,y0]
   have e1:Wz.cell? ⟨Y,1,none⟩=some (.slice none 0 0):=by rw[<-cw]; simp[go_sem,y1]
   have e2:Wz.cell? ⟨Y,2,none⟩=some (.string ⟨#[]⟩):=by rw[<-cw]; simp[go_sem,y2]
   have e3:Wz.cell? ⟨Y,3,none⟩=some (.int .i64 0):=by rw[<-cw]; simp[go_sem,y3]
   have e4:Wz.cell? ⟨Y,4,none⟩=some (.int .i64 0):=by rw[<-cw]; simp[go_sem,y4]
   have e5:Wz.cell? ⟨Y,5,none⟩=some (.slice none 0 0):=by rw[<-cw]; simp[go_sem,y5]
   have e6:Wz.cell? ⟨Y,6,none⟩=some (.slice none 0 0):=by rw[<-cw]; simp[go_sem,y6]
   rw[cw];clear cw;refine bodyPost_ret (v:=.tuple #[.agg #[.slice none 0 0,.slice none 0 0,.string ⟨#[]⟩,.int .i64 0,.int .i64 0,.slice none 0 0,.slice none 0 0],.int .i64 1]) ?_ rfl ⟨[.slice none 0 0,.slice none 0 0,.string ⟨#[]⟩,.int .i64 0,.int .i64 0,.slice none 0 0,.slice none 0 0],tu rfl (by rw[(Np.nG HN.out).2]),by rw[(Np.nG HN.out).1]; exact xZ _ _,ak.out.trans (wk.out.mono (by omega))⟩;simp[results,results13,go_sem,e0,e1,e2,e3,e4,e5,e6]
  ·have hd:decide (t<0)=false:=tQ xE;by_cases yL:stop<=t
   ·have HN:Hid (¬ Np.jO l7 t):=jq (λh=>by have:=h.2.2; rw[ck.out] at this; omega);have eI:decide (stop<=t)=true:=uQ yL;have y0:w2.cell? ⟨Y,0,none⟩=some (.slice none 0 0):=by simp[World.cell?,aC.out]
    have z0:w2.frozen? ⟨Y,0,none⟩=false:=by simp[World.frozen?,aC.out]
    have y1:w2.cell? ⟨Y,1,none⟩=some (.slice none 0 0):=by simp[World.cell?,aC.out]
    have z1:w2.frozen? ⟨Y,1,none⟩=false:=by simp[World.frozen?,aC.out]
    have y2:w2.cell? ⟨Y,2,none⟩=some (.string ⟨#[]⟩):=by simp[World.cell?,aC.out]
    have z2:w2.frozen? ⟨Y,2,none⟩=false:=by simp[World.frozen?,aC.out]
    have y3:w2.cell? ⟨Y,3,none⟩=some (.int .i64 0):=by simp[World.cell?,aC.out]
    have z3:w2.frozen? ⟨Y,3,none⟩=false:=by simp[World.frozen?,aC.out]
    have y4:w2.cell? ⟨Y,4,none⟩=some (.int .i64 0):=by simp[World.cell?,aC.out]
    have z4:w2.frozen? ⟨Y,4,none⟩=false:=by simp[World.frozen?,aC.out]
    have y5:w2.cell? ⟨Y,5,none⟩=some (.slice none 0 0):=by simp[World.cell?,aC.out]
    have z5:w2.frozen? ⟨Y,5,none⟩=false:=by simp[World.frozen?,aC.out]
    have y6:w2.cell? ⟨Y,6,none⟩=some (.slice none 0 0):=by simp[World.cell?,aC.out]
    have z6:w2.frozen? ⟨Y,6,none⟩=false:=by simp[World.frozen?,aC.out]
    clear xE yL;go_wp2_with fail;obtain⟨Wz,cw⟩:∃ Wz,(((((((w2.setCell ⟨Y,0,none⟩ (.slice none 0 0)).setCell ⟨Y,1,none⟩ (.slice none 0 0)).setCell ⟨Y,2,none⟩ (.string ⟨#[]⟩)).setCell ⟨Y,3,none⟩ (.int .i64 0)).setCell ⟨Y,4,none⟩ (.int .i64 0)).setCell ⟨Y,5,none⟩ (.slice none 0 0)).setCell ⟨Y,6,none⟩ (.slice none 0 0))=Wz:=⟨_,rfl⟩;have wk:Hid (Below (X+1) w2 Wz):=jq (by rw[<-cw]; exact ((((((((vQ _ _).setCell (by dsimp only; omega) _).setCell (by dsimp only; omega) _).setCell (by dsimp only; omega) _).setCell (by dsimp only; omega) _).setCell (by dsimp only; omega) _).setCell (by dsimp only; omega) _).setCell (by dsimp only; omega) _));have F6:Hid (∀ M:Nat->Prop,M Y->Leaves' M w2 Wz M):=jq (λM hY'=>by rw[<-cw]; exact (((((((Leaves'.setCell M _ (p:=⟨Y,0,none⟩) hY' _).trans (Leaves'.setCell M _ (p:=⟨Y,1,none⟩) hY' _)).trans (Leaves'.setCell M _ (p:=⟨Y,2,none⟩) hY' _)).trans (Leaves'.setCell M _ (p:=⟨Y,3,none⟩) hY' _)).trans (Leaves'.setCell M _ (p:=⟨Y,4,none⟩) hY' _)).trans (Leaves'.setCell M _ (p:=⟨Y,5,none⟩) hY' _)).trans (Leaves'.setCell M _ (p:=⟨Y,6,none⟩) hY' _)));have Lg:Wz.heap.size=w2.heap.size:=by rw[<-cw]; simp
    have e0:Wz.cell? ⟨Y,0,none⟩=some (.slice none 0 0):=by rw[<-cw]; simp[go_sem,y0]
    have e1:Wz.cell? ⟨Y,1,none⟩=some (.slice none 0 0):=by rw[<-cw]; simp[go_sem,y1]
    have e2:Wz.cell? ⟨Y,2,none⟩=some (.string ⟨#[]⟩):=by rw[<-cw]; simp[go_sem,y2]
    have e3:Wz.cell? ⟨Y,3,none⟩=some (.int .i64 0):=by rw[<-cw]; simp[go_sem,y3]
    have e4:Wz.cell? ⟨Y,4,none⟩=some (.int .i64 0):=by rw[<-cw]; simp[go_sem,y4]
    have e5:Wz.cell? ⟨Y,5,none⟩=some (.slice none 0 0):=by rw[<-cw]; simp[go_sem,y5]
    have e6:Wz.cell? ⟨Y,6,none⟩=some (.slice none 0 0):=by rw[<-cw]; simp[go_sem,y6]
    rw[cw];clear cw;refine bodyPost_ret (v:=.tuple #[.agg #[.slice none 0 0,.slice none 0 0,.string ⟨#[]⟩,.int .i64 0,.int .i64 0,.slice none 0 0,.slice none 0 0],.int .i64 1]) ?_ rfl ⟨[.slice none 0 0,.slice none 0 0,.string ⟨#[]⟩,.int .i64 0,.int .i64 0,.slice none 0 0,.slice none 0 0],tu rfl (by rw[(Np.nG HN.out).2]),by rw[(Np.nG HN.out).1]; exact xZ _ _,ak.out.trans (wk.out.mono (by omega))⟩;simp[results,results13,go_sem,e0,e1,e2,e3,e4,e5,e6]
   ·have HK:Hid (Np.jO l7 t):=jq ⟨HV.out,by omega,by rw[ck.out]; omega⟩;have eI:decide (stop<=t)=false:=tQ yL;clear xE yL;go_wp2_with fail;refine (Xf _ l7 cR.out.1 t w2 X (by omega) (cE _ _ _ _ _ gS.out ak.out)).mono ?_;rintro e w3 ⟨e3',rfl,h3',ah⟩;have RT:=jq h3';obtain⟨hv',zv',s',dv',bmZ,rfl,-,-,j1,j2,j3,j4⟩:=h3'.all Di;obtain⟨B1,d1,rfl,_,_⟩:=ag j1;obtain⟨B2,d2,rfl,_,_⟩:=ag j2;obtain⟨B3,d3,rfl,_,_⟩:=ag j3;obtain⟨B4,d4,rfl,_,_⟩:=ag j4;have av:=jq (ak.out.trans (ah.mono (by omega)));have aU:=(ah.block Y (by omega)).trans aC.out;have eJ:=jq aU;have dP:=ah.size;clear ah h3' j1 j2 j3 j4 aU;obtain⟨p1,Js⟩:∃ n,(Np.jo l7 t).hosts.length=n:=⟨_,rfl⟩;obtain⟨p2,LH⟩:∃ n,(Np.jo l7 t).zones.length=n:=⟨_,rfl⟩;obtain⟨p3,so⟩:∃ n,(Np.jo l7 t).anchor.data.length=n:=⟨_,rfl⟩;obtain⟨p4,R7⟩:∃ n,(Np.jo l7 t).hints.length=n:=⟨_,rfl⟩;obtain⟨ta,Su⟩:∃ n,(Np.jo l7 t).anchor.type=n:=⟨_,rfl⟩;obtain⟨la,pY⟩:∃ n,(Np.jo l7 t).anchor.life=n:=⟨_,rfl⟩;rw[Js,LH,so,R7,Su,pY] at RT |-;clear Js LH so R7 Su pY;have y0:w3.cell? ⟨Y,0,none⟩=some (.slice none 0 0):=by simp[World.cell?,eJ.out]
    have z0:w3.frozen? ⟨Y,0,none⟩=false:=by simp[World.frozen?,eJ.out]
    have y1:w3.cell? ⟨Y,1,none⟩=some (.slice none 0 0):=by simp[World.cell?,eJ.out]
    have z1:w3.frozen? ⟨Y,1,none⟩=false:=by simp[World.frozen?,eJ.out]
    have y2:w3.cell? ⟨Y,2,none⟩=some (.string ⟨#[]⟩):=by simp[World.cell?,eJ.out]
    have z2:w3.frozen? ⟨Y,2,none⟩=false:=by simp[World.frozen?,eJ.out]
    have y3:w3.cell? ⟨Y,3,none⟩=some (.int .i64 0):=by simp[World.cell?,eJ.out]
    have z3:w3.frozen? ⟨Y,3,none⟩=false:=by simp[World.frozen?,eJ.out]
    have y4:w3.cell? ⟨Y,4,none⟩=some (.int .i64 0):=by simp[World.cell?,eJ.out]
    have z4:w3.frozen? ⟨Y,4,none⟩=false:=by simp[World.frozen?,eJ.out]
    have y5:w3.cell? ⟨Y,5,none⟩=some (.slice none 0 0):=by simp[World.cell?,eJ.out]
    have z5:w3.frozen? ⟨Y,5,none⟩=false:=by simp[World.frozen?,eJ.out]
    have y6:w3.cell? ⟨Y,6,none⟩=some (.slice none 0 0):=by simp[World.cell?,eJ.out]
    have z6:w3.frozen? ⟨Y,6,none⟩=false:=by simp[World.frozen?,eJ.out]
    go_wp2_with fail;obtain⟨Wz,cw⟩:∃ Wz,(((((((w3.setCell ⟨Y,0,none⟩ (.slice B1 p1 d1)).setCell ⟨Y,1,none⟩ (.slice B2 p2 d2)).setCell ⟨Y,2,none⟩ (.string s')).setCell ⟨Y,3,none⟩ (.int .i64 ta)).setCell ⟨Y,4,none⟩ (.int .i64 la)).setCell ⟨Y,5,none⟩ (.slice B3 p3 d3)).setCell ⟨Y,6,none⟩ (.slice B4 p4 d4))=Wz:=⟨_,rfl⟩;have wk:Hid (Below (X+1) w3 Wz):=jq (by rw[<-cw]; exact ((((((((vQ _ _).setCell (by dsimp only; omega) _).setCell (by dsimp only; omega) _).setCell (by dsimp only; omega) _).setCell (by dsimp only; omega) _).setCell (by dsimp only; omega) _).setCell (by dsimp only; omega) _).setCell (by dsimp only; omega) _));have F6:Hid (∀ M:Nat->Prop,M Y->Leaves' M w3 Wz M):=jq (λM hY'=>by rw[<-cw]; exact (((((((Leaves'.setCell M _ (p:=⟨Y,0,none⟩) hY' _).trans (Leaves'.setCell M _ (p:=⟨Y,1,none⟩) hY' _)).trans (Leaves'.setCell M _ (p:=⟨Y,2,none⟩) hY' _)).trans (Leaves'.setCell M _ (p:=⟨Y,3,none⟩) hY' _)).trans (Leaves'.setCell M _ (p:=⟨Y,4,none⟩) hY' _)).trans (Leaves'.setCell M _ (p:=⟨Y,5,none⟩) hY' _)).trans (Leaves'.setCell M _ (p:=⟨Y,6,none⟩) hY' _)));have Lg:Wz.heap.size=w3.heap.size:=by rw[<-cw]; simp
    have e0:Wz.cell? ⟨Y,0,none⟩=some (.slice B1 p1 d1):=by rw[<-cw]; simp[go_sem,y0]
    have e1:Wz.cell? ⟨Y,1,none⟩=some (.slice B2 p2 d2):=by rw[<-cw]; simp[go_sem,y1]
    have e2:Wz.cell? ⟨Y,2,none⟩=some (.string s'):=by rw[<-cw]; simp[go_sem,y2]
    have e3:Wz.cell? ⟨Y,3,none⟩=some (.int .i64 ta):=by rw[<-cw]; simp[go_sem,y3]
    have e4:Wz.cell? ⟨Y,4,none⟩=some (.int .i64 la):=by rw[<-cw]; simp[go_sem,y4]
    have e5:Wz.cell? ⟨Y,5,none⟩=some (.slice B3 p3 d3):=by rw[<-cw]; simp[go_sem,y5]
    have e6:Wz.cell? ⟨Y,6,none⟩=some (.slice B4 p4 d4):=by rw[<-cw]; simp[go_sem,y6]
    rw[cw];clear cw;refine bodyPost_ret (v:=.tuple #[.agg #[.slice B1 p1 d1,.slice B2 p2 d2,.string s',.int .i64 ta,.int .i64 la,.slice B3 p3 d3,.slice B4 p4 d4],.int .i64 0]) ?_ rfl ⟨[.slice B1 p1 d1,.slice B2 p2 d2,.string s',.int .i64 ta,.int .i64 la,.slice B3 p3 d3,.slice B4 p4 d4],tu rfl (by rw[(Np.oL HK.out).2]),?_,av.out.trans (wk.out.mono (by omega))⟩
    ·simp[results,results13,go_sem,e0,e1,e2,e3,e4,e5,e6]
    ·rw[(Np.oL HK.out).1];have h9:=RT.out (λk=>k=Y) (λk hk=>by omega);exact Di.all ((F6.out (λk=>k=Y) rfl).read zW Di zV h9)
end
section
open Go.RowKit Go.Sort Go.Shelf
def Np.mM(l:List Np.Span):Prop:=∀ s∈l,s.frm<s.til
theorem NH(v:Value)(ps:List Np.Span)(s:Np.Span)(cu:ps.length<=20000)(hp:Np.mM ps)(hs:s.frm<s.til)(w:World)(h:SlR cV 2 w w.heap.size v (Np.bq ps)) :
 Calls prog 192 #[v,.agg #[.int .i64 s.frm,.int .i64 s.til]] w (λe w'=>∃ v',e = .returned v'/\aI w.heap.size w' v' (Np.bq (ps ++ [s]))/\Below w.heap.size w w'):=by
 have h1:=Yr v (Np.bq ps) s (by have:=qv ps; omega) hs w h;rwa [He _ _ (Np.tB hp).1 hs,Np.VW hp hs] at h1
theorem ZW(v:Value)(l:List Np.Span)(cu:l.length<=20000)(hf:Np.mM l)(w:World)(h:SlR cV 2 w w.heap.size v l) :
 Calls prog 191 #[v] w (λe w'=>∃ v',e = .returned v'/\aI w.heap.size w' v' (Np.bq l)/\Below w.heap.size w w'):=by
 have HD:=jq h;have HF:=jq hf;obtain⟨A,c,rfl,bC,bH⟩:=ag h;clear h hf;go_enter func191,ntmps191;go_wp2_with fail;go_loopw [3,4] (λvo i wr=>∃ (k:Nat),k<=l.length/\i = .int .i64 k/\Hid (Below w.heap.size w wr)/\Hid (aI w.heap.size wr vo (Np.bq (l.take k)))) (λ_ i _=>l.length - (intOf i).toNat)
 case atStart=>exact⟨0,jQ _,rfl,jq (vQ _ _),jq (by rw[List.take_zero,Np.N4]; exact aI.nil _ _)⟩
 case round=>
  obtain⟨k,hk,rfl,HB,HO⟩:=hrel;have an:=HB.out.size;by_cases ab:k<l.length
  ·obtain⟨x,ac⟩:∃ x,l[k]?=some x:=⟨_,aQ ab⟩;have ia:=HD.out.keep fE HB.out;obtain⟨b,o,rfl⟩:=yj ia ab;obtain⟨cD,hat⟩:=vx ia ac;clear ia;have h0:=hat.c0;have h1:=hat.c1;have HT:Hid (l.take (k+1)=l.take k ++ [x]):=jq (by
    obtain⟨hl,he⟩:=cQ.1 ac;rw[fQ hl,he])
   have HX:Hid (x.frm<x.til):=jq (HF.out x (gQ ac));have qY:Hid (Np.mM (l.take k)):=jq (λy hy=>HF.out y (List.mem_of_mem_take hy));have lq:Hid ((l.take k).length<=20000):=jq (by rw[List.length_take]; omega);have HS:Hid (SlR cV 2 wr wr.heap.size u3 (Np.bq (l.take k))):=jq (HO.out.slr (by have:=qv (l.take k); have:=lq.out; omega));clear ac hat;go_wp2_with fail;refine (NH _ (l.take k) x lq.out qY.out HX.out _ HS.out).mono ?_;rintro e w2 ⟨v2,rfl,iY,aa⟩;have H2:=jq (And.intro (iY.weak an) (HB.out.trans (aa.mono an)));clear iY aa;go_wp2_with fail;go_roundw
   case rel=>exact⟨k+1,by omega,by go_num,jq H2.out.2,jq (by rw[HT.out]; exact H2.out.1)⟩
   case measure=>simp[intOf] <;> omega
  ·have HE':Hid (l.take k=l):=jq (kQ (by omega));go_wp2_with fail;go_ret;exact⟨_,rfl,by have:=HO.out; rw[HE'.out] at this; exact this,HB.out⟩
theorem GM(v v':Value)(l m:List Np.Span)(bfZ:l.length<=10000)(aKZ:m.length<=10000)(hf:Np.mM l)(hg:Np.mM m)(w:World)(h:SlR cV 2 w w.heap.size v l)(h':SlR cV 2 w w.heap.size v' m) :
 Calls prog 127 #[v,v'] w (λe w'=>∃ v',e = .returned v'/\aI w.heap.size w' v' (Np.bq (l++m))/\Below w.heap.size w w'):=by
 have HL:=jq h;have HD:=jq h';have n7:=jq hf;have HF:=jq hg;obtain⟨A,c,rfl,bC,bH⟩:=ag h;obtain⟨A',c',rfl,SU,C0⟩:=ag h';clear h h' hf hg;go_enter func127,ntmps127;go_wp2_with fail;refine (ZW _ l (by omega) n7.out _ HL.out).mono ?_;rintro e w1 ⟨v1,rfl,BP,aq⟩;have HO1:=jq BP;have aF:=jq aq;clear BP aq;go_wp2_with fail;go_loopw [5,6] (λvo i wr=>∃ (k:Nat),k<=m.length/\i = .int .i64 k/\Hid (Below w.heap.size w wr)/\Hid (aI w.heap.size wr vo (Np.bq (l++m.take k)))) (λ_ i _=>m.length - (intOf i).toNat)
 case atStart=>exact⟨0,jQ _,rfl,aF,jq (by rw[List.take_zero,List.append_nil]; exact HO1.out)⟩
 case round=>
  obtain⟨k,hk,rfl,HB,HO⟩:=hrel;have an:=HB.out.size;by_cases ab:k<m.length
  ·obtain⟨x,ac⟩:∃ x,m[k]?=some x:=⟨_,aQ ab⟩;have ia:=HD.out.keep fE HB.out;obtain⟨b,o,rfl⟩:=yj ia ab;obtain⟨cD,hat⟩:=vx ia ac;clear ia;have h0:=hat.c0;have h1:=hat.c1;have HT:Hid (l++m.take (k+1)=(l++m.take k) ++ [x]):=jq (by
    obtain⟨hl,he⟩:=cQ.1 ac;rw[fQ hl,he,List.append_assoc])
   have HX:Hid (x.frm<x.til):=jq (HF.out x (gQ ac));have qY:Hid (Np.mM (l++m.take k)):=jq (λy hy=>(List.mem_append.1 hy).elim (n7.out y) λhy=>HF.out y (List.mem_of_mem_take hy));have lq:Hid ((l++m.take k).length<=20000):=jq (by rw[List.length_append,List.length_take]; omega);have HS:Hid (SlR cV 2 wr wr.heap.size u5 (Np.bq (l++m.take k))):=jq (HO.out.slr (by have:=qv (l++m.take k); have:=lq.out; omega));clear ac hat;go_wp2_with fail;refine (NH _ (l++m.take k) x lq.out qY.out HX.out _ HS.out).mono ?_;rintro e w2 ⟨v2,rfl,iY,aa⟩;have H2:=jq (And.intro (iY.weak an) (HB.out.trans (aa.mono an)));clear iY aa;go_wp2_with fail;go_roundw
   case rel=>exact⟨k+1,by omega,by go_num,jq H2.out.2,jq (by rw[HT.out]; exact H2.out.1)⟩
   case measure=>simp[intOf] <;> omega
  ·have HE':Hid (m.take k=m):=jq (kQ (by omega));go_wp2_with fail;go_ret;exact⟨_,rfl,by have:=HO.out; rw[HE'.out] at this; exact this,HB.out⟩
theorem YR(f u f' u':Int)(w:World):(binOp .neq 114 (.agg #[.int .i64 f,.int .i64 u]) (.agg #[.int .i64 f',.int .i64 u'])).run prog w = .ok (.bool (decide ((⟨f,u⟩:Np.Span)≠⟨f',u'⟩))) w:=by
 have u3:=underlying3;have a3:=isAgg3;have z3:=sizeOf3;have hS:prog.underlying 114=some (.struct (prog.fieldsOf 114)):=by kernel_rfl
 have hp:prog.stoodInHeld 114=false:=by kernel_rfl
 rw[run_neq_struct,show (10000:Nat)=9999+1 from rfl,run_equalIn_agg w 9999 114 _ _ hS hp];simp only[Program.fieldsOf,underlying114];go_simp;by_cases h1:f=f' <;> by_cases h2:u=u' <;> simp[h1,h2]
theorem Db(v v':Value)(l m:List Np.Span)(w:World)(h:SlR cV 2 w w.heap.size v l)(h':SlR cV 2 w w.heap.size v' m) :
 Calls prog 25 #[v,v'] w (λe w'=>e = .returned (.bool (decide (l=m)))/\Below w.heap.size w w'):=by
 have HL:=jq h;have HM:=jq h';obtain⟨A,c,rfl,bC,bH⟩:=ag h;obtain⟨A',c',rfl,SU,C0⟩:=ag h';clear h h';by_cases hlen:l.length=m.length
 ·have zr:=jq hlen;obtain⟨n,hn⟩:∃ n,m.length=n:=⟨_,rfl⟩;rw[hn] at SU C0 hlen;have HN:=jq hn;rw[hlen] at bC bH;rw[hn,hlen];have Ff:=jq hlen;clear hlen hn;go_enter func25,ntmps25;go_wp2_with fail;go_loopw [5] (λi wr=>∃ (k:Nat),k<=n/\i = .int .i64 k/\Hid (Below w.heap.size w wr)/\Hid (l.take k=m.take k)) (λi _=>n - (intOf i).toNat)
  case atStart=>exact⟨0,jQ _,rfl,jq (vQ _ _),jq rfl⟩
  case round=>
   obtain⟨k,hk,rfl,HB,HT⟩:=hrel;have an:=HB.out.size;by_cases ab:k<n
   ·have Td:=Ff.out;have R4:=HN.out;obtain⟨x,hx⟩:∃ x,l[k]?=some x:=⟨_,aQ (by omega)⟩;obtain⟨y,hy⟩:∃ y,m[k]?=some y:=⟨_,aQ (by omega)⟩;have ia:=HL.out.keep fE HB.out;have FI:=HM.out.keep fE HB.out;rw[Td] at ia;rw[R4] at FI;obtain⟨b,o,rfl⟩:=yj (k:=k) ia (by omega);obtain⟨b',o',rfl⟩:=yj (k:=k) FI (by omega);obtain⟨cD,hat⟩:=vx ia hx;obtain⟨zk,y9⟩:=vx FI hy;have h0:=hat.c0;have h1:=hat.c1;have h0':=y9.c0;have h1':=y9.c1;have fV:Hid (x=y->l.take (k+1)=m.take (k+1)):=jq (λe=>by
     obtain⟨q1,q2⟩:=cQ.1 hx;obtain⟨q3,q4⟩:=cQ.1 hy;rw[fQ q1,fQ q3,q2,q4,HT.out,e])
    have mw:Hid (x≠y->decide (l=m)=false):=jq (λe=>tQ (by rintro rfl; rw[hx] at hy; exact e (by simpa using hy)));have bW:(0:Int)<=(k:Int):=by omega
    have bV:(k:Int)<(n:Int):=by omega
    have heq:=YR x.frm x.til y.frm y.til;clear ia FI hat y9 hx hy Td R4;by_cases cI:x=y
    ·have HX:=jq (fV.out cI);have kY:decide ((⟨x.frm,x.til⟩:Np.Span)≠⟨y.frm,y.til⟩)=false:=by rw[cI]; simp
     rw[kY] at heq;clear kY cI;go_wp2_with fail;go_quiet (fail);go_wp2_with fail;go_roundw
     case rel=>exact⟨k+1,by omega,by go_num,jq (below_drewN HB.out _),HX⟩
     case measure=>simp[intOf] <;> omega
    ·have HX:=jq (mw.out cI);have kY:decide ((⟨x.frm,x.til⟩:Np.Span)≠⟨y.frm,y.til⟩)=true:=uQ cI;rw[kY] at heq;clear kY cI;go_wp2_with fail;go_quiet (fail);go_wp2_with fail;go_ret;exact⟨aj HX.out.symm,below_drewN HB.out _⟩
   ·have HE:Hid (decide (l=m)=true):=jq (uQ (by
     have:=HT.out
     rwa [kQ (by have:=Ff.out; omega),kQ (by have:=HN.out; omega)] at this))
    go_wp2_with fail;go_ret;exact⟨aj HE.out.symm,HB.out⟩
 ·have hne:(l.length:Int)≠(m.length:Int):=by omega
  have hd:decide ((l.length:Int)=(m.length:Int))=false:=tQ hne;have HE:Hid (decide (l=m)=false):=jq (tQ (by rintro rfl; exact hlen rfl));have hb:((l.length:Int) == (m.length:Int))=false:=by simpa using hne
  go_enter func25,ntmps25;go_wp2_with fail;go_ret;exact⟨aj HE.out.symm,vQ _ _⟩
end
section
open Go.RowKit
theorem Xq(u v:Value)(xs:List Np.Signed)(w:World)(hu:SlR bK 5 w w.heap.size u xs)(hv:SlR bK 5 w w.heap.size v xs) :
 Calls prog 76 #[u,v] w λe w'=>e = .returned (.bool true)/\Below w.heap.size w w':=by
 have HU:=jq hu;have HV:=jq hv;obtain⟨A,c,rfl,bC,bH⟩:=ag hu;obtain⟨A2,c2,rfl,eB,dz⟩:=ag hv;clear hu hv;have CM:((xs.length:Int) != (xs.length:Int))=false:=by simp
 go_enter func76,ntmps76;go_wp2_with fail;go_loopw [5] (λi wr=>∃ k:Nat,k<=xs.length/\i = .int .i64 k/\Hid (Below w.heap.size w wr)) (λi _=>xs.length - (intOf i).toNat)
 case atStart=>exact⟨0,jQ _,rfl,jq (vQ _ _)⟩
 case round=>
  obtain⟨k,hk,rfl,HB⟩:=hrel;by_cases ab:k<xs.length
  ·obtain⟨b,o,c',s,dv,sv,hA,hb,_,hs,an,bd,aL,e0,e1,e2,e3,e4⟩:=eT (HU.out.later aV bR HB.out) (aQ ab)
   cases hA
   obtain⟨b2,o2,c2',s',dv',sv',hA,aa,_,hs',bL,xI,lV,f0,f1,f2,f3,f4⟩:=eT (HV.out.later aV bR HB.out) (aQ ab);simp only[Value.slice.injEq] at hA;obtain⟨rfl,_,rfl⟩:=hA;have fW:s'=s:=iV (by rw[hs,hs']);subst fW;generalize xs[k]=x at *;have lZ:=jq bd;have Le:=jq xI;have ky:=jq aL;have Bq:=jq lV;obtain⟨S1,m1,rfl,_,_⟩:=ag aL;obtain⟨S2,m2,rfl,_,_⟩:=ag lV;obtain⟨D1,n1,rfl,_,_⟩:=ag bd;obtain⟨D2,n2,rfl,_,_⟩:=ag xI;have bW:(0:Int)<=(k:Int):=by omega
   have bV:(k:Int)<(xs.length:Int):=by omega
   have kq:∀ (g:bE wr) (p:Addr),p.block<wr.heap.size->g.w.cell? p=wr.cell? p:=λg p h=>g.cell p h;have bT:∀ g:bE wr,Calls prog 30 #[.agg #[.string s',.int .i64 x.set.type,.int .i64 x.set.life,.slice D1 x.set.data.length n1,.slice S1 x.sigs.length m1],.agg #[.string s',.int .i64 x.set.type,.int .i64 x.set.life,.slice D2 x.set.data.length n2,.slice S2 x.sigs.length m2]] g.w λe w'=>e = .returned (.bool true)/\Below g.w.heap.size g.w w':=λg=>
    (C7 s' s' _ _ _ _ _ _ _ _ x.set.data x.set.data x.sigs x.sigs g.w (lZ.out.later cL dp g.below) (Le.out.later cL dp g.below) (ky.out.later gg ij g.below) (Bq.out.later gg ij g.below)).mono λe w' h=>⟨by rw[h.1]; simp,h.2⟩
   have iC:=jq bT;clear bT hs hs' aL lV bd xI an bL;go_wp2_with fail;refine en (by kernel_rfl) (by kernel_rfl) ?_
   repeat (go_big_quiet_step ((go_at_call 30; exact Calls.grow_of (iC.out _))))
   refine wpQuiet_nil ?_;rintro _ ⟨g,rfl⟩;go_wp2_with fail;go_roundw
   case rel=>exact⟨k+1,by omega,by go_num,jq (HB.out.trans (g.below.mono HB.out.size))⟩
   case measure=>simp[intOf] <;> omega
  ·go_wp2_with fail;go_ret;exact⟨rfl,HB.out⟩
theorem NU(s:ByteArray)(u v:Value)(xs:List Np.Signed)(w:World)(hu:SlR bK 5 w w.heap.size u xs)(hv:SlR bK 5 w w.heap.size v xs) :
 Calls prog 28 #[.agg #[.string s,u],.agg #[.string s,v]] w λe w'=>e = .returned (.bool true)/\Below w.heap.size w w':=by
 have HU:=jq hu;have HV:=jq hv;have iK:Below w.heap.size w ((w.alloc (.cells #[.string s,u] 56)).alloc (.cells #[.string s,v] 56)):=((vQ _ _).alloc (bQ _) _).alloc (by simp) _;have br:=jq iK;obtain⟨A,c,rfl,bC,bH⟩:=ag hu;obtain⟨A2,c2,rfl,eB,dz⟩:=ag hv;clear hu hv iK;go_enter func28,ntmps28;go_wp2_with fail;refine (Xq _ _ xs _ (HU.out.later aV bR br.out) (HV.out.later aV bR br.out)).mono ?_;rintro e w1 ⟨rfl,aq⟩;have aF:=jq (br.out.trans (aq.mono br.out.size));clear aq;go_wp2_with fail;go_ret;exact⟨rfl,aF.out⟩
theorem MG(u v:Value)(xs:List Np.Placed)(w:World)(hu:SlR il 3 w w.heap.size u xs)(hv:SlR il 3 w w.heap.size v xs) :
 Calls prog 40 #[u,v] w λe w'=>e = .returned (.bool true)/\Below w.heap.size w w':=by
 have HU:=jq hu;have HV:=jq hv;obtain⟨A,c,rfl,bC,bH⟩:=ag hu;obtain⟨A2,c2,rfl,eB,dz⟩:=ag hv;clear hu hv;have CM:((xs.length:Int) != (xs.length:Int))=false:=by simp
 go_enter func40,ntmps40;go_wp2_with fail;go_loopw [5] (λi wr=>∃ k:Nat,k<=xs.length/\i = .int .i64 k/\Hid (Below w.heap.size w wr)) (λi _=>xs.length - (intOf i).toNat)
 case atStart=>exact⟨0,jQ _,rfl,jq (vQ _ _)⟩
 case round=>
  obtain⟨k,hk,rfl,HB⟩:=hrel;by_cases ab:k<xs.length
  ·obtain⟨b,o,s,sv,rfl,hb,hs,an,aL,e0,e1,e2⟩:=DG (HU.out.later ig gT HB.out) (aQ ab);obtain⟨b2,o2,s',sv',rfl,aa,hs',bL,lV,f0,f1,f2⟩:=DG (HV.out.later ig gT HB.out) (aQ ab);have fW:s'=s:=iV (by rw[hs,hs']);subst fW;generalize xs[k]=x at *;have ky:=jq aL;have Bq:=jq lV;obtain⟨S1,m1,rfl,_,_⟩:=ag aL;obtain⟨S2,m2,rfl,_,_⟩:=ag lV;have bW:(0:Int)<=(k:Int):=by omega
   have bV:(k:Int)<(xs.length:Int):=by omega
   have hne:(x.host != x.host)=false:=by simp
   have kq:∀ (g:bE wr) (p:Addr),p.block<wr.heap.size->g.w.cell? p=wr.cell? p:=λg p h=>g.cell p h;have bT:∀ g:bE wr,Calls prog 28 #[.agg #[.string s',.slice S1 x.zone.sets.length m1],.agg #[.string s',.slice S2 x.zone.sets.length m2]] g.w λe w'=>e = .returned (.bool true)/\Below g.w.heap.size g.w w':=λg=>
    NU s' _ _ x.zone.sets g.w (ky.out.later aV bR g.below) (Bq.out.later aV bR g.below)
   have iC:=jq bT;clear bT hs hs' aL lV an bL;go_wp2_with fail;refine en (by kernel_rfl) (by kernel_rfl) ?_
   repeat (go_big_quiet_step ((go_at_call 28; exact Calls.grow_of (iC.out _))))
   refine wpQuiet_nil ?_;rintro _ ⟨g,rfl⟩;go_wp2_with fail;go_roundw
   case rel=>exact⟨k+1,by omega,by go_num,jq (HB.out.trans (g.below.mono HB.out.size))⟩
   case measure=>simp[intOf] <;> omega
  ·go_wp2_with fail;go_ret;exact⟨rfl,HB.out⟩
end
end Go.Proofs.YtbfbobfbgabjiaaGreatDoor
