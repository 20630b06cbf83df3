/- Parts of the proof. No condition. -/
import Derived.Test.YtfnopgdcaanaiaaGreatDoorM17
import Derived.Test.YtfnopgdcaanaiaaGreatDoorM18
set_option linter.all false
set_option maxRecDepth 100000
set_option maxHeartbeats 8000000
namespace Go.Proofs.YtfnopgdcaanaiaaGreatDoor
open Go.Proofs.Tryz
section
open Go.RowKit
theorem aSX{h:Np.Hist} : Np.VHist h↔(((Np.VHosts h.hosts/\Np.VRoot h.anchor h.hints)/\Np.tT h)/\∀ c∈h.copies,Np.CopyOk h c)/\h.copies.Pairwise λc d=>¬ Np.kH c d:=
 ⟨λv=>⟨⟨⟨⟨v.hosts,v.root⟩,v.stop,v.drift⟩,v.each⟩,v.apart⟩,λv=>⟨v.1.1.2.1,v.1.1.2.2,v.1.1.1.1,v.1.1.1.2,v.1.2,v.2⟩⟩
theorem RY(hv:Value)(hs:List Np.Host)(cv:Value)(l:List Np.Copy)(s:ByteArray)(an:s.size<=140737488355328)(ty life:Int)(dv:Value)(d:List Np.Datum)(dU:Value)(hints:List Int)(drift stop:Int)(hl:l.length<=500)(hz:∀ p∈l,p.zone.sets.length<=20000)(w:World)
 (hh:SlR kS 3 w w.heap.size hv hs) (hd:SlR my 5 w w.heap.size cv l) (hdd:SlR bR 3 w w.heap.size dv d) (kx:SlR lF 1 w w.heap.size dU hints) :
 Calls prog 44 #[.agg #[hv,cv,.string s,.int .i64 ty,.int .i64 life,dv,dU,.int .i64 drift,.int .i64 stop]] w λe w'=>e = .returned (.bool (Np.yes (Np.VHist ⟨hs,l,⟨s.data.toList,ty,life,d⟩,hints,drift,stop⟩)))/\Below w.heap.size w w':=by
 obtain⟨r,hr⟩:=acJ (Np.yes (Np.VHist ⟨hs,l,⟨s.data.toList,ty,life,d⟩,hints,drift,stop⟩));obtain⟨jh,sP⟩:∃ h:Np.Hist,(⟨hs,l,⟨s.data.toList,ty,life,d⟩,hints,drift,stop⟩:Np.Hist)=h:=⟨_,rfl⟩;rw[hr];have HR:Hid (Np.yes ((((Np.VHosts hs/\Np.VRoot ⟨s.data.toList,ty,life,d⟩ hints)/\Np.tT jh)/\∀ c∈l,Np.CopyOk jh c)/\l.Pairwise λc d=>¬ Np.kH c d)=r):=jq (by rw[<-hr,<-sP];exact (Np.ve (aSX (h:=⟨hs,l,⟨s.data.toList,ty,life,d⟩,hints,drift,stop⟩))).symm);have ke:Hid (Np.tT jh↔(1<=stop/\stop<=10000000)/\(0<=drift/\drift<=1000)):=jq (by rw[<-sP];exact Iff.rfl);have jE:Hid (∀ c,Np.CopyOk jh c↔(0<=c.host/\c.host<hs.length)/\(0<=c.frm/\c.frm<c.til/\c.til<=stop)/\Np.VZone c.zone):=jq (λc=>by rw[<-sP];exact⟨λh=>⟨h.host,h.times,h.zone⟩,λh=>⟨h.1,h.2.1,h.2.2⟩⟩);have HH:=jq hh;have HD:=jq hd;have qG:=jq hdd;have qJ:=jq kx;have HZ:=jq hz;obtain⟨A1,c1,rfl,_,_⟩:=ak hh;obtain⟨A2,c2,rfl,_,_⟩:=ak hd;obtain⟨A3,c3,rfl,_,_⟩:=ak hdd;obtain⟨A4,c4,rfl,_,_⟩:=ak kx;clear hr sP hd hh hdd kx hz;obtain⟨n1,bP⟩:=acJ hs.length;obtain⟨n2,cr⟩:=acJ l.length;obtain⟨n3,eu⟩:=acJ d.length;obtain⟨n4,eP⟩:=acJ hints.length;rw[bP] at HH jE |-;rw[cr] at HD hl |-;rw[eu] at qG |-;rw[eP] at qJ |-;have HN:=jq (And.intro bP (And.intro cr (And.intro eu eP)));clear bP cr eu eP;obtain⟨W1,am⟩:=acJ (w.alloc (.cells #[.slice A1 n1 c1,.slice A2 n2 c2,.string s,.int .i64 ty,.int .i64 life,.slice A3 n3 c3,.slice A4 n4 c4,.int .i64 drift,.int .i64 stop] 29));have aI:Below w.heap.size w W1:=by rw[<-am];exact (vQ _ _).alloc (bQ _) _
 have iS:W1.heap.size=w.heap.size+1:=by rw[<-am];simp
 obtain⟨X,hX⟩:=acJ w.heap.size;have kN:=jq hX;have k0:W1.cell? ⟨X,0,none⟩=some (.slice A1 n1 c1):=by rw[<-am,<-hX];simp[go_sem]
 have k1:W1.cell? ⟨X,1,none⟩=some (.slice A2 n2 c2):=by rw[<-am,<-hX];simp[go_sem]
 have k2:W1.cell? ⟨X,2,none⟩=some (.string s):=by rw[<-am,<-hX];simp[go_sem]
 have k3:W1.cell? ⟨X,3,none⟩=some (.int .i64 ty):=by rw[<-am,<-hX];simp[go_sem]
 have k4:W1.cell? ⟨X,4,none⟩=some (.int .i64 life):=by rw[<-am,<-hX];simp[go_sem]
 have k5:W1.cell? ⟨X,5,none⟩=some (.slice A3 n3 c3):=by rw[<-am,<-hX];simp[go_sem]
 have k6:W1.cell? ⟨X,6,none⟩=some (.slice A4 n4 c4):=by rw[<-am,<-hX];simp[go_sem]
 have k7:W1.cell? ⟨X,7,none⟩=some (.int .i64 drift):=by rw[<-am,<-hX];simp[go_sem]
 have k8:W1.cell? ⟨X,8,none⟩=some (.int .i64 stop):=by rw[<-am,<-hX];simp[go_sem]
 rw[hX] at aI iS HH HD qG qJ;rw[hX];have aV:=jq aI;clear aI;go_enter func44,ntmps44;go_wp2_with fail;refine (aCJ _ hs _ ((HH.out.keep oh aV.out).more x7 (by omega))).mono ?_;rintro e w2 ⟨rfl,ac⟩;have aN:=ac.size;replace k0:=aaJ ac k0;replace k1:=aaJ ac k1;replace k2:=aaJ ac k2;replace k3:=aaJ ac k3;replace k4:=aaJ ac k4;replace k5:=aaJ ac k5;replace k6:=aaJ ac k6;replace k7:=aaJ ac k7;replace k8:=aaJ ac k8;have ai:=acZ aV ac;clear ac am;obtain⟨b1,ay⟩:=acJ (Np.yes (Np.VHosts hs));rw[ay];have tR:=jq ay;clear ay
 cases b1 with
 | false=>
  have HX:Hid (r=false):=jq (by rw[<-HR.out];exact Np.aF λq=>by have:=Np.bh q.1.1.1.1;rw[tR.out] at this;cases this);go_wp2_with fail;go_ret;exact⟨ag HX.out.symm,ai.out⟩
 | true=>
 go_wp2_with fail;refine (aEQ s an ty life _ d _ hints _ ((qG.out.keep bV ai.out).more cu (by omega)) ((qJ.out.keep qy ai.out).more x8 (by omega))).mono ?_;rintro e w3 ⟨rfl,aq⟩;have eR:=aq.size;replace k0:=aaJ aq k0;replace k1:=aaJ aq k1;replace k2:=aaJ aq k2;replace k3:=aaJ aq k3;replace k4:=aaJ aq k4;replace k5:=aaJ aq k5;replace k6:=aaJ aq k6;replace k7:=aaJ aq k7;replace k8:=aaJ aq k8;have ar:=acZ ai aq;clear aq;obtain⟨b2,ac⟩:=acJ (Np.yes (Np.VRoot ⟨s.data.toList,ty,life,d⟩ hints));rw[ac];have Bc:=jq ac;clear ac
 cases b2 with
 | false=>
  have HX:Hid (r=false):=jq (by rw[<-HR.out];exact Np.aF λq=>by have:=Np.bh q.1.1.1.2;rw[Bc.out] at this;cases this);go_wp2_with fail;go_ret;exact⟨ag HX.out.symm,ar.out⟩
 | true=>
 by_cases g1:stop<1
 ·have dg1:decide (stop<1)=true:=uQ g1;have HX:Hid (r=false):=jq (by rw[<-HR.out];exact Np.aF λq=>by have:=ke.out.1 q.1.1.2;omega);clear g1;go_wp2_with fail;go_ret;exact⟨ag HX.out.symm,ar.out⟩
 have dg1:decide (stop<1)=false:=tQ g1;by_cases g2:10000000<stop
 ·have dg2:decide (10000000<stop)=true:=uQ g2;have HX:Hid (r=false):=jq (by rw[<-HR.out];exact Np.aF λq=>by have:=ke.out.1 q.1.1.2;omega);clear g2;go_wp2_with fail;go_ret;exact⟨ag HX.out.symm,ar.out⟩
 have dg2:decide (10000000<stop)=false:=tQ g2;by_cases g3:drift<0
 ·have dg3:decide (drift<0)=true:=uQ g3;have HX:Hid (r=false):=jq (by rw[<-HR.out];exact Np.aF λq=>by have:=ke.out.1 q.1.1.2;omega);clear g3;go_wp2_with fail;go_ret;exact⟨ag HX.out.symm,ar.out⟩
 have dg3:decide (drift<0)=false:=tQ g3;by_cases g4:1000<drift
 ·have dg4:decide (1000<drift)=true:=uQ g4;have HX:Hid (r=false):=jq (by rw[<-HR.out];exact Np.aF λq=>by have:=ke.out.1 q.1.1.2;omega);clear g4;go_wp2_with fail;go_ret;exact⟨ag HX.out.symm,ar.out⟩
 have dg4:decide (1000<drift)=false:=tQ g4;have d5:decide (4000<(n2:Int))=false:=adJ;have Gp:Hid (Np.tT jh):=jq (ke.out.2 (by omega));have da:Hid (l.length=n2):=jq HN.out.2.1;clear g1 g2 g3 g4;go_wp2_with fail;go_loopw [3] (λi wr=>∃ (k:Nat),k<=n2/\i = .int .i64 k/\w3.heap.size<=wr.heap.size/\Hid (Below w3.heap.size w3 wr)/\Hid (∀ c∈l.take k,Np.CopyOk jh c)/\Hid ((l.take k).Pairwise λc d=>¬ Np.kH c d)) (λi _=>n2 - (intOf i).toNat)
 case atStart=>exact⟨0,jQ _,rfl,bQ _,jq (vQ _ _),jq (by simp),jq (by simp)⟩
 case round=>
  obtain⟨k,hk,rfl,bdY,bG,bH,lz⟩:=hrel;have HB:=acZ ar bG.out;have q0:=aaJ bG.out k0;have q1:=aaJ bG.out k1;have q8:=aaJ bG.out k8;by_cases ab:k<n2
  ·obtain⟨x,aa⟩:∃ x,l[k]?=some x:=⟨_,aQ (by rw[da.out];exact ab)⟩;obtain⟨b,o,sn,vz,rfl,bA,aw,cB,fJ,f0,f1,f2,f3,f4⟩:=t8 (HD.out.keep mp HB.out) aa;obtain⟨Az,cz,rfl,_,_⟩:=ak fJ;obtain⟨nz,ju⟩:=acJ x.zone.sets.length;rw[ju] at f4;have HT:Hid (l.take (k+1)=l.take k ++ [x]):=jq (by
    obtain⟨hl,he⟩:=cQ.1 aa;rw[fQ hl,he])
   have HF:Hid (¬ Np.CopyOk jh x->r=false):=jq (λh=>by rw[<-HR.out];exact Np.aF λq=>h (q.1.2 x (gQ aa)));have vx:Hid (∀ (j:Nat) (y:Np.Copy),j<k->l[j]?=some y->Np.kH y x->r=false):=jq (λj y hj hy l9=>by
    rw[<-HR.out];refine Np.aF λq=>?_;have h1:=q.2;rw[List.pairwise_iff_getElem] at h1;obtain⟨e1,e2⟩:=cQ.1 hy;obtain⟨e3,e4⟩:=cQ.1 aa;have h2:=h1 j k e1 e3 hj;rw[e2,e4] at h2;exact h2 l9)
   have Be:Hid (x.zone.sets.length<=20000):=jq (HZ.out x (gQ aa));have aT:=jq aw;have kk:Hid (SlR bO 5 wr wr.heap.size (.slice Az nz cz) x.zone.sets):=jq (by rw[<-ju];exact fJ.more cC (by omega));obtain⟨w4,bY⟩:=acJ (wr.alloc (.cells #[.int .i64 x.host,.int .i64 x.frm,.int .i64 x.til,.string sn,.slice Az nz cz] 46));have fl:w4.heap.size=wr.heap.size+1:=by rw[<-bY];simp
   have aC:Below wr.heap.size wr w4:=by rw[<-bY];exact (vQ _ _).alloc (bQ _) _
   have p0:w4.cell? ⟨wr.heap.size,0,none⟩=some (.int .i64 x.host):=by rw[<-bY];simp[go_sem]
   have p1:w4.cell? ⟨wr.heap.size,1,none⟩=some (.int .i64 x.frm):=by rw[<-bY];simp[go_sem]
   have p2:w4.cell? ⟨wr.heap.size,2,none⟩=some (.int .i64 x.til):=by rw[<-bY];simp[go_sem]
   have p3:w4.cell? ⟨wr.heap.size,3,none⟩=some (.string sn):=by rw[<-bY];simp[go_sem]
   have p4:w4.cell? ⟨wr.heap.size,4,none⟩=some (.slice Az nz cz):=by rw[<-bY];simp[go_sem]
   have u0:w4.cell? ⟨X,0,none⟩=some (.slice A1 n1 c1):=aaJ aC q0;have u1:w4.cell? ⟨X,1,none⟩=some (.slice (some ⟨b,o,none⟩) n2 c2):=aaJ aC q1;have u8:w4.cell? ⟨X,8,none⟩=some (.int .i64 stop):=aaJ aC q8;have aU:=acZ HB aC;have Gz:=acZ bG aC;have vU:Hid (SlR bO 5 w4 w4.heap.size (.slice Az nz cz) x.zone.sets):=jq ((kk.out.keep bj aC).more cC aC.size);have y7:X<wr.heap.size:=by omega
   clear aa aw fJ ju aC kk;by_cases g1:x.host<0
   ·have dg1:decide (x.host<0)=true:=uQ g1;have HX:Hid (r=false):=jq (HF.out λh=>by have:=(jE.out x).1 h;omega);clear g1;go_wp2_with fail;go_ret;exact⟨ag HX.out.symm,aU.out⟩
   have dg1:decide (x.host<0)=false:=tQ g1;by_cases g2:(n1:Int)<=x.host
   ·have dg2:decide ((n1:Int)<=x.host)=true:=uQ g2;have HX:Hid (r=false):=jq (HF.out λh=>by have:=(jE.out x).1 h;omega);clear g2;go_wp2_with fail;go_ret;exact⟨ag HX.out.symm,aU.out⟩
   have dg2:decide ((n1:Int)<=x.host)=false:=tQ g2;by_cases g3:x.frm<0
   ·have dg3:decide (x.frm<0)=true:=uQ g3;have HX:Hid (r=false):=jq (HF.out λh=>by have:=(jE.out x).1 h;omega);clear g3;go_wp2_with fail;go_ret;exact⟨ag HX.out.symm,aU.out⟩
   have dg3:decide (x.frm<0)=false:=tQ g3;by_cases g4:x.til<=x.frm
   ·have dg4:decide (x.til<=x.frm)=true:=uQ g4;have HX:Hid (r=false):=jq (HF.out λh=>by have:=(jE.out x).1 h;omega);clear g4;go_wp2_with fail;go_ret;exact⟨ag HX.out.symm,aU.out⟩
   have dg4:decide (x.til<=x.frm)=false:=tQ g4;by_cases g5:stop<x.til
   ·have dg5:decide (stop<x.til)=true:=uQ g5;have HX:Hid (r=false):=jq (HF.out λh=>by have:=(jE.out x).1 h;omega);clear g5;go_wp2_with fail;go_ret;exact⟨ag HX.out.symm,aU.out⟩
   have dg5:decide (stop<x.til)=false:=tQ g5;have Au:Hid ((0<=x.host/\x.host<n1)/\(0<=x.frm/\x.frm<x.til/\x.til<=stop)):=jq (by omega);clear g1 g2 g3 g4 g5;go_wp2_with fail;refine (aFZ sn cB _ x.zone.sets Be.out w4 vU.out).mono ?_;rintro e w5 ⟨rfl,aH⟩;have ik:w4.heap.size<=w5.heap.size:=aH.size;have s0:w5.cell? ⟨wr.heap.size,0,none⟩=some (.int .i64 x.host):=aaJ aH p0;have s1:w5.cell? ⟨wr.heap.size,1,none⟩=some (.int .i64 x.frm):=aaJ aH p1;have s2:w5.cell? ⟨wr.heap.size,2,none⟩=some (.int .i64 x.til):=aaJ aH p2;have s3:w5.cell? ⟨wr.heap.size,3,none⟩=some (.string sn):=aaJ aH p3;have s4:w5.cell? ⟨wr.heap.size,4,none⟩=some (.slice Az nz cz):=aaJ aH p4;have t1:w5.cell? ⟨X,1,none⟩=some (.slice (some ⟨b,o,none⟩) n2 c2):=aaJ aH u1;have bN:=acZ aU aH;have TP:=acZ Gz aH;clear aH p0 p1 p2 p3 p4 bY f0 f1 f2 f3 f4 u0 u1 u8 q0 q1 q8;obtain⟨rz,fy⟩:=acJ (Np.yes (Np.VZone ⟨sn.data.toList,x.zone.sets⟩));rw[fy];have ja:=jq fy;clear fy
   cases rz with
   | false=>
    have HX:Hid (r=false):=jq (HF.out λh=>by
     have h1:=((jE.out x).1 h).2.2;have h2:x.zone=⟨sn.data.toList,x.zone.sets⟩:=by rw[aT.out]
     rw[h2] at h1;have h3:=Np.bh h1;rw[ja.out] at h3
     cases h3)
    go_wp2_with fail;go_ret;exact⟨ag HX.out.symm,bN.out⟩
   | true=>
    have iU:Hid (Np.CopyOk jh x):=jq ((jE.out x).2 ⟨Au.out.1,Au.out.2,by
     have h2:x.zone=⟨sn.data.toList,x.zone.sets⟩:=by rw[aT.out]
     rw[h2];exact Np.fq.1 ja.out⟩)
    have Hq:Hid (∀ c∈l.take (k+1),Np.CopyOk jh c):=jq (λc hc=>by
     rw[HT.out] at hc;rcases List.mem_append.1 hc with hc | hc
     ·exact bH.out c hc
     ·rw[List.mem_singleton] at hc;subst hc;exact iU.out)
    obtain⟨Y,hY⟩:=acJ wr.heap.size;rw[hY] at s0 s1 s2 s3 s4 y7 fl;have BO:Y<w5.heap.size:=by omega
    have bdX:w3.heap.size<=w5.heap.size:=by omega
    obtain⟨wo,rfl⟩:=acY wr;go_wp2_with fail;go_loopw [5] (λjv wi=>∃ (j:Nat),j<=k/\jv = .int .i64 j/\Hid (Below w5.heap.size w5 wi)/\Hid (∀ (t:Nat) (y:Np.Copy),t<j->l[t]?=some y->¬ Np.kH y x)) (λjv _=>k - (intOf jv).toNat)
    case atStart=>exact⟨0,jQ _,rfl,jq (vQ _ _),jq (λt y ht=>by omega)⟩
    case round=>
     obtain⟨j,uo,rfl,cw,HQ⟩:=hrel;have uN:=cw.out.size;by_cases hj:j<k
     ·obtain⟨y,dR⟩:∃ y,l[j]?=some y:=⟨_,aQ (by rw[da.out];omega)⟩;have kJ:=acZ bN cw.out;obtain⟨b',o',sy,vy,dP,BT,gk,bbX,CN,f0,f1,f2,f3,f4⟩:=t8 (HD.out.keep mp kJ.out) dR
      cases dP
      obtain⟨Ay,cy,rfl,_,_⟩:=ak CN;obtain⟨ny,sV⟩:=acJ y.zone.sets.length;rw[sV] at f4;have e0:=(cw.out.cell (p:=⟨Y,0,none⟩) BO).trans s0;have e1:=(cw.out.cell (p:=⟨Y,1,none⟩) BO).trans s1;have e2:=(cw.out.cell (p:=⟨Y,2,none⟩) BO).trans s2;have e3:=(cw.out.cell (p:=⟨Y,3,none⟩) BO).trans s3;have e4:=(cw.out.cell (p:=⟨Y,4,none⟩) BO).trans s4;have m1:=aaJ cw.out t1;have O4:Y<wr.heap.size:=by omega
      have a2Z:X<wr.heap.size:=by omega
      have Yq:b<wr.heap.size:=by omega
      have tO:=jq gk;have aY:Hid (∀ o,Below w5.heap.size w5 (wr.alloc o)):=jq (λo=>cw.out.alloc (by omega) _);have HAT:Hid (∀ o,Below X w (wr.alloc o)):=jq (λo=>kJ.out.alloc (by omega) _);have qU:Hid (¬ Np.kH y x->∀ (t:Nat) (z:Np.Copy),t<j+1->l[t]?=some z->¬ Np.kH z x):=jq (λhn t z ht hz=>by
       by_cases e:t=j
       ·subst e;rw[dR] at hz;cases hz;exact hn
       ·exact HQ.out t z (by omega) hz)
      have Bd:Hid (Np.kH y x->r=false):=jq (λhc=>vx.out j y hj dR hc);have a6Q:(0:Int)<=(j:Int):=by omega
      have nU:(j:Int)<(n2:Int):=by omega
      have a6Z:j<n2:=by omega
      clear dR gk CN sV;by_cases h1:y.host=x.host
      case neg=>
       have eb0:(y.host == x.host)=false:=by simpa using h1
       have ed0:decide (y.host=x.host)=false:=tQ h1;have HX:=jq (qU.out (λhc=>h1 hc.1));clear h1;go_wp2_with fail;go_roundw
       case rel=>exact⟨j+1,by omega,by go_num,jq (aY.out _),HX⟩
       case measure=>simp[intOf] <;> omega
      have eb0:(y.host == x.host)=true:=by simpa using h1
      have ed0:decide (y.host=x.host)=true:=uQ h1;by_cases h2:sy.toList=sn.toList
      case neg=>
       have eb1:(sy.toList == sn.toList)=false:=by simpa using h2
       have HX:=jq (qU.out (λhc=>h2 (by rw[dQ,dQ,tO.out,aT.out];exact hc.2.1)));clear h2;go_wp2_with fail;go_roundw
       case rel=>exact⟨j+1,by omega,by go_num,jq (aY.out _),HX⟩
       case measure=>simp[intOf] <;> omega
      have eb1:(sy.toList == sn.toList)=true:=by simpa using h2
      by_cases h3:y.frm<x.til
      case neg=>
       have ed2:decide (y.frm<x.til)=false:=tQ h3;have HX:=jq (qU.out (λhc=>h3 hc.2.2.1));clear h3;go_wp2_with fail;go_roundw
       case rel=>exact⟨j+1,by omega,by go_num,jq (aY.out _),HX⟩
       case measure=>simp[intOf] <;> omega
      have ed2:decide (y.frm<x.til)=true:=uQ h3;by_cases h4:x.frm<y.til
      case neg=>
       have ed3:decide (x.frm<y.til)=false:=tQ h4;have HX:=jq (qU.out (λhc=>h4 hc.2.2.2));clear h4;go_wp2_with fail;go_roundw
       case rel=>exact⟨j+1,by omega,by go_num,jq (aY.out _),HX⟩
       case measure=>simp[intOf] <;> omega
      have ed3:decide (x.frm<y.til)=true:=uQ h4;have HX:Hid (r=false):=jq (Bd.out ⟨h1,by rw[<-tO.out,<-aT.out,<-dQ,<-dQ];exact h2,h3,h4⟩);clear h1 h2 h3 h4;go_wp2_with fail;go_ret;exact⟨ag HX.out.symm,HAT.out _⟩
     ·have UJ:Hid ((l.take (k+1)).Pairwise λc d=>¬ Np.kH c d):=jq (by
       rw[HT.out,List.pairwise_append];refine⟨lz.out,by simp,λc hc d hd=>?_⟩;rw[List.mem_singleton] at hd;subst hd;obtain⟨t,ht,rfl⟩:=nQ.1 hc;rw[List.length_take] at ht;rw[List.getElem_take];exact HQ.out t _ (by omega) (aQ (by omega)))
      go_wp2_with fail;go_roundw
      case rel=>exact⟨k+1,by omega,by go_num,by omega,acZ TP cw.out,Hq,UJ⟩
      case measure=>simp[intOf] <;> omega
  ·have f9:Hid (l.take k=l):=jq (kQ (by rw[da.out];omega));have AH:Hid (∀ c∈l,Np.CopyOk jh c):=jq (by have:=bH.out;rwa [f9.out] at this);have UK:Hid (l.Pairwise λc d=>¬ Np.kH c d):=jq (by have:=lz.out;rwa [f9.out] at this);go_wp2_with fail;refine (RV _ l (by rw[da.out];omega) (λc hc=>?_) _ ((HD.out.keep mp HB.out).more xX (by omega))).mono ?_
   ·have h1:=((jE.out c).1 (AH.out c hc)).2.2.right;unfold Np.fK at h1;simp only[Bool.and_eq_true] at h1;exact yQ (rP h1.1.1) (by omega)
   rintro e w13 ⟨v13,rfl,Cu,BR⟩;obtain⟨A13,c13,rfl⟩:=cF.form Cu;have ng:=acZ HB BR;have JY:(Np.apexes l).length<=500:=by
    rw[<-Np.IK]
    have:=I1 (l.map (·.zone.apex)) []
    rw[List.length_map,da.out] at this;simp at this;omega
   obtain⟨m13,Cp⟩:=acJ ((Np.apexes l).length);rw[Cp] at JY |-;have d13:decide ((m13:Int)<=500)=true:=adK;clear Cu BR Cp;go_wp2_with fail;go_ret;exact⟨ag (by rw[<-HR.out];exact (Np.bh ⟨⟨⟨⟨Np.fq.1 tR.out,Np.fq.1 Bc.out⟩,Gp.out⟩,AH.out⟩,UK.out⟩).symm),ng.out⟩

theorem aJJ(u v:Value)(xs:List Np.Signed)(w:World)(hu:SlR bO 5 w w.heap.size u xs)(hv:SlR bO 5 w w.heap.size v xs) :
 Calls prog 33 #[u,v] w (a0X w.heap.size w (.bool true)):=by
 have HU:=jq hu;have HV:=jq hv;obtain⟨A,c,rfl,bq,bM⟩:=ak hu;obtain⟨A2,c2,rfl,fI,eU⟩:=ak hv;clear hu hv;have xm:((xs.length:Int) != (xs.length:Int))=false:=by simp
 go_enter func33,ntmps33;go_wp2_with fail;go_loopw [5] (λi wr=>∃ k:Nat,k<=xs.length/\i = .int .i64 k/\Hid (Below w.heap.size w wr)) (λi _=>xs.length - (intOf i).toNat)
 case atStart=>exact⟨0,jQ _,rfl,jq (vQ _ _)⟩
 case round=>
  obtain⟨k,hk,rfl,HB⟩:=hrel;by_cases ab:k<xs.length
  ·obtain⟨b,o,c',s,dv,sv,hA,hb,_,hs,an,aK,aS,e0,e1,e2,e3,e4⟩:=fE (HU.out.later bj cC HB.out) (aQ ab)
   cases hA
   obtain⟨b2,o2,c2',s',dv',sv',hA,ac,_,hs',cB,wL,xw,f0,f1,f2,f3,f4⟩:=fE (HV.out.later bj cC HB.out) (aQ ab);simp only[Value.slice.injEq] at hA;obtain⟨rfl,_,rfl⟩:=hA;have eW:s'=s:=j9 (by rw[hs,hs']);subst eW;generalize xs[k]=x at *;have im:=jq aK;have GJ:=jq wL;have pR:=jq aS;have Ih:=jq xw;obtain⟨S1,m1,rfl,_,_⟩:=ak aS;obtain⟨S2,m2,rfl,_,_⟩:=ak xw;obtain⟨D1,n1,rfl,_,_⟩:=ak aK;obtain⟨D2,n2,rfl,_,_⟩:=ak wL;have bJ:(0:Int)<=(k:Int):=by omega
   have bI:(k:Int)<(xs.length:Int):=by omega
   have k9:∀ (g:bk wr) (p:Addr),p.block<wr.heap.size->g.w.cell? p=wr.cell? p:=λg p h=>g.cell p h;have bL:∀ g:bk wr,Calls prog 20 #[.agg #[.string s',.int .i64 x.set.type,.int .i64 x.set.life,.slice D1 x.set.data.length n1,.slice S1 x.sigs.length m1],.agg #[.string s',.int .i64 x.set.type,.int .i64 x.set.life,.slice D2 x.set.data.length n2,.slice S2 x.sigs.length m2]] g.w λe w'=>e = .returned (.bool true)/\Below g.w.heap.size g.w w':=λg=>
    (FU s' s' _ _ _ _ _ _ _ _ x.set.data x.set.data x.sigs x.sigs g.w (im.out.later bV cu g.below) (GJ.out.later bV cu g.below) (pR.out.later cg cY g.below) (Ih.out.later cg cY g.below)).mono λe w' h=>⟨by rw[h.1];simp,h.2⟩
   have jC:=jq bL;clear bL hs hs' aS xw aK wL an cB;go_wp2_with fail;refine a0Z ?_
   repeat (go_big_quiet_step ((go_at_call 20;exact Calls.grow_of (jC.out _))))
   refine wpQuiet_nil ?_;rintro _ ⟨g,rfl⟩;go_wp2_with fail;go_roundw
   case rel=>exact⟨k+1,by omega,by go_num,jq (HB.out.trans (g.below.mono HB.out.size))⟩
   case measure=>simp[intOf] <;> omega
  ·go_wp2_with fail;go_ret;exact⟨rfl,HB.out⟩
def db(W:World)(B:Nat)(e:List Value)(x:Np.Held):Prop:=∃ (z s:ByteArray) (dv sv fv pv:Value),e = [.string z,.string s,.int .i64 x.signed.set.type,.int .i64 x.signed.set.life,dv,sv,fv,pv]/\z.data.toList=x.zone/\z.size<=140737488355328/\s.data.toList=x.signed.set.name/\s.size<=140737488355328/\
 SlR bR 3 W B dv x.signed.set.data/\SlR cS 6 W B sv x.signed.sigs/\SlR cT 2 W B fv x.fresh/\SlR cT 2 W B pv x.spans
theorem eY:ep db:=λ_ _ _ _ _ ⟨z,s,dv,sv,fv,pv,h0,h1,h2,h3,h4,h5,h6,h7,h8⟩ hb=>⟨z,s,dv,sv,fv,pv,h0,h1,h2,h3,h4,h5.keep bV hb,h6.keep cg hb,h7.keep eE hb,h8.keep eE hb⟩
theorem eZ:eL db:=λ_ _ _ _ _ ⟨z,s,dv,sv,fv,pv,h0,h1,h2,h3,h4,h5,h6,h7,h8⟩ hb=>⟨z,s,dv,sv,fv,pv,h0,h1,h2,h3,h4,h5.more cu hb,h6.more cY hb,h7.more jk hb,h8.more jk hb⟩
theorem wM{w:World}{B n c:Nat}{A:Option Addr}{xs:List Np.Held}(h:SlR db 8 w B (.slice A n c) xs){k:Nat}{x:Np.Held}(hx:xs[k]?=some x):∃ (b o:Nat) (z s:ByteArray) (dv sv fv pv:Value),A=some ⟨b,o,none⟩/\b<B/\z.data.toList=x.zone/\s.data.toList=x.signed.set.name/\
 SlR bR 3 w B dv x.signed.set.data/\SlR cS 6 w B sv x.signed.sigs/\SlR cT 2 w B fv x.fresh/\SlR cT 2 w B pv x.spans/\
 w.cell? ⟨b,o+k * 8,none⟩=some (.string z)/\w.cell? ⟨b,o+k * 8+1,none⟩=some (.string s)/\w.cell? ⟨b,o+k * 8+2,none⟩=some (.int .i64 x.signed.set.type)/\w.cell? ⟨b,o+k * 8+3,none⟩=some (.int .i64 x.signed.set.life)/\w.cell? ⟨b,o+k * 8+4,none⟩=some dv/\w.cell? ⟨b,o+k * 8+5,none⟩=some sv/\w.cell? ⟨b,o+k * 8+6,none⟩=some fv/\w.cell? ⟨b,o+k * 8+7,none⟩=some pv:=by
 obtain⟨A',c',hA',_,_,bU⟩:=h
 cases hA'
 obtain⟨b,o,e,hA,bB,hlen,hce,z,s,dv,sv,fv,pv,he,h1,_,h3,_,h5,h6,h7,h8⟩:=bU k _ hx;subst he;exact⟨b,o,z,s,dv,sv,fv,pv,hA,bB,h1,h3,h5,h6,h7,h8,hce 0 _ rfl,hce 1 _ rfl,hce 2 _ rfl,hce 3 _ rfl,hce 4 _ rfl,hce 5 _ rfl,hce 6 _ rfl,hce 7 _ rfl⟩
theorem aJZ(u v:Value)(xs:List Np.Held)(w:World)(hu:SlR db 8 w w.heap.size u xs)(hv:SlR db 8 w w.heap.size v xs) :
 Calls prog 32 #[u,v] w (a0X w.heap.size w (.bool true)):=by
 have HU:=jq hu;have HV:=jq hv;obtain⟨A,c,rfl,bq,bM⟩:=ak hu;obtain⟨A2,c2,rfl,fI,eU⟩:=ak hv;clear hu hv;have xm:((xs.length:Int) != (xs.length:Int))=false:=by simp
 go_enter func32,ntmps32;go_wp2_with fail;go_loopw [5] (λi wr=>∃ k:Nat,k<=xs.length/\i = .int .i64 k/\Hid (Below w.heap.size w wr)) (λi _=>xs.length - (intOf i).toNat)
 case atStart=>exact⟨0,jQ _,rfl,jq (vQ _ _)⟩
 case round=>
  obtain⟨k,hk,rfl,HB⟩:=hrel;by_cases ab:k<xs.length
  ·obtain⟨b,o,z,s,dv,sv,fv,pv,rfl,hb,hz,hs,aK,aS,jg,jj,e0,e1,e2,e3,e4,e5,e6,e7⟩:=wM (HU.out.later eY eZ HB.out) (aQ ab);obtain⟨b',o',z',s',dv',sv',fv',pv',rfl,hb',hz',hs',wL,xw,JQ,Kc,f0,f1,f2,f3,f4,f5,f6,f7⟩:=wM (HV.out.later eY eZ HB.out) (aQ ab);have eW:s'=s:=j9 (by rw[hs,hs']);subst eW;have uO:z'=z:=j9 (by rw[hz,hz']);subst uO;generalize xs[k]=x at *;have im:=jq aK;have GJ:=jq wL;have pR:=jq aS;have Ih:=jq xw;have vF:=jq jg;have T5:=jq JQ;have pN:=jq jj;have UI:=jq Kc;obtain⟨S1,m1,rfl,_,_⟩:=ak aS;obtain⟨S2,m2,rfl,_,_⟩:=ak xw;obtain⟨D1,n1,rfl,_,_⟩:=ak aK;obtain⟨D2,n2,rfl,_,_⟩:=ak wL;obtain⟨F1,p1,rfl,_,_⟩:=ak jg;obtain⟨F2,p2,rfl,_,_⟩:=ak JQ;obtain⟨G1,q1,rfl,_,_⟩:=ak jj;obtain⟨G2,q2,rfl,_,_⟩:=ak Kc;have bJ:(0:Int)<=(k:Int):=by omega
   have bI:(k:Int)<(xs.length:Int):=by omega
   have xP:(z'.toList == z'.toList)=true:=by simp
   have k9:∀ (g:bk wr) (p:Addr),p.block<wr.heap.size->g.w.cell? p=wr.cell? p:=λg p h=>g.cell p h;have bL:∀ g:bk wr,Calls prog 20 #[.agg #[.string s',.int .i64 x.signed.set.type,.int .i64 x.signed.set.life,.slice D1 x.signed.set.data.length n1,.slice S1 x.signed.sigs.length m1],.agg #[.string s',.int .i64 x.signed.set.type,.int .i64 x.signed.set.life,.slice D2 x.signed.set.data.length n2,.slice S2 x.signed.sigs.length m2]] g.w λe w'=>e = .returned (.bool true)/\Below g.w.heap.size g.w w':=λg=>
    (FU s' s' _ _ _ _ _ _ _ _ x.signed.set.data x.signed.set.data x.signed.sigs x.signed.sigs g.w (im.out.later bV cu g.below) (GJ.out.later bV cu g.below) (pR.out.later cg cY g.below) (Ih.out.later cg cY g.below)).mono λe w' h=>⟨by rw[h.1];simp,h.2⟩
   have Pk:∀ g:bk wr,Calls prog 21 #[.slice F1 x.fresh.length p1,.slice F2 x.fresh.length p2] g.w λe w'=>e = .returned (.bool true)/\Below g.w.heap.size g.w w':=λg=>
    (FV _ _ x.fresh x.fresh g.w (vF.out.later eE jk g.below) (T5.out.later eE jk g.below)).mono λe w' h=>⟨by rw[h.1];simp,h.2⟩
   have BX:∀ g:bk wr,Calls prog 21 #[.slice G1 x.spans.length q1,.slice G2 x.spans.length q2] g.w λe w'=>e = .returned (.bool true)/\Below g.w.heap.size g.w w':=λg=>
    (FV _ _ x.spans x.spans g.w (pN.out.later eE jk g.below) (UI.out.later eE jk g.below)).mono λe w' h=>⟨by rw[h.1];simp,h.2⟩
   have jC:=jq bL;have TT:=jq Pk;have TU:=jq BX;clear bL Pk BX hs hs' hz hz' aS xw aK wL jg JQ jj Kc;go_wp2_with fail;refine a0Z ?_
   repeat (go_big_quiet_step (fail))
   go_big_quiet_step ((go_at_call 20;exact Calls.grow_of (jC.out _)))
   repeat (go_big_quiet_step (fail))
   go_big_quiet_step ((go_at_call 21;exact Calls.grow_of (TT.out _)))
   repeat (go_big_quiet_step (fail))
   go_big_quiet_step ((go_at_call 21;exact Calls.grow_of (TU.out _)))
   repeat (go_big_quiet_step (fail))
   refine wpQuiet_nil ?_;rintro _ ⟨g,rfl⟩;go_wp2_with fail;go_roundw
   case rel=>exact⟨k+1,by omega,by go_num,jq (HB.out.trans (g.below.mono HB.out.size))⟩
   case measure=>simp[intOf] <;> omega
  ·go_wp2_with fail;go_ret;exact⟨rfl,HB.out⟩
theorem I0{sz:Nat} : ∀ (rows:List (List Value)) (i c:Nat) (u:Value) (r:List Value),(∀ q∈rows,q.length=sz)->c<sz->rows[i]?=some r->rows.flatten.set (i * sz+c) u=(rows.set i (r.set c u)).flatten
 | [],i,c,u,r,_,_,h=>by simp at h
 | q::rows,0,c,u,r,hl,hc,h=>by
   have e:q=r:=by simpa using h
   subst e;rw[List.flatten_cons,Nat.zero_mul,Nat.zero_add,List.set_append_left _ _ (by rw[hl q (by simp)];exact hc),List.set_cons_zero,List.flatten_cons]
 | q::rows,i+1,c,u,r,hl,hc,h=>by
   have hq:=hl q (by simp);have ih:=I0 rows i c u r (λx hx=>hl x (mQ _ hx)) hc (by simpa using h);rw[List.flatten_cons,List.set_append_right _ _ (by rw[hq,Nat.succ_mul];omega),hq,show (i+1) * sz+c - sz=i * sz+c by rw[Nat.succ_mul];omega,ih,List.set_cons_succ,List.flatten_cons]
theorem br.stored{α:Type}{R:a1Z α}(hk:ep R)(hs:iJ R)(hm:eL R){sz:Nat}{e:TypeId}{base:Nat}{M:Nat->Prop}{w:World}{g n cap:Nat}{xs:List α}(h:br R sz e base M w (.slice (some ⟨g,0,none⟩) n cap) xs)(hn:xs.length=n){i c:Nat}{x y:α}(hi:xs[i]?=some x)(hc:c<sz)(u:Value)
 (hR:∀ r,r.length=sz->R (bF w M) w.heap.size r x->R (bF w M) w.heap.size (r.set c u) y):br R sz e base M (w.setCell ⟨g,i * sz+c,none⟩ u) (.slice (some ⟨g,0,none⟩) n cap) (xs.set i y):=by
 obtain⟨rows,h1,h2,h3,h4⟩:=h;subst hn;have eN:=(cQ.1 hi).1;have hr:=aQ (show i<rows.length by omega);obtain⟨r,hr'⟩:∃ r,rows[i]?=some r:=⟨_,hr⟩;have hlen:=cE.rows_len (w:=bF w M) (B:=w.heap.size) h1 h4;have qh:M g:=h3 g rfl;have xd:Leaves' M w (w.setCell ⟨g,i * sz+c,none⟩ u) M:=Leaves'.setCell M w qh u;refine⟨rows.set i (r.set c u),by simp[h1],?_,h3,λj q z hq hz=>?_⟩
 ·rw[List.length_set,<-I0 rows i c u r hlen hc hr'];exact (World.ownsRow.stored h2 (i * sz+c) u).1
 ·rw[List.getElem?_set] at hq hz;by_cases dj:i=j
  ·subst dj;rw[Qb rfl,Qb (by omega)] at hq;rw[Qb rfl,Qb eN] at hz
   cases hq;cases hz
   obtain⟨h5,h6⟩:=h4 i r x hr' hi;exact⟨by rw[List.length_set];exact h5,xd.read hk hs hm (hR r h5 h6)⟩
  ·rw[Qc dj] at hq hz;obtain⟨h5,h6⟩:=h4 j q z hq hz;exact⟨h5,xd.read hk hs hm h6⟩
theorem br.frozenAt{α:Type}{R:a1Z α}{sz:Nat}{e:TypeId}{base:Nat}{M:Nat->Prop}{w:World}{g n cap:Nat}{xs:List α}(h:br R sz e base M w (.slice (some ⟨g,0,none⟩) n cap) xs)(hn:xs.length=n)(j:Nat):w.frozen? ⟨g,j,none⟩=false:=by
 obtain⟨rows,h1,h2,_⟩:=h;subst hn;exact World.ownsRow.frozenAt h2 j
theorem fp:iJ db:=λ_ _ _ _ _ _ hM ⟨z,s,dv,sv,fv,pv,h0,h1,h2,h3,h4,h5,h6,h7,h8⟩=>⟨z,s,dv,sv,fv,pv,h0,h1,h2,h3,h4,h5.sans C1 hM,h6.sans zJ hM,h7.sans (λ_ _ _ _ _ _ _ h=>h) hM,h8.sans (λ_ _ _ _ _ _ _ h=>h) hM⟩
theorem Lc:∀ (w:World) (B:Nat) (r:List Value) (y:Np.Held),db w B r y->∀ u∈r,u.oneCell'=true:=λw B r y ⟨z,s,dv,sv,fv,pv,h0,_,_,_,_,h5,h6,h7,h8⟩ u hu=>by
 obtain⟨_,_,rfl,_⟩:=ak h5;obtain⟨_,_,rfl,_⟩:=ak h6;obtain⟨_,_,rfl,_⟩:=ak h7;obtain⟨_,_,rfl,_⟩:=ak h8;rw[h0] at hu;simp only[List.mem_cons,Qh,or_false] at hu;rcases hu with rfl | rfl | rfl | rfl | rfl | rfl | rfl | rfl <;> rfl
theorem R6{W:World}{B:Nat}{r:List Value}{x:Np.Held}{v:Value}{ps:List Np.Span}(h:db W B r x)(hv:SlR cT 2 W B v ps):db W B (r.set 6 v) ⟨x.zone,x.signed,ps,x.spans⟩:=by
 obtain⟨z,s,dv,sv,fv,pv,rfl,h1,h2,h3,h4,h5,h6,h7,h8⟩:=h;exact⟨z,s,dv,sv,v,pv,rfl,h1,h2,h3,h4,h5,h6,hv,h8⟩
theorem br.formSome{α:Type}{R:a1Z α}{sz:Nat}{e:TypeId}{base:Nat}{M:Nat->Prop}{w:World}{v:Value}{xs:List α}{n:Nat}(h:br R sz e base M w v xs)(hn:xs.length=n)(h0:0<n):∃ g cap,v = .slice (some ⟨g,0,none⟩) n cap/\base<=g/\g<w.heap.size/\M g:=by
 obtain⟨rows,h1,h2,h3,h4⟩:=h;subst hn;rcases h2.2 with ⟨rfl,h⟩ | ⟨g,cap,cur,rfl,hb,hg,_⟩
 ·omega
 ·exact⟨g,cap,rfl,hb,(eQ.1 hg).1,h3 g rfl⟩
theorem Pw{base:Nat}{M:Nat->Prop}{w:World}{g n cap:Nat}{xs:List Np.Held}(h:br db 8 57 base M w (.slice (some ⟨g,0,none⟩) n cap) xs)(hl:xs.length<=140737488355328){k:Nat}{x:Np.Held}(hx:xs[k]?=some x):∃ (z s:ByteArray) (dv sv fv _pv:Value),z.data.toList=x.zone/\s.data.toList=x.signed.set.name/\
 SlR bR 3 w w.heap.size dv x.signed.set.data/\SlR cS 6 w w.heap.size sv x.signed.sigs/\SlR cT 2 w w.heap.size fv x.fresh/\
 w.cell? ⟨g,k * 8+1,none⟩=some (.string s)/\w.cell? ⟨g,k * 8+2,none⟩=some (.int .i64 x.signed.set.type)/\w.cell? ⟨g,k * 8+3,none⟩=some (.int .i64 x.signed.set.life)/\w.cell? ⟨g,k * 8+4,none⟩=some dv/\w.cell? ⟨g,k * 8+5,none⟩=some sv/\w.cell? ⟨g,k * 8+6,none⟩=some fv:=by
 obtain⟨b,o,z,s,dv,sv,fv,pv,hA,hb,hz,hs,aK,aS,jg,jj,e0,e1,e2,e3,e4,e5,e6,e7⟩:=wM (h.slr fp hl) hx;simp only[Option.some.injEq,Addr.mk.injEq,and_true] at hA;obtain⟨rfl,rfl⟩:=hA;simp only[Nat.zero_add] at e0 e1 e2 e3 e4 e5 e6 e7;exact⟨z,s,dv,sv,fv,pv,hz,hs,aK,aS,jg,e1,e2,e3,e4,e5,e6⟩
def hsN(zone:List UInt8)(ps:List (Np.Span×Np.Signed)):List Np.Held:=Np.me Np.bT zone ps
def Dh(ps:List (Np.Span×Np.Signed)):Prop:=∀ p∈ps,p.1.frm<p.1.til
theorem Qt(zone:List UInt8)(ps:List (Np.Span×Np.Signed)):(hsN zone ps).length<=ps.length:=by
 unfold hsN;rw[Np.Pv]
 have:=Np.tr (ps.map (·.2))
 rwa [List.length_map] at this
theorem Qs{zone:List UInt8}{ps:List (Np.Span×Np.Signed)}{i:Nat}{x:Np.Held}(h:(hsN zone ps)[i]?=some x):x=⟨zone,x.signed,Np.bT (Np.fd ps x.signed),[]⟩/\(Np.cj (ps.map (·.2)))[i]?=some x.signed:=by
 obtain⟨s,h1,rfl⟩:=Np.Pu.1 h;exact⟨rfl,h1⟩
theorem zN{ps:List (Np.Span×Np.Signed)}(h:Dh ps)(s:Np.Signed):Np.pC (Np.fd ps s):=λ_ ht=>h _ (Np.Fw.1 ht)
theorem Lw(ps:List (Np.Span×Np.Signed))(s:Np.Signed):(Np.fd ps s).length<=ps.length:=by
 unfold Np.fd;rw[List.length_map];exact List.length_filter_le _ _
theorem ZO{zone:List UInt8}{ps:List (Np.Span×Np.Signed)}(hf:Dh ps){i:Nat}{x:Np.Held}(hx:(hsN zone ps)[i]?=some x){sp:Np.Span}(zw:sp.frm<sp.til):(hsN zone ps).set i ⟨x.zone,x.signed,Np.bT (x.fresh ++ [sp]),x.spans⟩=hsN zone (ps ++ [(sp,x.signed)]):=by
 obtain⟨h1,h2⟩:=Qs hx;unfold hsN;rw[Np.YN (p:=(sp,x.signed)) h2];rw[<-aoX (zN hf _) zw];have e:x.fresh=Np.bT (Np.fd ps x.signed):=by rw[h1]
 have e2:x.zone=zone:=by rw[h1]
 have e3:x.spans = []:=by rw[h1]
 rw[e,e2,e3]
theorem ZN{zone:List UInt8}{ps:List (Np.Span×Np.Signed)}{s:Np.Signed}(hn:∀ x∈hsN zone ps,x.signed≠s){sp:Np.Span} : (hsN zone ps ++ [(⟨zone,s,[],[]⟩:Np.Held)]).set (hsN zone ps).length (⟨zone,s,Np.bT ([] ++ [sp]),[]⟩:Np.Held)=hsN zone (ps ++ [(sp,s)]):=by
 have h:s∉Np.cj (ps.map (·.2)):=λhm=>by
  obtain⟨i,hi⟩:=List.mem_iff_getElem?.1 hm;have h2:(hsN zone ps)[i]?=some ⟨zone,s,Np.bT (Np.fd ps s),[]⟩:=Np.Pu.2 ⟨s,hi,rfl⟩;exact hn _ (gQ h2) rfl
 unfold hsN at hn |-;rw[Np.YM (p:=(sp,s)) h,List.set_append_right _ _ (bQ _),Nat.sub_self];rfl
end
section
open Go.RowKit Go.MapKept Go.Shelf
theorem SW{k:Int}{l:List UInt8}(h:Np.yc k l=true):l.length<=60:=by
 unfold Np.yc at h;split at h
 ·simp only[Bool.and_eq_true] at h;exact (Np.tj h.1).1
 ·split at h
  ·exact (Np.tj h).1
  ·split at h
   ·unfold Np.kD at h;simp only[Bool.and_eq_true,Qa] at h;omega
   ·have:l = []:=by simpa using h
    rw[this];simp
theorem Se(k:Int):(Np.ci k).mostN<=1000000/\(Np.ci k).mostM<=1000000:=by
 unfold Np.ci;generalize k.toNat=n;by_cases h:n<9
 ·have:∀ m,m<9->(Np.rules.getD m ⟨0,0,0,0,0,false,false,false⟩).mostN<=1000000/\(Np.rules.getD m ⟨0,0,0,0,0,false,false,false⟩).mostM<=1000000:=by decide
  exact this n h
 ·have e:Np.rules[n]?=none:=List.getElem?_eq_none (by simp[Np.rules];omega);rw[List.getD_eq_getElem?_getD,e];decide
theorem Tk{z:Np.Zone}(v:Np.VZone z){x:Np.Signed}(hx:x∈z.sets)(hs:Np.ra x):KeyS x:=by
 obtain⟨ha,hv⟩:=Np.zT v;obtain⟨h1,h2,h3,h4,h5,h6,h7,h8⟩:=Np.tu (hv x hx);have hf:=v.form x hx;refine⟨by have:=(Np.tj h1).1;omega,by omega,by omega,by omega,λd hd=>?_,by have:=hf.1;omega,λg hg=>?_⟩
 ·have hd':=Np.Bx h8 d hd;have hd'':=hd';unfold Np.kb at hd'';simp only[Bool.and_eq_true,Qa] at hd'';obtain⟨⟨⟨⟨a1,a2⟩,a3,a4⟩,_⟩,a5⟩:=hd'';have b1:=Np.Lf x.set.type;have b2:=Se x.set.type;have b3:=SW a5;exact⟨by omega,by omega,by omega⟩
 ·obtain⟨i,hi⟩:=List.mem_iff_getElem?.1 hg
  have:=hf.2 i g hi
  have Bz:=(Np.tj ha).1;have k1:=this.key;have k2:=this.alg;have k3:=this.win;exact⟨by rw[this.zone];omega,by omega,by omega,by omega,by omega,hs g hg⟩
theorem aIQ{P:Program}(w:World)(t kt et:TypeId)(ht:P.underlying t=some (.map kt et))(hk:P.underlying kt=some .string)(r:Nat)(kvs:List (List UInt8×Value))(hr:dG r kvs w)(key:List UInt8)(z:Value)(hz:(zeroValue et).run P w = .ok z w) :
 (Instr.lookup t (.map (some r)) (aA key) true).run P w = .ok (.tuple #[(kvs.lookup key).getD z,.bool (kvs.lookup key).isSome]) w:=by
 obtain⟨es,c,hr,he⟩:=hr;have hf:=Ec key es.toList kvs 0 he;have hc:∀ b,(Instr.checkKey b 10000 kt (aA key)).run P w = .ok () w:=λb=>MapKept.run_checkKey (k:=aA key) hk (by simp[MapKept.IsKey]) b 9999
 cases hl:kvs.lookup key with
 | none=>simp[Instr.lookup,run_underlying ht,MapKept.run_getObj_map hr,hc,MapKept.run_findKey hk (hf.2 hl),Result.andThen,hz]
 | some v=>
  obtain⟨j,hj⟩:=hf.1 v hl;simp[Instr.lookup,run_underlying ht,MapKept.run_getObj_map hr,hc,MapKept.run_findKey hk hj,Result.andThen]
theorem Sj{P:Program}(w:World)(t kt et:TypeId)(ht:P.underlying t=some (.map kt et))(hk:P.underlying kt=some .string)
 (r:Nat) (kvs:List (List UInt8×Value)) (hr:dG r kvs w) (key:List UInt8) (val:Value) (ii:kvs.lookup key=none) :
 ∃ w',(Instr.mapUpdate t (.map (some r)) (aA key) val).run P w = .ok () w'/\dG r (kvs ++ [(key,val)]) w'/\Turned r w w':=by
 obtain⟨es,c,hr,he⟩:=hr;have hf:=(Ec key es.toList kvs 0 he).2 ii;have hc:(Instr.checkKey false 10000 kt (aA key)).run P w = .ok () w:=MapKept.run_checkKey (k:=aA key) hk (by simp[MapKept.IsKey]) false 9999;have dS:(Instr.mapUpdate t (.map (some r)) (aA key) val).run P w = .ok () { w with heap:=w.heap.setIfInBounds r (.map (es.push { key:=aA key,val:=val,born:=c }) (c+1)) }:=by
  simp[Instr.mapUpdate,run_underlying ht,MapKept.run_getObj_map hr,hc,MapKept.run_findKey hk hf,MapKept.run_setObj_map _ hr,Result.andThen]
 have hl:r<w.heap.size:=(eQ.1 hr).1;exact⟨_,dS,⟨_,_,by simp[hl];exact⟨rfl,rfl⟩,by simp[he]⟩,⟨rfl,rfl,rfl,by simp,λi hi=>by simp[Ne.symm hi]⟩⟩
theorem dG.stays{r:Nat}{kvs:List (List UInt8×Value)}{w w':World}(h:dG r kvs w)(hb:w'.heap[r]?=w.heap[r]?):dG r kvs w':=by
 obtain⟨es,c,h,h2⟩:=h;exact⟨es,c,hb.trans h,h2⟩
abbrev PT:=Np.Signed×List Np.Span×Value
def q9(zn:ByteArray)(w:World)(B:Nat)(r:List Value)(x:PT):Prop:=∃ (s:ByteArray) (dv sv:Value) (A:Option Addr) (n c:Nat),r = [.string zn,.string s,.int .i64 x.1.set.type,.int .i64 x.1.set.life,dv,sv,x.2.2,.slice none 0 0]/\x.2.2 = .slice A n c/\s.data.toList=x.1.set.name/\s.size<=140737488355328/\
 SlR bR 3 w B dv x.1.set.data/\SlR cS 6 w B sv x.1.sigs
theorem FO(zn:ByteArray):ep (q9 zn):=λ_ _ _ _ _ ⟨s,dv,sv,A,n,c,h0,h1,h2,h3,h4,h5⟩ hb=>⟨s,dv,sv,A,n,c,h0,h1,h2,h3,h4.keep bV hb,h5.keep cg hb⟩
theorem FP(zn:ByteArray):eL (q9 zn):=λ_ _ _ _ _ ⟨s,dv,sv,A,n,c,h0,h1,h2,h3,h4,h5⟩ hb=>⟨s,dv,sv,A,n,c,h0,h1,h2,h3,h4.more cu hb,h5.more cY hb⟩
theorem FQ(zn:ByteArray):iJ (q9 zn):=λ_ _ _ _ _ _ hM ⟨s,dv,sv,A,n,c,h0,h1,h2,h3,h4,h5⟩=>⟨s,dv,sv,A,n,c,h0,h1,h2,h3,h4.sans C1 hM,h5.sans zJ hM⟩
theorem aGK(zn:ByteArray):∀ (w:World) (B:Nat) (r:List Value) (y:PT),q9 zn w B r y->∀ u∈r,u.oneCell'=true:=λw B r y ⟨s,dv,sv,A,n,c,h0,h1,_,_,h4,h5⟩ u hu=>by
 obtain⟨_,_,rfl,_⟩:=ak h4;obtain⟨_,_,rfl,_⟩:=ak h5;rw[h0,h1] at hu;simp only[List.mem_cons,Qh,or_false] at hu;rcases hu with rfl | rfl | rfl | rfl | rfl | rfl | rfl | rfl <;> rfl
abbrev za:TypeId:=57
structure PubR(base:Nat)(M:Nat->Prop)(zn:ByteArray)(xs:List PT)(ov:Value)(w:World):Prop where
 row:br (q9 zn) 8 za base M w ov xs
 fresh:∀ x∈xs,aJ base w x.2.2 x.2.1
 apart:∀ (i j:Nat) (x y:PT) (g:Nat),xs[i]?=some x->xs[j]?=some y->x.2.2.ownBlock=some g->y.2.2.ownBlock=some g->i=j
 off:∀ x∈xs,∀ g,x.2.2.ownBlock=some g->ov.ownBlock≠some g/\M g
def tU(xs:List PT)(ov:Value)(k:Nat):Prop:=ov.ownBlock=some k\/∃ x∈xs,x.2.2.ownBlock=some k
theorem br.inM{α:Type}{R:a1Z α}{sz:Nat}{e:TypeId}{base:Nat}{M:Nat->Prop}{w:World}{v:Value}{xs:List α}(h:br R sz e base M w v xs):∀ g,v.ownBlock=some g->M g:=by
 obtain⟨rows,h1,h2,h3,h4⟩:=h;exact h3
section
variable {base:Nat} {M:Nat->Prop} {zn:ByteArray} {xs:List PT} {ov:Value} {w:World}
theorem PubR.lt(h:PubR base M zn xs ov w){k:Nat}(hk:tU xs ov k):base<=k/\k<w.heap.size/\M k:=by
 rcases hk with hk | ⟨x,hx,hk⟩
 ·have:=h.row.lt k hk;exact⟨this.1,this.2,h.row.inM k hk⟩
 ·have:=World.ownsRow.lt (h.fresh x hx) k hk;exact⟨this.1,this.2,(h.off x hx k hk).2⟩
theorem PubR.leaves(h:PubR base M zn xs ov w){M':Nat->Prop}{w':World}(hl:Leaves' M w w' M')(hk:∀ g,tU xs ov g->w'.heap[g]?=w.heap[g]?/\M' g):PubR base M' zn xs ov w':=
 ⟨h.row.leaves (FO zn) (FQ zn) (FP zn) hl (λg hg=>hk g (.inl hg)),λx hx=>gN (h.fresh x hx) (λg hg=>(hk g (.inr ⟨x,hx,hg⟩)).1),h.apart,λx hx g hg=>⟨(h.off x hx g hg).1,(hk g (.inr ⟨x,hx,hg⟩)).2⟩⟩
theorem PubR.keep(h:PubR base M zn xs ov w){w':World}(hb:Below w.heap.size w w'):PubR base M zn xs ov w':=
 h.leaves (Leaves'.of_below hb) (λg hg=>⟨hb.block g (h.lt hg).2.1,(h.lt hg).2.2⟩)
theorem PubR.trim(h:PubR base M zn xs ov w):PubR base (λk=>M k/\k<w.heap.size) zn xs ov w:=
 h.leaves ((Leaves'.refl M w).more (λ_ e=>.inl e.1)) (λ_ hg=>⟨rfl,(h.lt hg).2.2,(h.lt hg).2.1⟩)
theorem PubR.nil(base:Nat)(M:Nat->Prop)(zn:ByteArray)(w:World):PubR base M zn [] (.slice none 0 0) w:=
 ⟨br.nil w,(λx hx=>by cases hx),(λi j x y g h=>by simp at h),(λx hx=>by cases hx)⟩
theorem PubR.pushed(h:PubR base M zn xs ov w){s:Np.Signed}{v':Value}{w':World}(ho:br (q9 zn) 8 za base (λk=>M k\/v'.ownBlock=some k) w' v' (xs ++ [(s,[],.slice none 0 0)]))(hg:w.grownBy w' ov.ownBlock)(hat:v'.ownBlock=ov.ownBlock\/v'.ownBlock=some w.heap.size) :
 PubR base (λk=>M k\/v'.ownBlock=some k) zn (xs ++ [(s,[],.slice none 0 0)]) v' w':=by
 have get:∀ (k:Nat) (z:PT) (b:Nat),(xs ++ [((s,[],Value.slice none 0 0):PT)])[k]?=some z->z.2.2.ownBlock=some b->xs[k]?=some z:=λk z b hz xP=>by
  rw[List.getElem?_append] at hz;split at hz
  ·exact hz
  ·have:=gQ hz
   rw[List.mem_singleton] at this;subst this;simp[Value.ownBlock] at xP
 refine⟨ho,λx hx=>?_,λi j x y b hx hy fw ic=>h.apart i j x y b (get i x b hx fw) (get j y b hy ic) fw ic,λx hx g qi=>?_⟩
 ·rcases List.mem_append.1 hx with hx | hx
  ·exact gN (h.fresh x hx) (λg qi=>hg.block g (World.ownsRow.lt (h.fresh x hx) g qi).2 (λe=>(h.off x hx g qi).1 e.symm))
  ·rw[List.mem_singleton] at hx;subst hx;exact aJ.nil _ _
 ·rcases List.mem_append.1 hx with hx | hx
  ·refine⟨λe=>?_,.inl (h.off x hx g qi).2⟩;rcases hat with e' | e'
   ·exact (h.off x hx g qi).1 (e' ▸ e)
   ·rw[e'] at e
    have:=(World.ownsRow.lt (h.fresh x hx) g qi).2
    have:=Option.some.inj e
    omega
  ·rw[List.mem_singleton] at hx;subst hx;simp[Value.ownBlock] at qi
theorem PubR.changed{g0 n cap:Nat}(h:PubR base M zn xs (.slice (some ⟨g0,0,none⟩) n cap) w)(hn:xs.length=n){i:Nat}{x:PT}(hi:xs[i]?=some x){v':Value}{ps':List Np.Span}{w':World}(uB:w'.os=w.os)(Z2:w'.tape=w.tape)(Zv:w'.output=w.output)(an:w.heap.size<=w'.heap.size)
 (Cb:∀ k,k<w.heap.size->x.2.2.ownBlock≠some k->w'.heap[k]?=w.heap[k]?) (ho:aJ base w' v' ps') (hat:∀ k,v'.ownBlock=some k->x.2.2.ownBlock=some k\/w.heap.size<=k) :
 PubR base (λk=>M k\/v'.ownBlock=some k) zn (xs.set i (x.1,ps',v')) (.slice (some ⟨g0,0,none⟩) n cap) (w'.setCell ⟨g0,i * 8+6,none⟩ v'):=by
 have hx:=gQ hi;have eN:=(cQ.1 hi).1;have ze:=h.row.lt g0 rfl;have xd:Leaves' M w w' (λk=>M k\/v'.ownBlock=some k):=⟨uB,Z2,Zv,an,λk hk hm=>⟨λe=>by
  rcases e with e | e
  ·exact hm e
  ·rcases hat k e with e | e
   ·exact hm (h.off x hx k e).2
   ·omega,Cb k hk (λe=>hm (h.off x hx k e).2)⟩⟩
 have ZJ:=h.row.leaves (FO zn) (FQ zn) (FP zn) xd (λg hg=>⟨Cb g (h.row.lt g hg).2 (λe=>(h.off x hx g e).1 hg),.inl (h.row.inM g hg)⟩);have ZK:=br.stored (FO zn) (FQ zn) (FP zn) (y:=(x.1,ps',v')) ZJ hn hi (c:=6) (by omega) v' (λr hr hR=>by
  obtain⟨s,dv,sv,A,n,c,rfl,h1,h2,h3,h4,h5⟩:=hR;obtain⟨A',c',rfl⟩:=zH ho;exact⟨s,dv,sv,A',_,c',rfl,rfl,h2,h3,h4,h5⟩)
 have uJ:v'.ownBlock≠some g0:=λe=>by
  rcases hat g0 e with e | e
  ·exact (h.off x hx g0 e).1 rfl
  ·omega
 have ph:∀ k,k≠g0->(w'.setCell ⟨g0,i * 8+6,none⟩ v').heap[k]?=w'.heap[k]?:=λk hk=>wQ _ _ _ _ hk;refine⟨ZK,λy hy=>?_,λa b y z g hy hz dR jL=>?_,λy hy g dR=>?_⟩
 ·obtain⟨j,hj,rfl⟩:=nQ.1 hy;rw[List.length_set] at hj;rw[List.getElem_set];split
  ·exact gN ho (λg hg=>ph g (λe=>uJ (e ▸ hg)))
  ·rename_i hne;have hj':=List.getElem_mem hj;refine gN (h.fresh _ hj') (λg hg=>(ph g (λe=>(h.off _ hj' g hg).1 (by rw[e];rfl))).trans (Cb g (World.ownsRow.lt (h.fresh _ hj') g hg).2 (λe=>hne (h.apart i j _ _ g hi (aQ hj) e hg))))
 ·have get:∀ (k:Nat) (z:PT),(xs.set i (x.1,ps',v'))[k]?=some z->(k=i/\z.2.2=v')\/(k≠i/\xs[k]?=some z):=λk z hz=>by
   rw[List.getElem?_set] at hz;split at hz
   ·rename_i e;subst e
    first | rw[Qb eN] at hz | skip
    cases hz
    exact .inl ⟨rfl,rfl⟩
   ·rename_i e;exact .inr ⟨λe'=>e e'.symm,hz⟩
  rcases get a y hy with ⟨rfl,ey⟩ | ⟨na,hy'⟩
  ·rcases get b z hz with ⟨rfl,_⟩ | ⟨nb,hz'⟩
   ·rfl
   ·rw[ey] at dR;rcases hat g dR with e | e
    ·exact h.apart a b _ _ g hi hz' e jL
    ·have:=(World.ownsRow.lt (h.fresh z (gQ hz')) g jL).2
     omega
  ·rcases get b z hz with ⟨rfl,ez⟩ | ⟨nb,hz'⟩
   ·rw[ez] at jL;rcases hat g jL with e | e
    ·exact h.apart a b _ _ g hy' hi dR e
    ·have:=(World.ownsRow.lt (h.fresh y (gQ hy')) g dR).2
     omega
   ·exact h.apart a b _ _ g hy' hz' dR jL
 ·obtain⟨j,hj,rfl⟩:=nQ.1 hy;rw[List.length_set] at hj;rw[List.getElem_set] at dR;split at dR
  ·exact⟨λe=>uJ (by rw[dR];exact e.symm ▸ rfl),.inr dR⟩
  ·exact⟨(h.off _ (List.getElem_mem hj) g dR).1,.inl (h.off _ (List.getElem_mem hj) g dR).2⟩
theorem PubR.slr(h:PubR base M zn xs ov w)(hz:zn.size<=140737488355328)(hl:xs.length<=140737488355328)(zd:∀ x∈xs,x.2.1.length<=140737488355328){Mq:Nat->Prop}(hM:∀ k,Mq k->M k/\¬ tU xs ov k):SlR db 8 (bF w Mq) w.heap.size ov (xs.map λx=>⟨zn.data.toList,x.1,x.2.1,[]⟩):=by
 obtain⟨rows,h1,h2,h3,h4⟩:=h.row;have h5:cE db 8 za base w.heap.size (bF w Mq) ov (xs.map λx=>(⟨zn.data.toList,x.1,x.2.1,[]⟩:Np.Held)):=by
  refine⟨rows,by simp[h1],?_,λi r y hr hy=>?_⟩
  ·rw[List.length_map];exact gN h2 (λg hg=>kF (λhm=>(hM g hm).2 (.inl hg)))
  ·rw[List.getElem?_map] at hy;obtain⟨x,hx,rfl⟩:=Option.map_eq_some_iff.1 hy;obtain⟨h6,s,dv,sv,A,n,c,rfl,e1,e2,e3,e4,e5⟩:=h4 i r x hr hx;have KC:=gQ hx;have h7:aJ base (bF w Mq) x.2.2 x.2.1:=gN (h.fresh x KC) (λg hg=>kF (λhm=>(hM g hm).2 (.inr ⟨x,KC,hg⟩)));have h8:=h7.slr (zd x KC);rw[j6] at h8;exact⟨h6,zn,s,dv,sv,x.2.2,.slice none 0 0,rfl,rfl,hz,e2,e3,e4.sans C1 (λk hk=>(hM k hk).1),e5.sans zJ (λk hk=>(hM k hk).1),h8,⟨none,0,rfl,by simp,by simp,λi x hx=>by simp at hx⟩⟩
 have h6:=h5.slr eZ (by rw[j6];exact bQ _) (by rw[List.length_map];exact hl);rwa [j6] at h6
end
structure PubK(S:Nat->Prop)(w2:World)(base:Nat)(zn:ByteArray)(M:Nat->Prop)(xs:List PT)(ov:Value)(w:World):Prop where
 rows:PubR base M zn xs ov w
 lt:∀ k,M k->k<w.heap.size
 ex:∀ k,k<w2.heap.size->¬ S k->M k
 own:∀ k,tU xs ov k->S k\/w2.heap.size<=k
 rd:RdStep S w2 w
section
variable {S:Nat->Prop} {w2:World} {base:Nat} {M:Nat->Prop} {zn:ByteArray} {xs:List PT} {ov:Value} {w:World}
theorem PubK.start(h:PubR base M zn xs ov w)(hex:∀ k,¬ S k->M k)(hown:∀ k,tU xs ov k->S k):PubK S w base zn (λk=>M k/\k<w.heap.size) xs ov w:=
 ⟨h.trim,λ_ e=>e.2,λk hk hs=>⟨hex k hs,hk⟩,λk e=>.inl (hown k e),RdStep.refl _ _⟩
theorem PubK.keep(h:PubK S w2 base zn M xs ov w){w':World}(hb:Below w.heap.size w w'):PubK S w2 base zn M xs ov w':=
 ⟨h.rows.keep hb,λk e=>lQ (h.lt k e) hb.size,h.ex,h.own,h.rd.then_below hb⟩
theorem PubK.touch(h:PubK S w2 base zn M xs ov w){b:Nat}(hM:M b)(hS:S b\/w2.heap.size<=b)(hn:¬ tU xs ov b){w':World}(ht:Turned b w w'):PubK S w2 base zn M xs ov w':=
 ⟨h.rows.leaves ⟨ht.os,ht.tape,ht.output,Nat.le_of_eq ht.size.symm,λk hk hm=>⟨hm,ht.block k (λe=>hm (e ▸ hM))⟩⟩ (λg hg=>⟨ht.block g (λe=>hn (e ▸ hg)),(h.rows.lt hg).2.2⟩),λk e=>by rw[ht.size];exact h.lt k e,h.ex,h.own,
  ⟨ht.os.trans h.rd.os,ht.tape.trans h.rd.tape,ht.output.trans h.rd.output,by rw[ht.size];exact h.rd.size,λk hk hs=>(ht.block k (λe=>by
   subst e;rcases hS with hS | hS
   ·exact hs hS
   ·omega)).trans (h.rd.keep k hk hs)⟩⟩
theorem PubK.push(h:PubK S w2 base zn M xs ov w){s:Np.Signed}{v':Value}{w':World}(ho:br (q9 zn) 8 za base (λk=>M k\/v'.ownBlock=some k) w' v' (xs ++ [(s,[],.slice none 0 0)]))(hg:w.grownBy w' ov.ownBlock)(hat:v'.ownBlock=ov.ownBlock\/v'.ownBlock=some w.heap.size) :
 PubK S w2 base zn (λk=>M k\/v'.ownBlock=some k) (xs ++ [(s,[],.slice none 0 0)]) v' w':=by
 refine⟨h.rows.pushed ho hg hat,λk e=>?_,λk hk hs=>.inl (h.ex k hk hs),λk e=>?_,h.rd.grown hg (λk e=>h.own k (.inl e))⟩
 ·rcases e with e | e
  ·exact lQ (h.lt k e) hg.size
  ·exact (ho.lt k e).2
 ·rcases e with e | ⟨x,hx,e⟩
  ·rcases hat with e' | e'
   ·exact h.own k (.inl (e' ▸ e))
   ·rw[e'] at e
    have:=Option.some.inj e
    have:=h.rd.size
    exact .inr (by omega)
  ·rcases List.mem_append.1 hx with hx | hx
   ·exact h.own k (.inr ⟨x,hx,e⟩)
   ·rw[List.mem_singleton] at hx;subst hx;simp[Value.ownBlock] at e
theorem PubK.changed{g0 n cap:Nat}(h:PubK S w2 base zn M xs (.slice (some ⟨g0,0,none⟩) n cap) w)(hn:xs.length=n){i:Nat}{x:PT}(hi:xs[i]?=some x){v':Value}{ps':List Np.Span}{w':World}(hg:w.grownBy w' x.2.2.ownBlock)(ho:aJ base w' v' ps')(hat:v'.ownBlock=x.2.2.ownBlock\/v'.ownBlock=some w.heap.size) :
 PubK S w2 base zn (λk=>M k\/v'.ownBlock=some k) (xs.set i (x.1,ps',v')) (.slice (some ⟨g0,0,none⟩) n cap) (w'.setCell ⟨g0,i * 8+6,none⟩ v'):=by
 have hx:=gQ hi;have y8:∀ k,v'.ownBlock=some k->x.2.2.ownBlock=some k\/w.heap.size<=k:=λk e=>by
  rcases hat with e' | e'
  ·exact .inl (e' ▸ e)
  ·rw[e'] at e;exact .inr (Nat.le_of_eq (Option.some.inj e))
 have hr:=h.rows.changed hn hi hg.os hg.tape hg.output hg.size (λk hk hne=>hg.block k hk (λe=>hne e.symm)) ho y8;have hz:(w'.setCell ⟨g0,i * 8+6,none⟩ v').heap.size=w'.heap.size:=by simp[World.setCell]
 refine⟨hr,λk e=>?_,λk hk hs=>.inl (h.ex k hk hs),λk e=>?_,(h.rd.grown hg (λk e=>h.own k (.inr ⟨x,hx,e⟩))).setCell (h.own g0 (.inl rfl)) _⟩
 ·rw[hz];rcases e with e | e
  ·exact lQ (h.lt k e) hg.size
  ·exact (World.ownsRow.lt ho k e).2
 ·rcases e with e | ⟨y,hy,e⟩
  ·exact h.own k (.inl e)
  ·rcases List.mem_or_eq_of_mem_set hy with hy | rfl
   ·exact h.own k (.inr ⟨y,hy,e⟩)
   ·rcases y8 k e with e | e
    ·exact h.own k (.inr ⟨x,hx,e⟩)
    ·have:=h.rd.size
     exact .inr (by omega)
theorem PubK.stop(h:PubK S w2 base zn M xs ov w):PubR base (λk=>M k\/¬ (S k\/(w2.heap.size<=k/\k<w.heap.size))) zn xs ov w/\(∀ k,tU xs ov k->S k\/(w2.heap.size<=k/\k<w.heap.size)):=by
 refine⟨h.rows.leaves ⟨rfl,rfl,rfl,bQ _,λk hk hm=>⟨λe=>?_,rfl⟩⟩ (λg hg=>⟨rfl,.inl (h.rows.lt hg).2.2⟩),λk e=>(h.own k e).imp id (λe2=>⟨e2,(h.rows.lt e).2.1⟩)⟩;rcases e with e | e
 ·exact hm e
 ·by_cases hs:S k
  ·exact e (.inl hs)
  ·by_cases jN:k<w2.heap.size
   ·exact hm (h.ex k jN hs)
   ·exact e (.inr ⟨by omega,hk⟩)
end
theorem LN(w:World){o:Oper}{a:Act}{K:Act->World->Prop}{Q:Exit->Act->World->Prop}(s x:Operand)(ho:o.op = .call { callee:=.builtin .append,args:=#[s,x],argTypes:=#[55,55] })
 (base:Nat) (v:Value) (ps:List Np.Span) (hs:a.eval s=v) (hown:aJ base w v ps) (blk:Nat) (f u:Int) (hx:a.eval x = .slice (some ⟨blk,0,none⟩) 1 1) (hc:w.cell? ⟨blk,0,none⟩=some (.int .i64 f)) (bq:w.cell? ⟨blk,1,none⟩=some (.int .i64 u)) (hlen:ps.length<=100000) (fh:base<=w.heap.size)
 (h:∀ v' w',aJ base w' v' (ps ++ [⟨f,u⟩])->w.grownBy w' v.ownBlock->(v'.ownBlock=v.ownBlock\/v'.ownBlock=some w.heap.size)->K (a.put o.dst v') w'):o.wp prog a w K Q:=by
 obtain⟨i0,hi,fk,bd,aN⟩:=info_parts Tryz.infoSpan;obtain⟨v',w',dS,r1,r2,_,r4⟩:=run_append_own_at (P:=prog) w base 55 o.type 110 i0 (.agg #[.int .i64 0,.int .i64 0]) 2 16 underlying55 hi fk bd aN rfl (by decide) v ps.length (ps.map gE).flatten hown ⟨blk,0,none⟩ 1 1 [.int .i64 f,.int .i64 u] rfl (by
  intro j y hj
  match j,hj with
  | 0,hj=>simp at hj;subst hj;simpa [Addr.add] using hc
  | 1,hj=>simp at hj;subst hj;simpa [Addr.add] using bq) (by simp[Value.oneCell']) (by unfold maxLen;omega) (by omega) fh
 unfold Oper.wp execOp;simp only[ho,resolve,invoke,builtin,Sem.run_bind,Sem.run_pure,Result.andThen_ok,List.map_toArray,List.map_cons,List.map_nil,hs,hx,dS];refine h v' w' ?_ r2 r4;have e:(List.map gE (ps ++ [(⟨f,u⟩:Np.Span)])).flatten=(ps.map gE).flatten ++ [.int .i64 f,.int .i64 u]:=by simp[gE]
 unfold aJ;rw[List.length_append,List.length_singleton,e];exact r1
theorem amY{us:List PT}{ps:List (Np.Span×Np.Signed)}(h:us.map (λx=>(x.1,x.2.1))=Np.fC ps){i:Nat}{s:Np.Signed}(hs:(Np.cj (ps.map (·.2)))[i]?=some s):∃ v,us[i]?=some (s,Np.fd ps s,v):=by
 have h1:(us.map (λx=>(x.1,x.2.1)))[i]?=(Np.fC ps)[i]?:=by rw[h]
 unfold Np.fC at h1;rw[List.getElem?_map,List.getElem?_map,hs,Option.map_some] at h1;obtain⟨⟨a,b,v⟩,hx,he⟩:=Option.map_eq_some_iff.1 h1;simp only[Prod.mk.injEq] at he;obtain⟨rfl,rfl⟩:=he;exact⟨v,hx⟩
theorem Fx{us:List PT}{ps:List (Np.Span×Np.Signed)}(h:us.map (λx=>(x.1,x.2.1))=Np.fC ps):us.map (·.1)=Np.cj (ps.map (·.2)):=by
 rw[<-Np.amQ,<-h,List.map_map];rfl
theorem Rk{us:List PT}{ps:List (Np.Span×Np.Signed)}(h:us.map (λx=>(x.1,x.2.1))=Np.fC ps):us.length<=ps.length:=by
 have h1:=Qd List.length h;rw[List.length_map,Np.amJ] at h1;have h2:=Np.tr (ps.map (·.2));rw[List.length_map] at h2;omega
theorem anZ{us:List PT}{ps:List (Np.Span×Np.Signed)}(h:us.map (λx=>(x.1,x.2.1))=Np.fC ps){i:Nat}{s:Np.Signed}(hs:(Np.cj (ps.map (·.2)))[i]?=some s)(sp:Np.Span)(v':Value):(us.set i (s,Np.fd ps s ++ [sp],v')).map (λx=>(x.1,x.2.1))=Np.fC (ps ++ [(sp,s)]):=by
 rw[List.map_set,h,Np.amX (p:=(sp,s)) hs]
theorem anQ{us:List PT}{ps:List (Np.Span×Np.Signed)}(h:us.map (λx=>(x.1,x.2.1))=Np.fC ps){s:Np.Signed}(hs:s∉Np.cj (ps.map (·.2)))(sp:Np.Span)(v0 v':Value):((us ++ [((s,[],v0):PT)]).set us.length (s,[] ++ [sp],v')).map (λx=>(x.1,x.2.1))=Np.fC (ps ++ [(sp,s)]):=by
 rw[List.set_append_right _ _ (bQ _),Nat.sub_self,List.set_cons_zero,List.map_append,h,Np.amK (p:=(sp,s)) hs];rfl
theorem Sm{us:List PT}{i:Nat}{x y:PT}(h:us[i]?=some x)(hy:y.1=x.1):(us.set i y).map (·.1)=us.map (·.1):=by
 rw[List.map_set];apply List.ext_getElem?;intro j;rw[List.getElem?_set];split
 ·rename_i e;subst e;have hl:=(cQ.1 h).1
  first | rw[List.length_map,Qb hl,List.getElem?_map,h,Option.map_some,hy] | (rw[List.getElem?_map,h,Option.map_some,hy])
 ·rfl
theorem JP{base:Nat}{M:Nat->Prop}{zn:ByteArray}{w:World}{g n cap:Nat}{xs:List PT}(h:br (q9 zn) 8 za base M w (.slice (some ⟨g,0,none⟩) n cap) xs){k:Nat}{x:PT}(hx:xs[k]?=some x):w.cell? ⟨g,k * 8+6,none⟩=some x.2.2:=by
 obtain⟨rows,h1,h2,h3,h4⟩:=h;have hl:=cE.rows_len (w:=bF w M) (B:=w.heap.size) h1 h4;have hk:=(cQ.1 hx).1;have hr:=aQ (show k<rows.length by omega);obtain⟨r,hr'⟩:∃ r,rows[k]?=some r:=⟨_,hr⟩;obtain⟨h5,s,dv,sv,A,n',c,he,_⟩:=h4 k r x hr' hx;have h6:rows.flatten[k * 8+6]?=some x.2.2:=by
  have h7:=I0 rows k 6 x.2.2 r hl (by omega) hr';have h8:r.set 6 x.2.2=r:=by rw[he];rfl
  rw[h8] at h7;have h9:rows.set k r=rows:=by
   apply List.ext_getElem?;intro i;rw[List.getElem?_set];split
   ·rename_i e;subst e;rw[Qb (by omega),hr']
   ·rfl
  rw[h9] at h7;rw[<-h7,List.getElem?_set,Qb rfl,Qb];rw[h2.1];omega
 have h7:=h2.cells (g:=g) rfl _ _ h6;simpa [Addr.add] using h7
def rH(l:List (Np.Signed×List Np.Span))(i:Nat):List (Np.Signed×List Np.Span):=(l.take i).map (λx=>(x.1,Np.bT x.2))++l.drop i
theorem apK(l:List (Np.Signed×List Np.Span)):rH l 0=l:=by simp[rH]
theorem apZ{l:List (Np.Signed×List Np.Span)}{i:Nat}(h:l.length=i):rH l i=l.map λx=>(x.1,Np.bT x.2):=by
 unfold rH;rw[kQ (by omega),List.drop_of_length_le (by omega),List.append_nil]
theorem Rt{us:List PT}{l:List (Np.Signed×List Np.Span)}{i:Nat}(h:us.map (λx=>(x.1,x.2.1))=rH l i)(hi:i<l.length):∃ x,us[i]?=some x/\l[i]?=some (x.1,x.2.1):=by
 have h1:(us.map (λx=>(x.1,x.2.1)))[i]?=l[i]?:=by
  rw[h];unfold rH;rw[oQ (by simp only[List.length_map,List.length_take];omega),List.length_map,List.length_take,List.getElem?_drop];congr 1;omega
 rw[List.getElem?_map,aQ hi] at h1;obtain⟨x,hx,he⟩:=Option.map_eq_some_iff.1 h1;exact⟨x,hx,by rw[aQ hi,he]⟩
theorem apJ{us:List PT}{l:List (Np.Signed×List Np.Span)}{i:Nat}(h:us.map (λx=>(x.1,x.2.1))=rH l i)(hi:i<l.length){x:PT}(hx:us[i]?=some x)(v':Value):(us.set i (x.1,Np.bT x.2.1,v')).map (λx=>(x.1,x.2.1))=rH l (i+1):=by
 obtain⟨y,hy,hl⟩:=Rt h hi;rw[hx] at hy
 cases hy
 rw[List.map_set,h];obtain⟨hi',he⟩:=cQ.1 hl;unfold rH;rw[List.set_append_right _ _ (by simp only[List.length_map,List.length_take];omega),List.length_map,List.length_take,show i - min i l.length=0 by omega,sQ hi',List.set_cons_zero,fQ hi',List.map_append,List.map_singleton,he,List.append_assoc];rfl
section
variable {S:Nat->Prop} {w2:World} {base:Nat} {M:Nat->Prop} {zn:ByteArray} {xs:List PT} {w:World}
theorem PubK.normed{g0 n cap:Nat}(h:PubK S w2 base zn M xs (.slice (some ⟨g0,0,none⟩) n cap) w)(hn:xs.length=n){i:Nat}{x:PT}(hi:xs[i]?=some x){v':Value}{ps':List Np.Span}{w':World}(hb:Below w.heap.size w w')(ho:aJ w.heap.size w' v' ps')(qg:base<=w.heap.size) :
 PubK S w2 base zn (λk=>M k\/v'.ownBlock=some k) (xs.set i (x.1,ps',v')) (.slice (some ⟨g0,0,none⟩) n cap) (w'.setCell ⟨g0,i * 8+6,none⟩ v'):=by
 have hx:=gQ hi;have hr:=h.rows.changed hn hi hb.os hb.tape hb.output hb.size (λk hk _=>hb.block k hk) (ho.weak qg) (λk e=>.inr (ho.lt k e).1);have hz:(w'.setCell ⟨g0,i * 8+6,none⟩ v').heap.size=w'.heap.size:=by simp[World.setCell]
 have h2:=h.rd.size;refine⟨hr,λk e=>?_,λk hk hs=>.inl (h.ex k hk hs),λk e=>?_,(h.rd.then_below hb).setCell (h.own g0 (.inl rfl)) _⟩
 ·rw[hz];rcases e with e | e
  ·exact lQ (h.lt k e) hb.size
  ·exact (ho.lt k e).2
 ·rcases e with e | ⟨y,hy,e⟩
  ·exact h.own k (.inl e)
  ·rcases List.mem_or_eq_of_mem_set hy with hy | rfl
   ·exact h.own k (.inr ⟨y,hy,e⟩)
   ·have:=(ho.lt k e).1
    exact .inr (by omega)
theorem PubK.calm{ov:Value}(h:PubK S w2 base zn M xs ov w){T:Nat->Prop}(hT:∀ k,T k->k<w2.heap.size/\¬ S k){w':World}(hl:w'.os=w.os/\w'.tape=w.tape/\w'.output=w.output)(hz:w'.heap.size=w.heap.size)(hk:∀ k,¬ T k->w'.heap[k]?=w.heap[k]?):PubR base M zn xs ov w':=
 h.rows.leaves ⟨hl.1,hl.2.1,hl.2.2,Nat.le_of_eq hz.symm,λk _ hm=>⟨hm,hk k (λe=>hm (h.ex k (hT k e).1 (hT k e).2))⟩⟩ (λg hg=>⟨hk g (λe=>by
  have h1:=hT g e;rcases h.own g hg with h2 | h2
  ·exact h1.2 h2
  ·omega),(h.rows.lt hg).2.2⟩)
end
theorem Np.avX{h:Np.Hist}{zone:List UInt8}{s:Np.Signed}{p:Np.Span}(hp:p∈Np.fd (Np.cX h.copies zone) s)(hv:Np.VHist h):Np.Bn p:=by
 unfold Np.fd at hp;obtain⟨q,hq,rfl⟩:=List.mem_map.1 hp;have hq:=(List.mem_filter.1 hq).1;obtain⟨c,hc,_,_,he⟩:=Np.uS.1 hq;have h1:=(hv.each c hc).times;have h2:=hv.stop;rw[he];exact⟨h1.1,h1.2.1,by show c.til<=20000000;omega⟩
theorem Np.Lv(ps:List (Np.Span×Np.Signed))(s:Np.Signed):(Np.fd ps s).length<=ps.length:=by
 unfold Np.fd;rw[List.length_map];exact List.length_filter_le _ _
theorem Np.Rl{ps:List (Np.Span×Np.Signed)}{i:Nat}{s:Np.Signed}{l:List Np.Span}(h:(Np.fC ps)[i]?=some (s,l)):l=Np.fd ps s:=by
 unfold Np.fC at h;rw[List.getElem?_map] at h;obtain⟨x,_,he⟩:=Option.map_eq_some_iff.1 h
 cases he
 rfl
end
section
open Go.RowKit
theorem Lh{α:Type}{R:a1Z α}{sz:Nat}{w:World}{B n c:Nat}{A:Option Addr}{xs:List α}(h:SlR R sz w B (.slice A n c) xs):xs.length=n:=by
 obtain⟨A',c',h1,_⟩:=ak h;simp only[Value.slice.injEq] at h1;exact h1.2.1.symm
theorem R7{W:World}{B:Nat}{r:List Value}{x:Np.Held}{v:Value}{ps:List Np.Span}(h:db W B r x)(hv:SlR cT 2 W B v ps):db W B (r.set 7 v) ⟨x.zone,x.signed,x.fresh,ps⟩:=by
 obtain⟨z,s,dv,sv,fv,pv,rfl,h1,h2,h3,h4,h5,h6,h7,h8⟩:=h;exact⟨z,s,dv,sv,fv,v,rfl,h1,h2,h3,h4,h5,h6,h7,hv⟩
theorem Np.WZ{e:Np.Ent22}(h:Np.EntOk e)(hd:e.signed.set.data≠[])(hs:Np.ra e.signed):KeyS e.signed:=by
 obtain⟨hv,hf⟩:Np.cZ e.signed.set=true/\Np.eK e.zone e.signed.sigs:=by
  rcases h.kind with k | k
  ·exact absurd k.1 hd
  ·exact k.2
 obtain⟨h1,h2,h3,h4,h5,h6,h7,h8⟩:=Np.tu hv;refine⟨by have:=(Np.tj h1).1;omega,by omega,by omega,by omega,λd hd=>?_,by have:=hf.1;omega,λg hg=>?_⟩
 ·have hd':=Np.Bx h8 d hd;have hd'':=hd';unfold Np.kb at hd'';simp only[Bool.and_eq_true,Qa] at hd'';obtain⟨⟨⟨⟨a1,a2⟩,a3,a4⟩,_⟩,a5⟩:=hd'';have b1:=Np.Lf e.signed.set.type;have b2:=Se e.signed.set.type;have b3:=SW a5;exact⟨by omega,by omega,by omega⟩
 ·obtain⟨i,hi⟩:=List.mem_iff_getElem?.1 hg
  have:=hf.2 i g hi
  have Bz:=(Np.tj h.zone).1;have k1:=this.key;have k2:=this.alg;have k3:=this.win;exact⟨by rw[this.zone];omega,by omega,by omega,by omega,by omega,hs g hg⟩
theorem Np.W7{e:Np.Ent22}(h:Np.EntOk e)(hd:e.signed.set.data≠[])(hs:Np.ra e.signed):Np.Plain47 e.signed:=by
 obtain⟨hv,hf⟩:Np.cZ e.signed.set=true/\Np.eK e.zone e.signed.sigs:=by
  rcases h.kind with k | k
  ·exact absurd k.1 hd
  ·exact k.2
 obtain⟨h1,h2,h3,h4,h5,h6,h7,h8⟩:=Np.tu hv;refine⟨Np.zG h1,by omega,h4,λd hd=>Np.Oo (Np.Bx h8 d hd),λg hg=>?_⟩;obtain⟨i,hi⟩:=List.mem_iff_getElem?.1 hg
 have:=hf.2 i g hi
 exact⟨by rw[this.zone];exact Np.zG h.zone,by have:=this.key;omega,by have:=this.alg;omega,this.win.1,by have:=this.win;omega,(hs g hg).1⟩
end
end Go.Proofs.YtfnopgdcaanaiaaGreatDoor
