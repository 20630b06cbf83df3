/- No condition. -/
import Derived.Test.YtfnopgdcaanaiaaGreatDoorS09
import Derived.Test.YtfnopgdcaanaiaaGreatDoorS10
import Derived.Test.YtfnopgdcaanaiaaGreatDoorS11
set_option linter.all false
set_option maxRecDepth 100000
set_option maxHeartbeats 8000000
namespace Go.Proofs.YtfnopgdcaanaiaaGreatDoor
open Go.Proofs.Tryz
section
open Go.RowKit
theorem boY{h:Np.Hist} : Np.VHist h↔(((Np.VHosts h.hosts/\Np.VRoot h.anchor h.hints)/\Np.tv h)/\∀ c∈h.copies,Np.CopyOk h c)/\h.copies.Pairwise λc d=>¬ Np.iV c d:=
 ⟨λv=>⟨⟨⟨⟨v.hosts,v.root⟩,v.stop,v.drift⟩,v.each⟩,v.apart⟩,λv=>⟨v.1.1.2.1,v.1.1.2.2,v.1.1.1.1,v.1.1.1.2,v.1.2,v.2⟩⟩
theorem a4J(hv:Value)(hs:List Np.Host)(cv:Value)(l:List Np.Copy)(s:ByteArray)(ay:s.size<=140737488355328)(ty life:Int)(dv:Value)(d:List Np.Datum)(cU:Value)(hints:List Int)(drift stop:Int)(hl:l.length<=500)(hz:∀ p∈l,p.zone.sets.length<=20000)(w:World)
 (hh:SlR gp 3 w w.heap.size hv hs) (hd:SlR lR 5 w w.heap.size cv l) (hdd:SlR ci 3 w w.heap.size dv d) (pK:SlR ei 1 w w.heap.size cU hints) :
 Calls prog 44 #[.agg #[hv,cv,.string s,.int .i64 ty,.int .i64 life,dv,cU,.int .i64 drift,.int .i64 stop]] w λe w'=>e = .returned (.bool (Np.yes (Np.VHist ⟨hs,l,⟨s.data.toList,ty,life,d⟩,hints,drift,stop⟩)))/\Below w.heap.size w w':=by
 obtain⟨r,hr⟩:=afZ (Np.yes (Np.VHist ⟨hs,l,⟨s.data.toList,ty,life,d⟩,hints,drift,stop⟩));obtain⟨iq,se⟩:∃ h:Np.Hist,(⟨hs,l,⟨s.data.toList,ty,life,d⟩,hints,drift,stop⟩:Np.Hist)=h:=⟨_,rfl⟩;rw[hr];have HR:Hid (Np.yes ((((Np.VHosts hs/\Np.VRoot ⟨s.data.toList,ty,life,d⟩ hints)/\Np.tv iq)/\∀ c∈l,Np.CopyOk iq c)/\l.Pairwise λc d=>¬ Np.iV c d)=r):=jq (by rw[<-hr,<-se];exact (Np.uE (boY (h:=⟨hs,l,⟨s.data.toList,ty,life,d⟩,hints,drift,stop⟩))).symm);have jw:Hid (Np.tv iq↔(1<=stop/\stop<=10000000)/\(0<=drift/\drift<=1000)):=jq (by rw[<-se];exact Iff.rfl);have iW:Hid (∀ c,Np.CopyOk iq c↔(0<=c.host/\c.host<hs.length)/\(0<=c.frm/\c.frm<c.til/\c.til<=stop)/\Np.VZone c.zone):=jq (λc=>by rw[<-se];exact⟨λh=>⟨h.host,h.times,h.zone⟩,λh=>⟨h.1,h.2.1,h.2.2⟩⟩);have HH:=jq hh;have HD:=jq hd;have qu:=jq hdd;have qw:=jq pK;have HZ:=jq hz;obtain⟨A1,c1,rfl,_,_⟩:=ak hh;obtain⟨A2,c2,rfl,_,_⟩:=ak hd;obtain⟨A3,c3,rfl,_,_⟩:=ak hdd;obtain⟨A4,c4,rfl,_,_⟩:=ak pK;clear hr se hd hh hdd pK hz;obtain⟨n1,bE⟩:=afZ hs.length;obtain⟨n2,bS⟩:=afZ l.length;obtain⟨n3,cR⟩:=afZ d.length;obtain⟨n4,cX⟩:=afZ hints.length;rw[bE] at HH iW |-;rw[bS] at HD hl |-;rw[cR] at qu |-;rw[cX] at qw |-;have HN:=jq (And.intro bE (And.intro bS (And.intro cR cX)));clear bE bS cR cX;obtain⟨W1,aB⟩:=afZ (w.alloc (.cells #[.slice A1 n1 c1,.slice A2 n2 c2,.string s,.int .i64 ty,.int .i64 life,.slice A3 n3 c3,.slice A4 n4 c4,.int .i64 drift,.int .i64 stop] 29));have aM:Below w.heap.size w W1:=by rw[<-aB];exact blAl
 have jS:W1.heap.size=w.heap.size+1:=by rw[<-aB];simp
 obtain⟨X,hX⟩:=afZ w.heap.size;have lO:=jq hX;obtain⟨k0,k1,k2,k3,k4,k5,k6,k7,k8⟩:=cRow9 W1 X (.slice A1 n1 c1) (.slice A2 n2 c2) (.string s) (.int .i64 ty) (.int .i64 life) (.slice A3 n3 c3) (.slice A4 n4 c4) (.int .i64 drift) (.int .i64 stop) (by rw[<-aB,<-hX];simp[go_sem]);rw[hX] at aM jS HH HD qu qw;rw[hX];have aS:=jq aM;clear aM;go_enter func44,ntmps44;go_wp2_with fail;refine (a4K _ hs _ ((HH.out.keep gy aS.out).more mN (by omega))).mono ?_;rintro e w2 ⟨rfl,aa⟩;have aO:=aa.size;replace k0:=aeK aa k0;replace k1:=aeK aa k1;replace k2:=aeK aa k2;replace k3:=aeK aa k3;replace k4:=aeK aa k4;replace k5:=aeK aa k5;replace k6:=aeK aa k6;replace k7:=aeK aa k7;replace k8:=aeK aa k8;have ah:=aeX aS aa;clear aa aB;obtain⟨b1,av⟩:=afZ (Np.yes (Np.VHosts hs));rw[av];have tu:=jq av;clear av
 cases b1 with
 | false=>
  have HX:Hid (r=false):=jq (by rw[<-HR.out];exact Np.aR λq=>by have:=Np.bV q.1.1.1.1;rw[tu.out] at this;cases this);go_wp2_with fail;go_ret;exact⟨ag HX.out.symm,ah.out⟩
 | true=>
 go_wp2_with fail;refine (a5J s ay ty life _ d _ hints _ ((qu.out.keep cJ ah.out).more di (by omega)) ((qw.out.keep kE ah.out).more qa (by omega))).mono ?_;rintro e w3 ⟨rfl,ai⟩;have dR:=ai.size;replace k0:=aeK ai k0;replace k1:=aeK ai k1;replace k2:=aeK ai k2;replace k3:=aeK ai k3;replace k4:=aeK ai k4;replace k5:=aeK ai k5;replace k6:=aeK ai k6;replace k7:=aeK ai k7;replace k8:=aeK ai k8;have aw:=aeX ah ai;clear ai;obtain⟨b2,aa⟩:=afZ (Np.yes (Np.VRoot ⟨s.data.toList,ty,life,d⟩ hints));rw[aa];have AY:=jq aa;clear aa
 cases b2 with
 | false=>
  have HX:Hid (r=false):=jq (by rw[<-HR.out];exact Np.aR λq=>by have:=Np.bV q.1.1.1.2;rw[AY.out] at this;cases this);go_wp2_with fail;go_ret;exact⟨ag HX.out.symm,aw.out⟩
 | true=>
 by_cases g1:stop<1
 ·have dg1:decide (stop<1)=true:=uQ g1;have HX:Hid (r=false):=jq (by rw[<-HR.out];exact Np.aR λq=>by have:=jw.out.1 q.1.1.2;omega);clear g1;go_wp2_with fail;go_ret;exact⟨ag HX.out.symm,aw.out⟩
 have dg1:decide (stop<1)=false:=tQ g1;by_cases g2:10000000<stop
 ·have dg2:decide (10000000<stop)=true:=uQ g2;have HX:Hid (r=false):=jq (by rw[<-HR.out];exact Np.aR λq=>by have:=jw.out.1 q.1.1.2;omega);clear g2;go_wp2_with fail;go_ret;exact⟨ag HX.out.symm,aw.out⟩
 have dg2:decide (10000000<stop)=false:=tQ g2;by_cases g3:drift<0
 ·have dg3:decide (drift<0)=true:=uQ g3;have HX:Hid (r=false):=jq (by rw[<-HR.out];exact Np.aR λq=>by have:=jw.out.1 q.1.1.2;omega);clear g3;go_wp2_with fail;go_ret;exact⟨ag HX.out.symm,aw.out⟩
 have dg3:decide (drift<0)=false:=tQ g3;by_cases g4:1000<drift
 ·have dg4:decide (1000<drift)=true:=uQ g4;have HX:Hid (r=false):=jq (by rw[<-HR.out];exact Np.aR λq=>by have:=jw.out.1 q.1.1.2;omega);clear g4;go_wp2_with fail;go_ret;exact⟨ag HX.out.symm,aw.out⟩
 have dg4:decide (1000<drift)=false:=tQ g4;have d5:decide (4000<(n2:Int))=false:=afY;have Gv:Hid (Np.tv iq):=jq (jw.out.2 (by omega));have gk:Hid (l.length=n2):=jq HN.out.2.1;clear g1 g2 g3 g4;go_wp2_with fail;go_loopw [3] (λi wr=>∃ (k:Nat),k<=n2/\i = .int .i64 k/\w3.heap.size<=wr.heap.size/\Hid (Below w3.heap.size w3 wr)/\Hid (∀ c∈l.take k,Np.CopyOk iq c)/\Hid ((l.take k).Pairwise λc d=>¬ Np.iV c d)) (λi _=>n2 - (intOf i).toNat)
 case atStart=>exact⟨0,jQ _,rfl,bQ _,jq (vQ _ _),jq (by simp),jq (by simp)⟩
 case round=>
  obtain⟨k,hk,rfl,bSZ,bp,bW,qA⟩:=hrel;have HB:=aeX aw bp.out;have q0:=aeK bp.out k0;have q1:=aeK bp.out k1;have q8:=aeK bp.out k8;by_cases ab:k<n2
  ·obtain⟨x,ae⟩:∃ x,l[k]?=some x:=⟨_,aQ (by rw[gk.out];exact ab)⟩;obtain⟨b,o,sn,vz,rfl,bZ,aD,cu,dg,f0,f1,f2,f3,f4⟩:=vJ (HD.out.keep mg HB.out) ae;obtain⟨Az,cz,rfl,_,_⟩:=ak dg;obtain⟨nz,jh⟩:=afZ x.zone.sets.length;rw[jh] at f4;have HT:Hid (l.take (k+1)=l.take k ++ [x]):=jq (by
    obtain⟨hl,he⟩:=cQ.1 ae;rw[fQ hl,he])
   have HF:Hid (¬ Np.CopyOk iq x->r=false):=jq (λh=>by rw[<-HR.out];exact Np.aR λq=>h (q.1.2 x (gQ ae)));have rp:Hid (∀ (j:Nat) (y:Np.Copy),j<k->l[j]?=some y->Np.iV y x->r=false):=jq (λj y hj hy gF=>by
    rw[<-HR.out];refine Np.aR λq=>?_;have h1:=q.2;rw[List.pairwise_iff_getElem] at h1;obtain⟨e1,e2⟩:=cQ.1 hy;obtain⟨e3,e4⟩:=cQ.1 ae;have h2:=h1 j k e1 e3 hj;rw[e2,e4] at h2;exact h2 gF)
   have A9:Hid (x.zone.sets.length<=20000):=jq (HZ.out x (gQ ae));have aZ:=jq aD;have gD:Hid (SlR br 5 wr wr.heap.size (.slice Az nz cz) x.zone.sets):=jq (by rw[<-jh];exact dg.more bK (by omega));obtain⟨w4,cG⟩:=afZ (wr.alloc (.cells #[.int .i64 x.host,.int .i64 x.frm,.int .i64 x.til,.string sn,.slice Az nz cz] 46));have fz:w4.heap.size=wr.heap.size+1:=by rw[<-cG];simp
   have ar:Below wr.heap.size wr w4:=by rw[<-cG];exact blAl
   obtain⟨p0,p1,p2,p3,p4⟩:=cRow5 w4 (wr.heap.size) (.int .i64 x.host) (.int .i64 x.frm) (.int .i64 x.til) (.string sn) (.slice Az nz cz) (by rw[<-cG];simp[go_sem]);have u0:w4.cell? ⟨X,0,none⟩=some (.slice A1 n1 c1):=aeK ar q0;have u1:w4.cell? ⟨X,1,none⟩=some (.slice (some ⟨b,o,none⟩) n2 c2):=aeK ar q1;have u8:w4.cell? ⟨X,8,none⟩=some (.int .i64 stop):=aeK ar q8;have bi:=aeX HB ar;have GI:=aeX bp ar;have yq:Hid (SlR br 5 w4 w4.heap.size (.slice Az nz cz) x.zone.sets):=jq ((gD.out.keep aP ar).more bK ar.size);have yK:X<wr.heap.size:=by omega
   clear ae aD dg jh ar gD;by_cases g1:x.host<0
   ·have dg1:decide (x.host<0)=true:=uQ g1;have HX:Hid (r=false):=jq (HF.out λh=>by have:=(iW.out x).1 h;omega);clear g1;go_wp2_with fail;go_ret;exact⟨ag HX.out.symm,bi.out⟩
   have dg1:decide (x.host<0)=false:=tQ g1;by_cases g2:(n1:Int)<=x.host
   ·have dg2:decide ((n1:Int)<=x.host)=true:=uQ g2;have HX:Hid (r=false):=jq (HF.out λh=>by have:=(iW.out x).1 h;omega);clear g2;go_wp2_with fail;go_ret;exact⟨ag HX.out.symm,bi.out⟩
   have dg2:decide ((n1:Int)<=x.host)=false:=tQ g2;by_cases g3:x.frm<0
   ·have dg3:decide (x.frm<0)=true:=uQ g3;have HX:Hid (r=false):=jq (HF.out λh=>by have:=(iW.out x).1 h;omega);clear g3;go_wp2_with fail;go_ret;exact⟨ag HX.out.symm,bi.out⟩
   have dg3:decide (x.frm<0)=false:=tQ g3;by_cases g4:x.til<=x.frm
   ·have dg4:decide (x.til<=x.frm)=true:=uQ g4;have HX:Hid (r=false):=jq (HF.out λh=>by have:=(iW.out x).1 h;omega);clear g4;go_wp2_with fail;go_ret;exact⟨ag HX.out.symm,bi.out⟩
   have dg4:decide (x.til<=x.frm)=false:=tQ g4;by_cases g5:stop<x.til
   ·have dg5:decide (stop<x.til)=true:=uQ g5;have HX:Hid (r=false):=jq (HF.out λh=>by have:=(iW.out x).1 h;omega);clear g5;go_wp2_with fail;go_ret;exact⟨ag HX.out.symm,bi.out⟩
   have dg5:decide (stop<x.til)=false:=tQ g5;have Ar:Hid ((0<=x.host/\x.host<n1)/\(0<=x.frm/\x.frm<x.til/\x.til<=stop)):=jq (by omega);clear g1 g2 g3 g4 g5;go_wp2_with fail;refine (a6K sn cu _ x.zone.sets A9.out w4 yq.out).mono ?_;rintro e w5 ⟨rfl,aG⟩;have lB:w4.heap.size<=w5.heap.size:=aG.size;have s0:w5.cell? ⟨wr.heap.size,0,none⟩=some (.int .i64 x.host):=aeK aG p0;have s1:w5.cell? ⟨wr.heap.size,1,none⟩=some (.int .i64 x.frm):=aeK aG p1;have s2:w5.cell? ⟨wr.heap.size,2,none⟩=some (.int .i64 x.til):=aeK aG p2;have s3:w5.cell? ⟨wr.heap.size,3,none⟩=some (.string sn):=aeK aG p3;have s4:w5.cell? ⟨wr.heap.size,4,none⟩=some (.slice Az nz cz):=aeK aG p4;have t1:w5.cell? ⟨X,1,none⟩=some (.slice (some ⟨b,o,none⟩) n2 c2):=aeK aG u1;have cg:=aeX bi aG;have U4:=aeX GI aG;clear aG p0 p1 p2 p3 p4 cG f0 f1 f2 f3 f4 u0 u1 u8 q0 q1 q8;obtain⟨rz,fu⟩:=afZ (Np.yes (Np.VZone ⟨sn.data.toList,x.zone.sets⟩));rw[fu];have gR:=jq fu;clear fu
   cases rz with
   | false=>
    have HX:Hid (r=false):=jq (HF.out λh=>by
     have h1:=((iW.out x).1 h).2.2;have h2:x.zone=⟨sn.data.toList,x.zone.sets⟩:=by rw[aZ.out]
     rw[h2] at h1;have h3:=Np.bV h1;rw[gR.out] at h3
     cases h3)
    go_wp2_with fail;go_ret;exact⟨ag HX.out.symm,cg.out⟩
   | true=>
    have rn:Hid (Np.CopyOk iq x):=jq ((iW.out x).2 ⟨Ar.out.1,Ar.out.2,by
     have h2:x.zone=⟨sn.data.toList,x.zone.sets⟩:=by rw[aZ.out]
     rw[h2];exact Np.eZ.1 gR.out⟩)
    have Ib:Hid (∀ c∈l.take (k+1),Np.CopyOk iq c):=jq (λc hc=>by
     rw[HT.out] at hc;rcases List.mem_append.1 hc with hc | hc
     ·exact bW.out c hc
     ·rw[List.mem_singleton] at hc;subst hc;exact rn.out)
    obtain⟨Y,hY⟩:=afZ wr.heap.size;rw[hY] at s0 s1 s2 s3 s4 yK fz;have BK:Y<w5.heap.size:=by omega
    have bSQ:w3.heap.size<=w5.heap.size:=by omega
    obtain⟨wo,rfl⟩:=afJ wr;go_wp2_with fail;go_loopw [5] (λjv wi=>∃ (j:Nat),j<=k/\jv = .int .i64 j/\Hid (Below w5.heap.size w5 wi)/\Hid (∀ (t:Nat) (y:Np.Copy),t<j->l[t]?=some y->¬ Np.iV y x)) (λjv _=>k - (intOf jv).toNat)
    case atStart=>exact⟨0,jQ _,rfl,jq (vQ _ _),jq (λt y ht=>by omega)⟩
    case round=>
     obtain⟨j,wD,rfl,cB,HQ⟩:=hrel;have sP:=cB.out.size;by_cases hj:j<k
     ·obtain⟨y,fq⟩:∃ y,l[j]?=some y:=⟨_,aQ (by rw[gk.out];omega)⟩;have jY:=aeX cg cB.out;obtain⟨b',o',sy,vy,cW,BN,kw,bOQ,CK,f0,f1,f2,f3,f4⟩:=vJ (HD.out.keep mg jY.out) fq
      cases cW
      obtain⟨Ay,cy,rfl,_,_⟩:=ak CK;obtain⟨ny,sA⟩:=afZ y.zone.sets.length;rw[sA] at f4;have e0:=(cB.out.cell (p:=⟨Y,0,none⟩) BK).trans s0;have e1:=(cB.out.cell (p:=⟨Y,1,none⟩) BK).trans s1;have e2:=(cB.out.cell (p:=⟨Y,2,none⟩) BK).trans s2;have e3:=(cB.out.cell (p:=⟨Y,3,none⟩) BK).trans s3;have e4:=(cB.out.cell (p:=⟨Y,4,none⟩) BK).trans s4;have m1:=aeK cB.out t1;have PW:Y<wr.heap.size:=by omega
      have bDZ:X<wr.heap.size:=by omega
      have bEZ:b<wr.heap.size:=by omega
      have yn:=jq kw;have bA:Hid (∀ o,Below w5.heap.size w5 (wr.alloc o)):=jq (λo=>cB.out.alloc (by omega) _);have HAT:Hid (∀ o,Below X w (wr.alloc o)):=jq (λo=>jY.out.alloc (by omega) _);have DM:Hid (¬ Np.iV y x->∀ (t:Nat) (z:Np.Copy),t<j+1->l[t]?=some z->¬ Np.iV z x):=jq (λhn t z ht hz=>by
       by_cases e:t=j
       ·subst e;rw[fq] at hz;cases hz;exact hn
       ·exact HQ.out t z (by omega) hz)
      have AZ:Hid (Np.iV y x->r=false):=jq (λhc=>rp.out j y hj fq hc);have bHZ:(0:Int)<=(j:Int):=by omega
      have qS:(j:Int)<(n2:Int):=by omega
      have bHJ:j<n2:=by omega
      clear fq kw CK sA;by_cases h1:y.host=x.host
      case neg=>
       have eb0:(y.host == x.host)=false:=by simpa using h1
       have ed0:decide (y.host=x.host)=false:=tQ h1;have HX:=jq (DM.out (λhc=>h1 hc.1));clear h1;go_wp2_with fail;go_roundw
       case rel=>exact⟨j+1,by omega,by go_num,jq (bA.out _),HX⟩
       ·simp[intOf]<;>omega
      have eb0:(y.host == x.host)=true:=by simpa using h1
      have ed0:decide (y.host=x.host)=true:=uQ h1;by_cases h2:sy.toList=sn.toList
      case neg=>
       have eb1:(sy.toList == sn.toList)=false:=by simpa using h2
       have HX:=jq (DM.out (λhc=>h2 (by rw[dQ,dQ,yn.out,aZ.out];exact hc.2.1)));clear h2;go_wp2_with fail;go_roundw
       case rel=>exact⟨j+1,by omega,by go_num,jq (bA.out _),HX⟩
       ·simp[intOf]<;>omega
      have eb1:(sy.toList == sn.toList)=true:=by simpa using h2
      by_cases h3:y.frm<x.til
      case neg=>
       have ed2:decide (y.frm<x.til)=false:=tQ h3;have HX:=jq (DM.out (λhc=>h3 hc.2.2.1));clear h3;go_wp2_with fail;go_roundw
       case rel=>exact⟨j+1,by omega,by go_num,jq (bA.out _),HX⟩
       ·simp[intOf]<;>omega
      have ed2:decide (y.frm<x.til)=true:=uQ h3;by_cases h4:x.frm<y.til
      case neg=>
       have ed3:decide (x.frm<y.til)=false:=tQ h4;have HX:=jq (DM.out (λhc=>h4 hc.2.2.2));clear h4;go_wp2_with fail;go_roundw
       case rel=>exact⟨j+1,by omega,by go_num,jq (bA.out _),HX⟩
       ·simp[intOf]<;>omega
      have ed3:decide (x.frm<y.til)=true:=uQ h4;have HX:Hid (r=false):=jq (AZ.out ⟨h1,by rw[<-yn.out,<-aZ.out,<-dQ,<-dQ];exact h2,h3,h4⟩);clear h1 h2 h3 h4;go_wp2_with fail;go_ret;exact⟨ag HX.out.symm,HAT.out _⟩
     ·have WI:Hid ((l.take (k+1)).Pairwise λc d=>¬ Np.iV c d):=jq (by
       rw[HT.out,List.pairwise_append];refine⟨qA.out,by simp,λc hc d hd=>?_⟩;rw[List.mem_singleton] at hd;subst hd;obtain⟨t,ht,rfl⟩:=nQ.1 hc;rw[List.length_take] at ht;rw[List.getElem_take];exact HQ.out t _ (by omega) (aQ (by omega)))
      go_wp2_with fail;go_roundw
      case rel=>exact⟨k+1,by omega,by go_num,by omega,aeX U4 cB.out,Ib,WI⟩
      ·simp[intOf]<;>omega
  ·have gm:Hid (l.take k=l):=jq (kQ (by rw[gk.out];omega));have AE:Hid (∀ c∈l,Np.CopyOk iq c):=jq (by have:=bW.out;rwa [gm.out] at this);have WJ:Hid (l.Pairwise λc d=>¬ Np.iV c d):=jq (by have:=qA.out;rwa [gm.out] at this);go_wp2_with fail;refine (a3Q _ l (by rw[gk.out];omega) (λc hc=>?_) _ ((HD.out.keep mg HB.out).more zF (by omega))).mono ?_
   ·have h1:=((iW.out c).1 (AE.out c hc)).2.2.right;unfold Np.eK at h1;simp only[Bool.and_eq_true] at h1;exact yQ (s9 h1.1.1) (by omega)
   rintro e w13 ⟨v13,rfl,Cp,BM⟩;obtain⟨A13,c13,rfl⟩:=cD.form Cp;have o6:=aeX HB BM;have Ki:(Np.apexes l).length<=500:=by
    rw[<-Np.IN]
    have:=Jd (l.map (·.zone.apex)) []
    rw[List.length_map,gk.out] at this;simp at this;omega
   obtain⟨m13,Ch⟩:=afZ ((Np.apexes l).length);rw[Ch] at Ki |-;have d13:decide ((m13:Int)<=500)=true:=agQ;clear Cp BM Ch;go_wp2_with fail;go_ret;exact⟨ag (by rw[<-HR.out];exact (Np.bV ⟨⟨⟨⟨Np.eZ.1 tu.out,Np.eZ.1 AY.out⟩,Gv.out⟩,AE.out⟩,WJ.out⟩).symm),o6.out⟩
def Np.oX(h:Np.Hist)(t:Int):Prop:=Np.VHist h/\0<=t/\t<h.stop
def Np.qh:Np.WorldP:=⟨[],[],⟨[],0,0,[]⟩,[]⟩
noncomputable def Np.atW(h:Np.Hist)(t:Int):Np.WorldP:=if Np.yes (Np.oX h t) then Np.ta h t else Np.qh
noncomputable def Np.atE(h:Np.Hist)(t:Int):Int:=if Np.yes (Np.oX h t) then 0 else 1
theorem Np.yz{h:Np.Hist}{t:Int}(k:Np.oX h t):Np.atW h t=Np.ta h t/\Np.atE h t=0:=by
 unfold Np.atW Np.atE;rw[Np.bV k];exact⟨rfl,rfl⟩
theorem Np.vG{h:Np.Hist}{t:Int}(k:¬ Np.oX h t):Np.atW h t=Np.qh/\Np.atE h t=1:=by
 unfold Np.atW Np.atE;rw[Np.aR k];exact⟨rfl,rfl⟩
theorem Lj(w:World)(B:Nat):tB w B [.slice none 0 0,.slice none 0 0,.string ⟨#[]⟩,.int .i64 0,.int .i64 0,.slice none 0 0,.slice none 0 0] Np.qh:=
 ⟨_,_,⟨#[]⟩,_,_,rfl,rfl,by decide,⟨none,0,rfl,bQ _,by simp[Np.qh],λi x h=>by simp[Np.qh] at h⟩,⟨none,0,rfl,bQ _,by simp[Np.qh],λi x h=>by simp[Np.qh] at h⟩,⟨none,0,rfl,bQ _,by simp[Np.qh],λi x h=>by simp[Np.qh] at h⟩,⟨none,0,rfl,bQ _,by simp[Np.qh],λi x h=>by simp[Np.qh] at h⟩⟩
theorem FZ{a b c d:Value}(h1:a=c)(h2:b=d):Ending.returned (.tuple #[a,b]) = .returned (.tuple #[c,d]):=by rw[h1,h2]
theorem bbJ(u v:Value)(xs:List Np.Signed)(w:World)(hu:SlR br 5 w w.heap.size u xs)(hv:SlR br 5 w w.heap.size v xs) :
 Calls prog 33 #[u,v] w (ahZ w.heap.size w (.bool true)):=by
 have HU:=jq hu;have HV:=jq hv;obtain⟨A,c,rfl,bw,bT⟩:=ak hu;obtain⟨A2,c2,rfl,dE,dF⟩:=ak hv;clear hu hv;have Kr:((xs.length:Int) != (xs.length:Int))=false:=by simp
 go_enter func33,ntmps33;go_wp2_with fail;go_loopw [5] (λi wr=>∃ k:Nat,k<=xs.length/\i = .int .i64 k/\Hid (Below w.heap.size w wr)) (λi _=>xs.length - (intOf i).toNat)
 case atStart=>exact⟨0,jQ _,rfl,jq (vQ _ _)⟩
 case round=>
  obtain⟨k,hk,rfl,HB⟩:=hrel;by_cases ab:k<xs.length
  ·obtain⟨b,o,c',s,dv,sv,hA,hb,_,hs,ay,aY,aN,e0,e1,e2,e3,e4⟩:=dB (HU.out.later aP bK HB.out) (aQ ab)
   cases hA
   obtain⟨b2,o2,c2',s',dv',sv',hA,aa,_,hs',cu,rX,pT,f0,f1,f2,f3,f4⟩:=dB (HV.out.later aP bK HB.out) (aQ ab);simp only[Value.slice.injEq] at hA;obtain⟨rfl,_,rfl⟩:=hA;have fY:s'=s:=iC (by rw[hs,hs']);subst fY;generalize xs[k]=x at *;have jy:=jq aY;have GW:=jq rX;have lM:=jq aN;have AP:=jq pT;obtain⟨S1,m1,rfl,_,_⟩:=ak aN;obtain⟨S2,m2,rfl,_,_⟩:=ak pT;obtain⟨D1,n1,rfl,_,_⟩:=ak aY;obtain⟨D2,n2,rfl,_,_⟩:=ak rX;have cj:=kNN k;have ck:(k:Int)<(xs.length:Int):=by omega
   have nv:∀ (g:bN wr) (p:Addr),p.block<wr.heap.size->g.w.cell? p=wr.cell? p:=λg p h=>g.cell p h;have bP:∀ g:bN wr,Calls prog 20 #[.agg #[.string s',.int .i64 x.set.type,.int .i64 x.set.life,.slice D1 x.set.data.length n1,.slice S1 x.sigs.length m1],.agg #[.string s',.int .i64 x.set.type,.int .i64 x.set.life,.slice D2 x.set.data.length n2,.slice S2 x.sigs.length m2]] g.w λe w'=>e = .returned (.bool true)/\Below g.w.heap.size g.w w':=λg=>
    (TE s' s' _ _ _ _ _ _ _ _ x.set.data x.set.data x.sigs x.sigs g.w (jy.out.later cJ di g.below) (GW.out.later cJ di g.below) (lM.out.later eL fJ g.below) (AP.out.later eL fJ g.below)).mono λe w' h=>⟨by rw[h.1];simp,h.2⟩
   have jx:=jq bP;clear bP hs hs' aN pT aY rX ay cu;go_wp2_with fail;refine agY ?_
   repeat (go_big_quiet_step ((go_at_call 20;exact Calls.grow_of (jx.out _))))
   refine wpQuiet_nil ?_;rintro _ ⟨g,rfl⟩;go_wp2_with fail;go_roundw
   case rel=>exact⟨k+1,by omega,by go_num,jq (HB.out.trans (g.below.mono HB.out.size))⟩
   ·simp[intOf]<;>omega
  ·go_wp2_with fail;go_ret;exact⟨rfl,HB.out⟩
theorem bcQ(s:ByteArray)(u v:Value)(xs:List Np.Signed)(w:World)(hu:SlR br 5 w w.heap.size u xs)(hv:SlR br 5 w w.heap.size v xs) :
 Calls prog 174 #[.agg #[.string s,u],.agg #[.string s,v]] w (ahZ w.heap.size w (.bool true)):=by
 have HU:=jq hu;have HV:=jq hv;have iN:Below w.heap.size w ((w.alloc (.cells #[.string s,u] 44)).alloc (.cells #[.string s,v] 44)):=(blAl).alloc (by simp) _;have bA:=jq iN;obtain⟨A,c,rfl,bw,bT⟩:=ak hu;obtain⟨A2,c2,rfl,dE,dF⟩:=ak hv;clear hu hv iN;go_enter func174,ntmps174;go_wp2_with fail;refine (bbJ _ _ xs _ (HU.out.later aP bK bA.out) (HV.out.later aP bK bA.out)).mono ?_;rintro e w1 ⟨rfl,av⟩;have aF:=jq (bA.out.trans (av.mono bA.out.size));clear av;go_wp2_with fail;go_ret;exact⟨rfl,aF.out⟩
theorem bbK(u v:Value)(xs:List Np.Placed)(w:World)(hu:SlR jb 3 w w.heap.size u xs)(hv:SlR jb 3 w w.heap.size v xs) :
 Calls prog 101 #[u,v] w (ahZ w.heap.size w (.bool true)):=by
 have HU:=jq hu;have HV:=jq hv;obtain⟨A,c,rfl,bw,bT⟩:=ak hu;obtain⟨A2,c2,rfl,dE,dF⟩:=ak hv;clear hu hv;have Kr:((xs.length:Int) != (xs.length:Int))=false:=by simp
 go_enter func101,ntmps101;go_wp2_with fail;go_loopw [5] (λi wr=>∃ k:Nat,k<=xs.length/\i = .int .i64 k/\Hid (Below w.heap.size w wr)) (λi _=>xs.length - (intOf i).toNat)
 case atStart=>exact⟨0,jQ _,rfl,jq (vQ _ _)⟩
 case round=>
  obtain⟨k,hk,rfl,HB⟩:=hrel;by_cases ab:k<xs.length
  ·obtain⟨b,o,s,sv,rfl,hb,hs,ay,aN,e0,e1,e2⟩:=FL (HU.out.later iT jr HB.out) (aQ ab);obtain⟨b2,o2,s',sv',rfl,aa,hs',cu,pT,f0,f1,f2⟩:=FL (HV.out.later iT jr HB.out) (aQ ab);have fY:s'=s:=iC (by rw[hs,hs']);subst fY;generalize xs[k]=x at *;have lM:=jq aN;have AP:=jq pT;obtain⟨S1,m1,rfl,_,_⟩:=ak aN;obtain⟨S2,m2,rfl,_,_⟩:=ak pT;have cj:=kNN k;have ck:(k:Int)<(xs.length:Int):=by omega
   have hne:(x.host != x.host)=false:=by simp
   have nv:∀ (g:bN wr) (p:Addr),p.block<wr.heap.size->g.w.cell? p=wr.cell? p:=λg p h=>g.cell p h;have bP:∀ g:bN wr,Calls prog 174 #[.agg #[.string s',.slice S1 x.zone.sets.length m1],.agg #[.string s',.slice S2 x.zone.sets.length m2]] g.w λe w'=>e = .returned (.bool true)/\Below g.w.heap.size g.w w':=λg=>
    bcQ s' _ _ x.zone.sets g.w (lM.out.later aP bK g.below) (AP.out.later aP bK g.below)
   have jx:=jq bP;clear bP hs hs' aN pT ay cu;go_wp2_with fail;refine agY ?_
   repeat (go_big_quiet_step ((go_at_call 174;exact Calls.grow_of (jx.out _))))
   refine wpQuiet_nil ?_;rintro _ ⟨g,rfl⟩;go_wp2_with fail;go_roundw
   case rel=>exact⟨k+1,by omega,by go_num,jq (HB.out.trans (g.below.mono HB.out.size))⟩
   ·simp[intOf]<;>omega
  ·go_wp2_with fail;go_ret;exact⟨rfl,HB.out⟩
theorem bkJ(u v:Value)(xs:List (List UInt8))(w:World)(hu:SlR RTx 1 w w.heap.size u xs)(hv:SlR RTx 1 w w.heap.size v xs) :
 Calls prog 102 #[u,v] w (ahZ w.heap.size w (.bool true)):=by
 have HU:=jq hu;have HV:=jq hv;obtain⟨A,c,rfl,bw,bT⟩:=ak hu;obtain⟨A2,c2,rfl,dE,dF⟩:=ak hv;clear hu hv;have Kr:((xs.length:Int) != (xs.length:Int))=false:=by simp
 go_enter func102,ntmps102;go_wp2_with fail;go_loopw [5] (λi wr=>∃ k:Nat,k<=xs.length/\i = .int .i64 k/\Hid (Below w.heap.size w wr)) (λi _=>xs.length - (intOf i).toNat)
 case atStart=>exact⟨0,jQ _,rfl,jq (vQ _ _)⟩
 case round=>
  obtain⟨k,hk,rfl,HB⟩:=hrel;by_cases ab:k<xs.length
  ·obtain⟨A',c',hA,_,_,bL⟩:=HU.out.keep jt HB.out
   cases hA
   obtain⟨b,o,e,rfl,hb,_,hce,s,hs,_,rfl⟩:=bL k _ (aQ ab);obtain⟨A',c',hA,_,_,Qi⟩:=HV.out.keep jt HB.out
   cases hA
   obtain⟨b',o',e',rfl,hb',_,lj,s',hs',_,rfl⟩:=Qi k _ (aQ ab);have fY:s'=s:=iC (by rw[hs,hs']);subst fY;have f0:wr.cell? ⟨b,o+k,none⟩=some (.string s'):=by have:=hce 0 _ rfl;simpa using this
   have e0:wr.cell? ⟨b',o'+k,none⟩=some (.string s'):=by have:=lj 0 _ rfl;simpa using this
   have cj:=kNN k;have ck:(k:Int)<(xs.length:Int):=by omega
   have mD:(s'.toList == s'.toList)=true:=by simp
   clear bL Qi hce lj hs hs';go_wp2_with fail;go_quiet (fail);go_wp2_with fail;go_roundw
   case rel=>exact⟨k+1,by omega,by go_num,jq (below_drewN HB.out _)⟩
   ·simp[intOf]<;>omega
  ·go_wp2_with fail;go_ret;exact⟨rfl,HB.out⟩
def oh(W:World)(B:Nat)(e:List Value)(x:Np.Held):Prop:=∃ (z s:ByteArray) (dv sv fv pv:Value),e = [.string z,.string s,.int .i64 x.signed.set.type,.int .i64 x.signed.set.life,dv,sv,fv,pv]/\z.data.toList=x.zone/\z.size<=140737488355328/\s.data.toList=x.signed.set.name/\s.size<=140737488355328/\
 SlR ci 3 W B dv x.signed.set.data/\SlR fi 6 W B sv x.signed.sigs/\SlR fj 2 W B fv x.fresh/\SlR fj 2 W B pv x.spans
theorem zH:dl oh:=λ_ _ _ _ _ ⟨z,s,dv,sv,fv,pv,h0,h1,h2,h3,h4,h5,h6,h7,h8⟩ hb=>⟨z,s,dv,sv,fv,pv,h0,h1,h2,h3,h4,h5.keep cJ hb,h6.keep eL hb,h7.keep gN hb,h8.keep gN hb⟩
theorem xx:dy oh:=λ_ _ _ _ _ ⟨z,s,dv,sv,fv,pv,h0,h1,h2,h3,h4,h5,h6,h7,h8⟩ hb=>⟨z,s,dv,sv,fv,pv,h0,h1,h2,h3,h4,h5.more di hb,h6.more fJ hb,h7.more mO hb,h8.more mO hb⟩
theorem Qj{w:World}{B n c:Nat}{A:Option Addr}{xs:List Np.Held}(h:SlR oh 8 w B (.slice A n c) xs){k:Nat}{x:Np.Held}(hx:xs[k]?=some x):∃ (b o:Nat) (z s:ByteArray) (dv sv fv pv:Value),A=some ⟨b,o,none⟩/\b<B/\z.data.toList=x.zone/\s.data.toList=x.signed.set.name/\
 SlR ci 3 w B dv x.signed.set.data/\SlR fi 6 w B sv x.signed.sigs/\SlR fj 2 w B fv x.fresh/\SlR fj 2 w B pv x.spans/\
 w.cell? ⟨b,o+k * 8,none⟩=some (.string z)/\w.cell? ⟨b,o+k * 8+1,none⟩=some (.string s)/\w.cell? ⟨b,o+k * 8+2,none⟩=some (.int .i64 x.signed.set.type)/\w.cell? ⟨b,o+k * 8+3,none⟩=some (.int .i64 x.signed.set.life)/\w.cell? ⟨b,o+k * 8+4,none⟩=some dv/\w.cell? ⟨b,o+k * 8+5,none⟩=some sv/\w.cell? ⟨b,o+k * 8+6,none⟩=some fv/\w.cell? ⟨b,o+k * 8+7,none⟩=some pv:=by
 obtain⟨A',c',hA',_,_,bL⟩:=h
 cases hA'
 obtain⟨b,o,e,hA,b7,hlen,hce,z,s,dv,sv,fv,pv,he,h1,_,h3,_,h5,h6,h7,h8⟩:=bL k _ hx;subst he;exact⟨b,o,z,s,dv,sv,fv,pv,hA,b7,h1,h3,h5,h6,h7,h8,hce 0 _ rfl,hce 1 _ rfl,hce 2 _ rfl,hce 3 _ rfl,hce 4 _ rfl,hce 5 _ rfl,hce 6 _ rfl,hce 7 _ rfl⟩
theorem bbZ(u v:Value)(xs:List Np.Held)(w:World)(hu:SlR oh 8 w w.heap.size u xs)(hv:SlR oh 8 w w.heap.size v xs) :
 Calls prog 32 #[u,v] w (ahZ w.heap.size w (.bool true)):=by
 have HU:=jq hu;have HV:=jq hv;obtain⟨A,c,rfl,bw,bT⟩:=ak hu;obtain⟨A2,c2,rfl,dE,dF⟩:=ak hv;clear hu hv;have Kr:((xs.length:Int) != (xs.length:Int))=false:=by simp
 go_enter func32,ntmps32;go_wp2_with fail;go_loopw [5] (λi wr=>∃ k:Nat,k<=xs.length/\i = .int .i64 k/\Hid (Below w.heap.size w wr)) (λi _=>xs.length - (intOf i).toNat)
 case atStart=>exact⟨0,jQ _,rfl,jq (vQ _ _)⟩
 case round=>
  obtain⟨k,hk,rfl,HB⟩:=hrel;by_cases ab:k<xs.length
  ·obtain⟨b,o,z,s,dv,sv,fv,pv,rfl,hb,hz,hs,aY,aN,J7,Kx,e0,e1,e2,e3,e4,e5,e6,e7⟩:=Qj (HU.out.later zH xx HB.out) (aQ ab);obtain⟨b',o',z',s',dv',sv',fv',pv',rfl,hb',hz',hs',rX,pT,J8,Ky,f0,f1,f2,f3,f4,f5,f6,f7⟩:=Qj (HV.out.later zH xx HB.out) (aQ ab);have fY:s'=s:=iC (by rw[hs,hs']);subst fY;have Ft:z'=z:=iC (by rw[hz,hz']);subst Ft;generalize xs[k]=x at *;have jy:=jq aY;have GW:=jq rX;have lM:=jq aN;have AP:=jq pT;have Vy:=jq J7;have Vz:=jq J8;have vm:=jq Kx;have WH:=jq Ky;obtain⟨S1,m1,rfl,_,_⟩:=ak aN;obtain⟨S2,m2,rfl,_,_⟩:=ak pT;obtain⟨D1,n1,rfl,_,_⟩:=ak aY;obtain⟨D2,n2,rfl,_,_⟩:=ak rX;obtain⟨F1,p1,rfl,_,_⟩:=ak J7;obtain⟨F2,p2,rfl,_,_⟩:=ak J8;obtain⟨G1,q1,rfl,_,_⟩:=ak Kx;obtain⟨G2,q2,rfl,_,_⟩:=ak Ky;have cj:=kNN k;have ck:(k:Int)<(xs.length:Int):=by omega
   have iz:(z'.toList == z'.toList)=true:=by simp
   have nv:∀ (g:bN wr) (p:Addr),p.block<wr.heap.size->g.w.cell? p=wr.cell? p:=λg p h=>g.cell p h;have bP:∀ g:bN wr,Calls prog 20 #[.agg #[.string s',.int .i64 x.signed.set.type,.int .i64 x.signed.set.life,.slice D1 x.signed.set.data.length n1,.slice S1 x.signed.sigs.length m1],.agg #[.string s',.int .i64 x.signed.set.type,.int .i64 x.signed.set.life,.slice D2 x.signed.set.data.length n2,.slice S2 x.signed.sigs.length m2]] g.w λe w'=>e = .returned (.bool true)/\Below g.w.heap.size g.w w':=λg=>
    (TE s' s' _ _ _ _ _ _ _ _ x.signed.set.data x.signed.set.data x.signed.sigs x.signed.sigs g.w (jy.out.later cJ di g.below) (GW.out.later cJ di g.below) (lM.out.later eL fJ g.below) (AP.out.later eL fJ g.below)).mono λe w' h=>⟨by rw[h.1];simp,h.2⟩
   have P6:∀ g:bN wr,Calls prog 21 #[.slice F1 x.fresh.length p1,.slice F2 x.fresh.length p2] g.w λe w'=>e = .returned (.bool true)/\Below g.w.heap.size g.w w':=λg=>
    (Lk _ _ x.fresh x.fresh g.w (Vy.out.later gN mO g.below) (Vz.out.later gN mO g.below)).mono λe w' h=>⟨by rw[h.1];simp,h.2⟩
   have P7:∀ g:bN wr,Calls prog 21 #[.slice G1 x.spans.length q1,.slice G2 x.spans.length q2] g.w λe w'=>e = .returned (.bool true)/\Below g.w.heap.size g.w w':=λg=>
    (Lk _ _ x.spans x.spans g.w (vm.out.later gN mO g.below) (WH.out.later gN mO g.below)).mono λe w' h=>⟨by rw[h.1];simp,h.2⟩
   have jx:=jq bP;have Vj:=jq P6;have Vk:=jq P7;clear bP P6 P7 hs hs' hz hz' aN pT aY rX J7 J8 Kx Ky;go_wp2_with fail;refine agY ?_
   repeat (go_big_quiet_step (fail))
   go_big_quiet_step ((go_at_call 20;exact Calls.grow_of (jx.out _)))
   repeat (go_big_quiet_step (fail))
   go_big_quiet_step ((go_at_call 21;exact Calls.grow_of (Vj.out _)))
   repeat (go_big_quiet_step (fail))
   go_big_quiet_step ((go_at_call 21;exact Calls.grow_of (Vk.out _)))
   repeat (go_big_quiet_step (fail))
   refine wpQuiet_nil ?_;rintro _ ⟨g,rfl⟩;go_wp2_with fail;go_roundw
   case rel=>exact⟨k+1,by omega,by go_num,jq (HB.out.trans (g.below.mono HB.out.size))⟩
   ·simp[intOf]<;>omega
  ·go_wp2_with fail;go_ret;exact⟨rfl,HB.out⟩
theorem Jc{sz:Nat} : ∀ (rows:List (List Value)) (i c:Nat) (u:Value) (r:List Value),(∀ q∈rows,q.length=sz)->c<sz->rows[i]?=some r->rows.flatten.set (i * sz+c) u=(rows.set i (r.set c u)).flatten
 | [],i,c,u,r,_,_,h=>by simp at h
 | q::rows,0,c,u,r,hl,hc,h=>by
   have e:q=r:=by simpa using h
   subst e;rw[List.flatten_cons,Nat.zero_mul,Nat.zero_add,List.set_append_left _ _ (by rw[hl q (by simp)];exact hc),List.set_cons_zero,List.flatten_cons]
 | q::rows,i+1,c,u,r,hl,hc,h=>by
   have hq:=hl q (by simp);have ih:=Jc rows i c u r (λx hx=>hl x (mQ _ hx)) hc (by simpa using h);rw[List.flatten_cons,List.set_append_right _ _ (by rw[hq,Nat.succ_mul];omega),hq,show (i+1) * sz+c - sz=i * sz+c by rw[Nat.succ_mul];omega,ih,List.set_cons_succ,List.flatten_cons]
theorem cC.stored{α:Type}{R:aiQ α}(hk:dl R)(hs:eB R)(hm:dy R){sz:Nat}{e:TypeId}{base:Nat}{M:Nat->Prop}{w:World}{g n cap:Nat}{xs:List α}(h:cC R sz e base M w (.slice (some ⟨g,0,none⟩) n cap) xs)(hn:xs.length=n){i c:Nat}{x y:α}(hi:xs[i]?=some x)(hc:c<sz)(u:Value)
 (hR:∀ r,r.length=sz->R (bG w M) w.heap.size r x->R (bG w M) w.heap.size (r.set c u) y):cC R sz e base M (w.setCell ⟨g,i * sz+c,none⟩ u) (.slice (some ⟨g,0,none⟩) n cap) (xs.set i y):=by
 obtain⟨rows,h1,h2,h3,h4⟩:=h;subst hn;have dw:=(cQ.1 hi).1;have hr:=aQ (show i<rows.length by omega);obtain⟨r,hr'⟩:∃ r,rows[i]?=some r:=⟨_,hr⟩;have hlen:=bD.rows_len (w:=bG w M) (B:=w.heap.size) h1 h4;have vZ:M g:=h3 g rfl;have wJ:Leaves' M w (w.setCell ⟨g,i * sz+c,none⟩ u) M:=Leaves'.setCell M w vZ u;refine⟨rows.set i (r.set c u),by simp[h1],?_,h3,λj q z hq hz=>?_⟩
 ·rw[List.length_set,<-Jc rows i c u r hlen hc hr'];exact (World.ownsRow.stored h2 (i * sz+c) u).1
 ·rw[List.getElem?_set] at hq hz;by_cases de:i=j
  ·subst de;rw[Qb rfl,Qb (by omega)] at hq;rw[Qb rfl,Qb dw] at hz
   cases hq;cases hz
   obtain⟨h5,h6⟩:=h4 i r x hr' hi;exact⟨by rw[List.length_set];exact h5,wJ.read hk hs hm (hR r h5 h6)⟩
  ·rw[Qc de] at hq hz;obtain⟨h5,h6⟩:=h4 j q z hq hz;exact⟨h5,wJ.read hk hs hm h6⟩
theorem cC.frozenAt{α:Type}{R:aiQ α}{sz:Nat}{e:TypeId}{base:Nat}{M:Nat->Prop}{w:World}{g n cap:Nat}{xs:List α}(h:cC R sz e base M w (.slice (some ⟨g,0,none⟩) n cap) xs)(hn:xs.length=n)(j:Nat):w.frozen? ⟨g,j,none⟩=false:=by
 obtain⟨rows,h1,h2,_⟩:=h;subst hn;exact World.ownsRow.frozenAt h2 j
theorem a7Z:eB oh:=λ_ _ _ _ _ _ hM ⟨z,s,dv,sv,fv,pv,h0,h1,h2,h3,h4,h5,h6,h7,h8⟩=>⟨z,s,dv,sv,fv,pv,h0,h1,h2,h3,h4,h5.sans mL hM,h6.sans nS hM,h7.sans (λ_ _ _ _ _ _ _ h=>h) hM,h8.sans (λ_ _ _ _ _ _ _ h=>h) hM⟩
theorem Tx:eB fj:=λ_ _ _ _ _ _ _ h=>h
theorem cC.formSome{α:Type}{R:aiQ α}{sz:Nat}{e:TypeId}{base:Nat}{M:Nat->Prop}{w:World}{v:Value}{xs:List α}{n:Nat}(h:cC R sz e base M w v xs)(hn:xs.length=n)(h0:0<n):∃ g cap,v = .slice (some ⟨g,0,none⟩) n cap/\base<=g/\g<w.heap.size/\M g:=by
 obtain⟨rows,h1,h2,h3,h4⟩:=h;subst hn;rcases h2.2 with ⟨rfl,h⟩ | ⟨g,cap,cur,rfl,hb,hg,_⟩
 ·omega
 ·exact⟨g,cap,rfl,hb,(eQ.1 hg).1,h3 g rfl⟩
def Uw(ps:List (Np.Span×Np.Signed)):Prop:=∀ p∈ps,p.1.frm<p.1.til
theorem LD{ps:List (Np.Span×Np.Signed)}(h:Uw ps)(s:Np.Signed):Np.Ux (Np.f9 ps s):=λ_ ht=>h _ (Np.FC.1 ht)
theorem blQ(ps:List (Np.Span×Np.Signed))(s:Np.Signed):(Np.f9 ps s).length<=ps.length:=by
 unfold Np.f9;rw[List.length_map];exact List.length_filter_le _ _
end
section
open Go.RowKit Go.Shelf
theorem SM{base n:Nat}{w:World}{v:Value}{ps:List Np.Span}(h:aW base w v ps)(hn:ps.length=n):∃ A c,v = .slice A n c:=by subst hn;exact h.form
theorem Tryz.infoHeldA:(prog.info? 57).map (λi=>(i.zero,i.size,i.bytes))=some (some (.agg #[.string ⟨#[]⟩,.string ⟨#[]⟩,.int .i64 0,.int .i64 0,.slice none 0 0,.slice none 0 0,.slice none 0 0,.slice none 0 0]),8,144):=by kernel_rfl
end
section
open Go.RowKit Go.MapKept Go.Shelf
theorem boQ{k:Int}{l:List UInt8}(h:Np.xF k l=true):l.length<=60:=by
 unfold Np.xF at h;split at h
 ·simp only[Bool.and_eq_true] at h;exact (Np.zC h.1).1
 ·split at h
  ·exact (Np.zC h).1
  ·split at h
   ·unfold Np.jT at h;simp only[Bool.and_eq_true,Qa] at h;omega
   ·have:l = []:=by simpa using h
    rw[this];simp
theorem a8Y(k:Int):(Np.ca k).mostN<=1000000/\(Np.ca k).mostM<=1000000:=by
 unfold Np.ca;generalize k.toNat=n;by_cases h:n<9
 ·have:∀ m,m<9->(Np.rules.getD m ⟨0,0,0,0,0,false,false,false⟩).mostN<=1000000/\(Np.rules.getD m ⟨0,0,0,0,0,false,false,false⟩).mostM<=1000000:=by decide
  exact this n h
 ·have e:Np.rules[n]?=none:=List.getElem?_eq_none (by simp[Np.rules];omega);rw[List.getD_eq_getElem?_getD,e];decide
theorem buY{z:Np.Zone}(v:Np.VZone z){x:Np.Signed}(hx:x∈z.sets)(hs:Np.yv x):KeyS x:=by
 obtain⟨ha,hv⟩:=Np.uG v;obtain⟨h1,h2,h3,h4,h5,h6,h7,h8⟩:=Np.zP (hv x hx);have hf:=v.form x hx;refine⟨by have:=(Np.zC h1).1;omega,by omega,by omega,by omega,λd hd=>?_,by have:=hf.1;omega,λg hg=>?_⟩
 ·have hd':=Np.Jf h8 d hd;have hd'':=hd';unfold Np.jV at hd'';simp only[Bool.and_eq_true,Qa] at hd'';obtain⟨⟨⟨⟨a1,a2⟩,a3,a4⟩,_⟩,a5⟩:=hd'';have b1:=Np.TA x.set.type;have b2:=a8Y x.set.type;have b3:=boQ a5;exact⟨by omega,by omega,by omega⟩
 ·obtain⟨i,hi⟩:=List.mem_iff_getElem?.1 hg
  have:=hf.2 i g hi
  have py:=(Np.zC ha).1;have k1:=this.key;have k2:=this.alg;have k3:=this.win;exact⟨by rw[this.zone];omega,by omega,by omega,by omega,by omega,hs g hg⟩
theorem baQ{P:Program}(w:World)(t kt et:TypeId)(ht:P.underlying t=some (.map kt et))(hk:P.underlying kt=some .string)(r:Nat)(kvs:List (List UInt8×Value))(hr:dJ r kvs w)(key:List UInt8)(z:Value)(hz:(zeroValue et).run P w = .ok z w) :
 (Instr.lookup t (.map (some r)) (aI key) true).run P w = .ok (.tuple #[(kvs.lookup key).getD z,.bool (kvs.lookup key).isSome]) w:=by
 obtain⟨es,c,hr,he⟩:=hr;have hf:=Eo key es.toList kvs 0 he;have hc:∀ b,(Instr.checkKey b 10000 kt (aI key)).run P w = .ok () w:=λb=>MapKept.run_checkKey (k:=aI key) hk (by simp[MapKept.IsKey]) b 9999
 cases hl:kvs.lookup key with
 | none=>simp[Instr.lookup,run_underlying ht,MapKept.run_getObj_map hr,hc,MapKept.run_findKey hk (hf.2 hl),Result.andThen,hz]
 | some v=>
  obtain⟨j,hj⟩:=hf.1 v hl;simp[Instr.lookup,run_underlying ht,MapKept.run_getObj_map hr,hc,MapKept.run_findKey hk hj,Result.andThen]
theorem baJ{P:Program}(w:World)(t kt et:TypeId)(ht:P.underlying t=some (.map kt et))(hk:P.underlying kt=some .string)
 (r:Nat) (kvs:List (List UInt8×Value)) (hr:dJ r kvs w) (key:List UInt8) (val:Value) (fG:kvs.lookup key=none) :
 ∃ w',(Instr.mapUpdate t (.map (some r)) (aI key) val).run P w = .ok () w'/\dJ r (kvs ++ [(key,val)]) w'/\Turned r w w':=by
 obtain⟨es,c,hr,he⟩:=hr;have hf:=(Eo key es.toList kvs 0 he).2 fG;have hc:(Instr.checkKey false 10000 kt (aI key)).run P w = .ok () w:=MapKept.run_checkKey (k:=aI key) hk (by simp[MapKept.IsKey]) false 9999;have cY:(Instr.mapUpdate t (.map (some r)) (aI key) val).run P w = .ok () { w with heap:=w.heap.setIfInBounds r (.map (es.push { key:=aI key,val:=val,born:=c }) (c+1)) }:=by
  simp[Instr.mapUpdate,run_underlying ht,MapKept.run_getObj_map hr,hc,MapKept.run_findKey hk hf,MapKept.run_setObj_map _ hr,Result.andThen]
 have hl:r<w.heap.size:=(eQ.1 hr).1;exact⟨_,cY,⟨_,_,by simp[hl];exact⟨rfl,rfl⟩,by simp[he]⟩,⟨rfl,rfl,rfl,by simp,λi hi=>by simp[Ne.symm hi]⟩⟩
theorem dJ.stays{r:Nat}{kvs:List (List UInt8×Value)}{w w':World}(h:dJ r kvs w)(hb:w'.heap[r]?=w.heap[r]?):dJ r kvs w':=by
 obtain⟨es,c,h,h2⟩:=h;exact⟨es,c,hb.trans h,h2⟩
abbrev PT:=Np.Signed×List Np.Span×Value
def qE(zn:ByteArray)(w:World)(B:Nat)(r:List Value)(x:PT):Prop:=∃ (s:ByteArray) (dv sv:Value) (A:Option Addr) (n c:Nat),r = [.string zn,.string s,.int .i64 x.1.set.type,.int .i64 x.1.set.life,dv,sv,x.2.2,.slice none 0 0]/\x.2.2 = .slice A n c/\s.data.toList=x.1.set.name/\s.size<=140737488355328/\
 SlR ci 3 w B dv x.1.set.data/\SlR fi 6 w B sv x.1.sigs
theorem F4(zn:ByteArray):dl (qE zn):=λ_ _ _ _ _ ⟨s,dv,sv,A,n,c,h0,h1,h2,h3,h4,h5⟩ hb=>⟨s,dv,sv,A,n,c,h0,h1,h2,h3,h4.keep cJ hb,h5.keep eL hb⟩
theorem F5(zn:ByteArray):dy (qE zn):=λ_ _ _ _ _ ⟨s,dv,sv,A,n,c,h0,h1,h2,h3,h4,h5⟩ hb=>⟨s,dv,sv,A,n,c,h0,h1,h2,h3,h4.more di hb,h5.more fJ hb⟩
theorem F6(zn:ByteArray):eB (qE zn):=λ_ _ _ _ _ _ hM ⟨s,dv,sv,A,n,c,h0,h1,h2,h3,h4,h5⟩=>⟨s,dv,sv,A,n,c,h0,h1,h2,h3,h4.sans mL hM,h5.sans nS hM⟩
theorem a8J(zn:ByteArray):∀ (w:World) (B:Nat) (r:List Value) (y:PT),qE zn w B r y->∀ u∈r,u.oneCell'=true:=λw B r y ⟨s,dv,sv,A,n,c,h0,h1,_,_,h4,h5⟩ u hu=>by
 obtain⟨_,_,rfl,_⟩:=ak h4;obtain⟨_,_,rfl,_⟩:=ak h5;rw[h0,h1] at hu;simp only[List.mem_cons,Qh,or_false] at hu;rcases hu with rfl | rfl | rfl | rfl | rfl | rfl | rfl | rfl<;>rfl
abbrev yP:TypeId:=57
structure PubR(base:Nat)(M:Nat->Prop)(zn:ByteArray)(xs:List PT)(ov:Value)(w:World):Prop where
 row:cC (qE zn) 8 yP base M w ov xs
 fresh:∀ x∈xs,aW base w x.2.2 x.2.1
 apart:∀ (i j:Nat) (x y:PT) (g:Nat),xs[i]?=some x->xs[j]?=some y->x.2.2.ownBlock=some g->y.2.2.ownBlock=some g->i=j
 off:∀ x∈xs,∀ g,x.2.2.ownBlock=some g->ov.ownBlock≠some g/\M g
def tx(xs:List PT)(ov:Value)(k:Nat):Prop:=ov.ownBlock=some k\/∃ x∈xs,x.2.2.ownBlock=some k
theorem cC.inM{α:Type}{R:aiQ α}{sz:Nat}{e:TypeId}{base:Nat}{M:Nat->Prop}{w:World}{v:Value}{xs:List α}(h:cC R sz e base M w v xs):∀ g,v.ownBlock=some g->M g:=by
 obtain⟨rows,h1,h2,h3,h4⟩:=h;exact h3
section
variable {base:Nat} {M:Nat->Prop} {zn:ByteArray} {xs:List PT} {ov:Value} {w:World}
theorem PubR.lt(h:PubR base M zn xs ov w){k:Nat}(hk:tx xs ov k):base<=k/\k<w.heap.size/\M k:=by
 rcases hk with hk | ⟨x,hx,hk⟩
 ·have:=h.row.lt k hk;exact⟨this.1,this.2,h.row.inM k hk⟩
 ·have:=World.ownsRow.lt (h.fresh x hx) k hk;exact⟨this.1,this.2,(h.off x hx k hk).2⟩
theorem PubR.leaves(h:PubR base M zn xs ov w){M':Nat->Prop}{w':World}(hl:Leaves' M w w' M')(hk:∀ g,tx xs ov g->w'.heap[g]?=w.heap[g]?/\M' g):PubR base M' zn xs ov w':=
 ⟨h.row.leaves (F4 zn) (F6 zn) (F5 zn) hl (λg hg=>hk g (.inl hg)),λx hx=>dS (h.fresh x hx) (λg hg=>(hk g (.inr ⟨x,hx,hg⟩)).1),h.apart,λx hx g hg=>⟨(h.off x hx g hg).1,(hk g (.inr ⟨x,hx,hg⟩)).2⟩⟩
theorem PubR.keep(h:PubR base M zn xs ov w){w':World}(hb:Below w.heap.size w w'):PubR base M zn xs ov w':=
 h.leaves (Leaves'.of_below hb) (λg hg=>⟨hb.block g (h.lt hg).2.1,(h.lt hg).2.2⟩)
theorem PubR.trim(h:PubR base M zn xs ov w):PubR base (λk=>M k/\k<w.heap.size) zn xs ov w:=
 h.leaves ((Leaves'.refl M w).more (λ_ e=>.inl e.1)) (λ_ hg=>⟨rfl,(h.lt hg).2.2,(h.lt hg).2.1⟩)
theorem PubR.nil(base:Nat)(M:Nat->Prop)(zn:ByteArray)(w:World):PubR base M zn [] (.slice none 0 0) w:=
 ⟨cC.nil w,(λx hx=>by cases hx),(λi j x y g h=>by simp at h),(λx hx=>by cases hx)⟩
theorem PubR.pushed(h:PubR base M zn xs ov w){s:Np.Signed}{v':Value}{w':World}(ho:cC (qE zn) 8 yP base (λk=>M k\/v'.ownBlock=some k) w' v' (xs ++ [(s,[],.slice none 0 0)]))(hg:w.grownBy w' ov.ownBlock)(hat:v'.ownBlock=ov.ownBlock\/v'.ownBlock=some w.heap.size) :
 PubR base (λk=>M k\/v'.ownBlock=some k) zn (xs ++ [(s,[],.slice none 0 0)]) v' w':=by
 have get:∀ (k:Nat) (z:PT) (b:Nat),(xs ++ [((s,[],Value.slice none 0 0):PT)])[k]?=some z->z.2.2.ownBlock=some b->xs[k]?=some z:=λk z b hz iz=>by
  rw[List.getElem?_append] at hz;split at hz
  ·exact hz
  ·have:=gQ hz
   rw[List.mem_singleton] at this;subst this;simp[Value.ownBlock] at iz
 refine⟨ho,λx hx=>?_,λi j x y b hx hy cF ip=>h.apart i j x y b (get i x b hx cF) (get j y b hy ip) cF ip,λx hx g wl=>?_⟩
 ·rcases List.mem_append.1 hx with hx | hx
  ·exact dS (h.fresh x hx) (λg wl=>hg.block g (World.ownsRow.lt (h.fresh x hx) g wl).2 (λe=>(h.off x hx g wl).1 e.symm))
  ·rw[List.mem_singleton] at hx;subst hx;exact aW.nil _ _
 ·rcases List.mem_append.1 hx with hx | hx
  ·refine⟨λe=>?_,.inl (h.off x hx g wl).2⟩;rcases hat with e' | e'
   ·exact (h.off x hx g wl).1 (e' ▸ e)
   ·rw[e'] at e
    have:=(World.ownsRow.lt (h.fresh x hx) g wl).2
    have:=Option.some.inj e
    omega
  ·rw[List.mem_singleton] at hx;subst hx;simp[Value.ownBlock] at wl
theorem PubR.changed{g0 n cap:Nat}(h:PubR base M zn xs (.slice (some ⟨g0,0,none⟩) n cap) w)(hn:xs.length=n){i:Nat}{x:PT}(hi:xs[i]?=some x){v':Value}{ps':List Np.Span}{w':World}(gZ:w'.os=w.os)(htp:w'.tape=w.tape)(hou:w'.output=w.output)(ay:w.heap.size<=w'.heap.size)
 (EX:∀ k,k<w.heap.size->x.2.2.ownBlock≠some k->w'.heap[k]?=w.heap[k]?) (ho:aW base w' v' ps') (hat:∀ k,v'.ownBlock=some k->x.2.2.ownBlock=some k\/w.heap.size<=k) :
 PubR base (λk=>M k\/v'.ownBlock=some k) zn (xs.set i (x.1,ps',v')) (.slice (some ⟨g0,0,none⟩) n cap) (w'.setCell ⟨g0,i * 8+6,none⟩ v'):=by
 have hx:=gQ hi;have dw:=(cQ.1 hi).1;have hg0:=h.row.lt g0 rfl;have wJ:Leaves' M w w' (λk=>M k\/v'.ownBlock=some k):=⟨gZ,htp,hou,ay,λk hk hm=>⟨λe=>by
  rcases e with e | e
  ·exact hm e
  ·rcases hat k e with e | e
   ·exact hm (h.off x hx k e).2
   ·omega,EX k hk (λe=>hm (h.off x hx k e).2)⟩⟩
 have azJ:=h.row.leaves (F4 zn) (F6 zn) (F5 zn) wJ (λg hg=>⟨EX g (h.row.lt g hg).2 (λe=>(h.off x hx g e).1 hg),.inl (h.row.inM g hg)⟩);have azK:=cC.stored (F4 zn) (F6 zn) (F5 zn) (y:=(x.1,ps',v')) azJ hn hi (c:=6) (by omega) v' (λr hr hR=>by
  obtain⟨s,dv,sv,A,n,c,rfl,h1,h2,h3,h4,h5⟩:=hR;obtain⟨A',c',rfl⟩:=oN ho;exact⟨s,dv,sv,A',_,c',rfl,rfl,h2,h3,h4,h5⟩)
 have zl:v'.ownBlock≠some g0:=λe=>by
  rcases hat g0 e with e | e
  ·exact (h.off x hx g0 e).1 rfl
  ·omega
 have uh:∀ k,k≠g0->(w'.setCell ⟨g0,i * 8+6,none⟩ v').heap[k]?=w'.heap[k]?:=λk hk=>wQ _ _ _ _ hk;refine⟨azK,λy hy=>?_,λa b y z g hy hz fq gG=>?_,λy hy g fq=>?_⟩
 ·obtain⟨j,hj,rfl⟩:=nQ.1 hy;rw[List.length_set] at hj;rw[List.getElem_set];split
  ·exact dS ho (λg hg=>uh g (λe=>zl (e ▸ hg)))
  ·rename_i hne;have hj':=List.getElem_mem hj;refine dS (h.fresh _ hj') (λg hg=>(uh g (λe=>(h.off _ hj' g hg).1 (by rw[e];rfl))).trans (EX g (World.ownsRow.lt (h.fresh _ hj') g hg).2 (λe=>hne (h.apart i j _ _ g hi (aQ hj) e hg))))
 ·have get:∀ (k:Nat) (z:PT),(xs.set i (x.1,ps',v'))[k]?=some z->(k=i/\z.2.2=v')\/(k≠i/\xs[k]?=some z):=λk z hz=>by
   rw[List.getElem?_set] at hz;split at hz
   ·rename_i e;subst e
    first | rw[Qb dw] at hz | skip
    cases hz
    exact .inl ⟨rfl,rfl⟩
   ·rename_i e;exact .inr ⟨λe'=>e e'.symm,hz⟩
  rcases get a y hy with ⟨rfl,ey⟩ | ⟨na,hy'⟩
  ·rcases get b z hz with ⟨rfl,_⟩ | ⟨nb,hz'⟩
   ·rfl
   ·rw[ey] at fq;rcases hat g fq with e | e
    ·exact h.apart a b _ _ g hi hz' e gG
    ·have:=(World.ownsRow.lt (h.fresh z (gQ hz')) g gG).2
     omega
  ·rcases get b z hz with ⟨rfl,ez⟩ | ⟨nb,hz'⟩
   ·rw[ez] at gG;rcases hat g gG with e | e
    ·exact h.apart a b _ _ g hy' hi fq e
    ·have:=(World.ownsRow.lt (h.fresh y (gQ hy')) g fq).2
     omega
   ·exact h.apart a b _ _ g hy' hz' fq gG
 ·obtain⟨j,hj,rfl⟩:=nQ.1 hy;rw[List.length_set] at hj;rw[List.getElem_set] at fq;split at fq
  ·exact⟨λe=>zl (by rw[fq];exact e.symm ▸ rfl),.inr fq⟩
  ·exact⟨(h.off _ (List.getElem_mem hj) g fq).1,.inl (h.off _ (List.getElem_mem hj) g fq).2⟩
theorem PubR.slr(h:PubR base M zn xs ov w)(hz:zn.size<=140737488355328)(hl:xs.length<=140737488355328)(vX:∀ x∈xs,x.2.1.length<=140737488355328){Mq:Nat->Prop}(hM:∀ k,Mq k->M k/\¬ tx xs ov k):SlR oh 8 (bG w Mq) w.heap.size ov (xs.map λx=>⟨zn.data.toList,x.1,x.2.1,[]⟩):=by
 obtain⟨rows,h1,h2,h3,h4⟩:=h.row;have h5:bD oh 8 yP base w.heap.size (bG w Mq) ov (xs.map λx=>(⟨zn.data.toList,x.1,x.2.1,[]⟩:Np.Held)):=by
  refine⟨rows,by simp[h1],?_,λi r y hr hy=>?_⟩
  ·rw[List.length_map];exact dS h2 (λg hg=>lD (λhm=>(hM g hm).2 (.inl hg)))
  ·rw[List.getElem?_map] at hy;obtain⟨x,hx,rfl⟩:=Option.map_eq_some_iff.1 hy;obtain⟨h6,s,dv,sv,A,n,c,rfl,e1,e2,e3,e4,e5⟩:=h4 i r x hr hx;have zr:=gQ hx;have h7:aW base (bG w Mq) x.2.2 x.2.1:=dS (h.fresh x zr) (λg hg=>lD (λhm=>(hM g hm).2 (.inr ⟨x,zr,hg⟩)));have h8:=h7.slr (vX x zr);rw[gj] at h8;exact⟨h6,zn,s,dv,sv,x.2.2,.slice none 0 0,rfl,rfl,hz,e2,e3,e4.sans mL (λk hk=>(hM k hk).1),e5.sans nS (λk hk=>(hM k hk).1),h8,⟨none,0,rfl,by simp,by simp,λi x hx=>by simp at hx⟩⟩
 have h6:=h5.slr xx (by rw[gj];exact bQ _) (by rw[List.length_map];exact hl);rwa [gj] at h6
end
structure PubK(S:Nat->Prop)(w2:World)(base:Nat)(zn:ByteArray)(M:Nat->Prop)(xs:List PT)(ov:Value)(w:World):Prop where
 rows:PubR base M zn xs ov w
 lt:∀ k,M k->k<w.heap.size
 ex:∀ k,k<w2.heap.size->¬ S k->M k
 own:∀ k,tx xs ov k->S k\/w2.heap.size<=k
 rd:RdStep S w2 w
section
variable {S:Nat->Prop} {w2:World} {base:Nat} {M:Nat->Prop} {zn:ByteArray} {xs:List PT} {ov:Value} {w:World}
theorem PubK.start(h:PubR base M zn xs ov w)(hex:∀ k,¬ S k->M k)(hown:∀ k,tx xs ov k->S k):PubK S w base zn (λk=>M k/\k<w.heap.size) xs ov w:=
 ⟨h.trim,λ_ e=>e.2,λk hk hs=>⟨hex k hs,hk⟩,λk e=>.inl (hown k e),RdStep.refl _ _⟩
theorem PubK.keep(h:PubK S w2 base zn M xs ov w){w':World}(hb:Below w.heap.size w w'):PubK S w2 base zn M xs ov w':=
 ⟨h.rows.keep hb,λk e=>lQ (h.lt k e) hb.size,h.ex,h.own,h.rd.then_below hb⟩
theorem PubK.touch(h:PubK S w2 base zn M xs ov w){b:Nat}(hM:M b)(hS:S b\/w2.heap.size<=b)(hn:¬ tx xs ov b){w':World}(ht:Turned b w w'):PubK S w2 base zn M xs ov w':=
 ⟨h.rows.leaves ⟨ht.os,ht.tape,ht.output,Nat.le_of_eq ht.size.symm,λk hk hm=>⟨hm,ht.block k (λe=>hm (e ▸ hM))⟩⟩ (λg hg=>⟨ht.block g (λe=>hn (e ▸ hg)),(h.rows.lt hg).2.2⟩),λk e=>by rw[ht.size];exact h.lt k e,h.ex,h.own,
  ⟨ht.os.trans h.rd.os,ht.tape.trans h.rd.tape,ht.output.trans h.rd.output,by rw[ht.size];exact h.rd.size,λk hk hs=>(ht.block k (λe=>by
   subst e;rcases hS with hS | hS
   ·exact hs hS
   ·omega)).trans (h.rd.keep k hk hs)⟩⟩
theorem PubK.push(h:PubK S w2 base zn M xs ov w){s:Np.Signed}{v':Value}{w':World}(ho:cC (qE zn) 8 yP base (λk=>M k\/v'.ownBlock=some k) w' v' (xs ++ [(s,[],.slice none 0 0)]))(hg:w.grownBy w' ov.ownBlock)(hat:v'.ownBlock=ov.ownBlock\/v'.ownBlock=some w.heap.size) :
 PubK S w2 base zn (λk=>M k\/v'.ownBlock=some k) (xs ++ [(s,[],.slice none 0 0)]) v' w':=by
 refine⟨h.rows.pushed ho hg hat,λk e=>?_,λk hk hs=>.inl (h.ex k hk hs),λk e=>?_,h.rd.grown hg (λk e=>h.own k (.inl e))⟩
 ·rcases e with e | e
  ·exact lQ (h.lt k e) hg.size
  ·exact (ho.lt k e).2
 ·rcases e with e | ⟨x,hx,e⟩
  ·rcases hat with e' | e'
   ·exact h.own k (.inl (e' ▸ e))
   ·rw[e'] at e
    have:=Option.some.inj e
    have:=h.rd.size
    exact .inr (by omega)
  ·rcases List.mem_append.1 hx with hx | hx
   ·exact h.own k (.inr ⟨x,hx,e⟩)
   ·rw[List.mem_singleton] at hx;subst hx;simp[Value.ownBlock] at e
theorem PubK.changed{g0 n cap:Nat}(h:PubK S w2 base zn M xs (.slice (some ⟨g0,0,none⟩) n cap) w)(hn:xs.length=n){i:Nat}{x:PT}(hi:xs[i]?=some x){v':Value}{ps':List Np.Span}{w':World}(hg:w.grownBy w' x.2.2.ownBlock)(ho:aW base w' v' ps')(hat:v'.ownBlock=x.2.2.ownBlock\/v'.ownBlock=some w.heap.size) :
 PubK S w2 base zn (λk=>M k\/v'.ownBlock=some k) (xs.set i (x.1,ps',v')) (.slice (some ⟨g0,0,none⟩) n cap) (w'.setCell ⟨g0,i * 8+6,none⟩ v'):=by
 have hx:=gQ hi;have yL:∀ k,v'.ownBlock=some k->x.2.2.ownBlock=some k\/w.heap.size<=k:=λk e=>by
  rcases hat with e' | e'
  ·exact .inl (e' ▸ e)
  ·rw[e'] at e;exact .inr (Nat.le_of_eq (Option.some.inj e))
 have hr:=h.rows.changed hn hi hg.os hg.tape hg.output hg.size (λk hk hne=>hg.block k hk (λe=>hne e.symm)) ho yL;have hz:(w'.setCell ⟨g0,i * 8+6,none⟩ v').heap.size=w'.heap.size:=by simp[World.setCell]
 refine⟨hr,λk e=>?_,λk hk hs=>.inl (h.ex k hk hs),λk e=>?_,(h.rd.grown hg (λk e=>h.own k (.inr ⟨x,hx,e⟩))).setCell (h.own g0 (.inl rfl)) _⟩
 ·rw[hz];rcases e with e | e
  ·exact lQ (h.lt k e) hg.size
  ·exact (World.ownsRow.lt ho k e).2
 ·rcases e with e | ⟨y,hy,e⟩
  ·exact h.own k (.inl e)
  ·rcases List.mem_or_eq_of_mem_set hy with hy | rfl
   ·exact h.own k (.inr ⟨y,hy,e⟩)
   ·rcases yL k e with e | e
    ·exact h.own k (.inr ⟨x,hx,e⟩)
    ·have:=h.rd.size
     exact .inr (by omega)
theorem PubK.stop(h:PubK S w2 base zn M xs ov w):PubR base (λk=>M k\/¬ (S k\/(w2.heap.size<=k/\k<w.heap.size))) zn xs ov w/\(∀ k,tx xs ov k->S k\/(w2.heap.size<=k/\k<w.heap.size)):=by
 refine⟨h.rows.leaves ⟨rfl,rfl,rfl,bQ _,λk hk hm=>⟨λe=>?_,rfl⟩⟩ (λg hg=>⟨rfl,.inl (h.rows.lt hg).2.2⟩),λk e=>(h.own k e).imp id (λe2=>⟨e2,(h.rows.lt e).2.1⟩)⟩;rcases e with e | e
 ·exact hm e
 ·by_cases hs:S k
  ·exact e (.inl hs)
  ·by_cases lk:k<w2.heap.size
   ·exact hm (h.ex k lk hs)
   ·exact e (.inr ⟨by omega,hk⟩)
end
theorem Ul(w:World){o:Oper}{a:Act}{K:Act->World->Prop}{Q:Exit->Act->World->Prop}(s x:Operand)(ho:o.op = .call { callee:=.builtin .append,args:=#[s,x],argTypes:=#[55,55] })
 (base:Nat) (v:Value) (ps:List Np.Span) (hs:a.eval s=v) (hown:aW base w v ps) (blk:Nat) (f u:Int) (hx:a.eval x = .slice (some ⟨blk,0,none⟩) 1 1) (hc:w.cell? ⟨blk,0,none⟩=some (.int .i64 f)) (bw:w.cell? ⟨blk,1,none⟩=some (.int .i64 u)) (hlen:ps.length<=100000) (dM:base<=w.heap.size)
 (h:∀ v' w',aW base w' v' (ps ++ [⟨f,u⟩])->w.grownBy w' v.ownBlock->(v'.ownBlock=v.ownBlock\/v'.ownBlock=some w.heap.size)->K (a.put o.dst v') w'):o.wp prog a w K Q:=by
 obtain⟨i0,hi,dP,bF,aO⟩:=info_parts Tryz.infoSpan;obtain⟨v',w',cY,r1,r2,_,r4⟩:=run_append_own_at (P:=prog) w base 55 o.type 110 i0 (.agg #[.int .i64 0,.int .i64 0]) 2 16 underlying55 hi dP bF aO rfl (by decide) v ps.length (ps.map fP).flatten hown ⟨blk,0,none⟩ 1 1 [.int .i64 f,.int .i64 u] rfl (by
  intro j y hj
  match j,hj with
  | 0,hj=>simp at hj;subst hj;simpa [Addr.add] using hc
  | 1,hj=>simp at hj;subst hj;simpa [Addr.add] using bw) (by simp[Value.oneCell']) (by unfold maxLen;omega) (by omega) dM
 unfold Oper.wp execOp;simp only[ho,resolve,invoke,builtin,Sem.run_bind,Sem.run_pure,Result.andThen_ok,List.map_toArray,List.map_cons,List.map_nil,hs,hx,cY];refine h v' w' ?_ r2 r4;have e:(List.map fP (ps ++ [(⟨f,u⟩:Np.Span)])).flatten=(ps.map fP).flatten ++ [.int .i64 f,.int .i64 u]:=by simp[fP]
 unfold aW;rw[List.length_append,List.length_singleton,e];exact r1
theorem aQY{us:List PT}{ps:List (Np.Span×Np.Signed)}(h:us.map (λx=>(x.1,x.2.1))=Np.en ps){i:Nat}{s:Np.Signed}(hs:(Np.dH (ps.map (·.2)))[i]?=some s):∃ v,us[i]?=some (s,Np.f9 ps s,v):=by
 have h1:(us.map (λx=>(x.1,x.2.1)))[i]?=(Np.en ps)[i]?:=by rw[h]
 unfold Np.en at h1;rw[List.getElem?_map,List.getElem?_map,hs,Option.map_some] at h1;obtain⟨⟨a,b,v⟩,hx,he⟩:=Option.map_eq_some_iff.1 h1;simp only[Prod.mk.injEq] at he;obtain⟨rfl,rfl⟩:=he;exact⟨v,hx⟩
theorem FE{us:List PT}{ps:List (Np.Span×Np.Signed)}(h:us.map (λx=>(x.1,x.2.1))=Np.en ps):us.map (·.1)=Np.dH (ps.map (·.2)):=by
 rw[<-Np.aQQ,<-h,List.map_map];rfl
theorem Sw{us:List PT}{ps:List (Np.Span×Np.Signed)}(h:us.map (λx=>(x.1,x.2.1))=Np.en ps):us.length<=ps.length:=by
 have h1:=Qd List.length h;rw[List.length_map,Np.aQJ] at h1;have h2:=Np.Db (ps.map (·.2));rw[List.length_map] at h2;omega
theorem aRZ{us:List PT}{ps:List (Np.Span×Np.Signed)}(h:us.map (λx=>(x.1,x.2.1))=Np.en ps){i:Nat}{s:Np.Signed}(hs:(Np.dH (ps.map (·.2)))[i]?=some s)(sp:Np.Span)(v':Value):(us.set i (s,Np.f9 ps s ++ [sp],v')).map (λx=>(x.1,x.2.1))=Np.en (ps ++ [(sp,s)]):=by
 rw[List.map_set,h,Np.aQX (p:=(sp,s)) hs]
theorem aRQ{us:List PT}{ps:List (Np.Span×Np.Signed)}(h:us.map (λx=>(x.1,x.2.1))=Np.en ps){s:Np.Signed}(hs:s∉Np.dH (ps.map (·.2)))(sp:Np.Span)(v0 v':Value):((us ++ [((s,[],v0):PT)]).set us.length (s,[] ++ [sp],v')).map (λx=>(x.1,x.2.1))=Np.en (ps ++ [(sp,s)]):=by
 rw[List.set_append_right _ _ (bQ _),Nat.sub_self,List.set_cons_zero,List.map_append,h,Np.aQK (p:=(sp,s)) hs];rfl
theorem TI{us:List PT}{i:Nat}{x y:PT}(h:us[i]?=some x)(hy:y.1=x.1):(us.set i y).map (·.1)=us.map (·.1):=by
 rw[List.map_set];apply List.ext_getElem?;intro j;rw[List.getElem?_set];split
 ·rename_i e;subst e;have hl:=(cQ.1 h).1
  first | rw[List.length_map,Qb hl,List.getElem?_map,h,Option.map_some,hy] | (rw[List.getElem?_map,h,Option.map_some,hy])
 ·rfl
theorem J3{base:Nat}{M:Nat->Prop}{zn:ByteArray}{w:World}{g n cap:Nat}{xs:List PT}(h:cC (qE zn) 8 yP base M w (.slice (some ⟨g,0,none⟩) n cap) xs){k:Nat}{x:PT}(hx:xs[k]?=some x):w.cell? ⟨g,k * 8+6,none⟩=some x.2.2:=by
 obtain⟨rows,h1,h2,h3,h4⟩:=h;have hl:=bD.rows_len (w:=bG w M) (B:=w.heap.size) h1 h4;have hk:=(cQ.1 hx).1;have hr:=aQ (show k<rows.length by omega);obtain⟨r,hr'⟩:∃ r,rows[k]?=some r:=⟨_,hr⟩;obtain⟨h5,s,dv,sv,A,n',c,he,_⟩:=h4 k r x hr' hx;have h6:rows.flatten[k * 8+6]?=some x.2.2:=by
  have h7:=Jc rows k 6 x.2.2 r hl (by omega) hr';have h8:r.set 6 x.2.2=r:=by rw[he];rfl
  rw[h8] at h7;have h9:rows.set k r=rows:=by
   apply List.ext_getElem?;intro i;rw[List.getElem?_set];split
   ·rename_i e;subst e;rw[Qb (by omega),hr']
   ·rfl
  rw[h9] at h7;rw[<-h7,List.getElem?_set,Qb rfl,Qb];rw[h2.1];omega
 have h7:=h2.cells (g:=g) rfl _ _ h6;simpa [Addr.add] using h7
end
section
open Go.RowKit
def Np.qD(h:Np.Hist)(z:List UInt8):Prop:=Np.VHist h/\Np.al z=true
def Np.yt(h:Np.Hist)(z:List UInt8):Prop:=∃ c∈h.copies,c.zone.apex=z
theorem a4Z(e:List Value)(h:Np.Hist)(hf:Np.tc h)(w:World)(hh:ik w w.heap.size e h) :
 Calls prog 44 #[.agg e.toArray] w (ahZ w.heap.size w (.bool (Np.yes (Np.VHist h)))):=by
 obtain⟨hv,cv,s,dv,cU,rfl,h1,h2,h3,h4,h5,h6⟩:=hh;obtain⟨hosts,copies,⟨name,ty,life,data⟩,hints,drift,stop⟩:=h;dsimp only at h1 h3 h4 h5 h6;subst h1;exact a4J _ hosts _ copies s h2 ty life _ data _ hints drift stop hf.1 hf.2 _ h3 h4 h5 h6
end
section
open Go.RowKit Go.MapKept Go.Shelf
def rb(l:List (Np.Signed×List Np.Span))(i:Nat):List (Np.Signed×List Np.Span):=(l.take i).map (λx=>(x.1,Np.eI x.2))++l.drop i
theorem aUJ(l:List (Np.Signed×List Np.Span)):rb l 0=l:=by simp[rb]
theorem aUQ{l:List (Np.Signed×List Np.Span)}{i:Nat}(h:l.length=i):rb l i=l.map λx=>(x.1,Np.eI x.2):=by
 unfold rb;rw[kQ (by omega),List.drop_of_length_le (by omega),List.append_nil]
theorem SE{us:List PT}{l:List (Np.Signed×List Np.Span)}{i:Nat}(h:us.map (λx=>(x.1,x.2.1))=rb l i)(hi:i<l.length):∃ x,us[i]?=some x/\l[i]?=some (x.1,x.2.1):=by
 have h1:(us.map (λx=>(x.1,x.2.1)))[i]?=l[i]?:=by
  rw[h];unfold rb;rw[oQ (by simp only[List.length_map,List.length_take];omega),List.length_map,List.length_take,List.getElem?_drop];congr 1;omega
 rw[List.getElem?_map,aQ hi] at h1;obtain⟨x,hx,he⟩:=Option.map_eq_some_iff.1 h1;exact⟨x,hx,by rw[aQ hi,he]⟩
theorem aUZ{us:List PT}{l:List (Np.Signed×List Np.Span)}{i:Nat}(h:us.map (λx=>(x.1,x.2.1))=rb l i)(hi:i<l.length){x:PT}(hx:us[i]?=some x)(v':Value):(us.set i (x.1,Np.eI x.2.1,v')).map (λx=>(x.1,x.2.1))=rb l (i+1):=by
 obtain⟨y,hy,hl⟩:=SE h hi;rw[hx] at hy
 cases hy
 rw[List.map_set,h];obtain⟨hi',he⟩:=cQ.1 hl;unfold rb;rw[List.set_append_right _ _ (by simp only[List.length_map,List.length_take];omega),List.length_map,List.length_take,show i - min i l.length=0 by omega,sQ hi',List.set_cons_zero,fQ hi',List.map_append,List.map_singleton,he,List.append_assoc];rfl
section
variable {S:Nat->Prop} {w2:World} {base:Nat} {M:Nat->Prop} {zn:ByteArray} {xs:List PT} {w:World}
theorem PubK.normed{g0 n cap:Nat}(h:PubK S w2 base zn M xs (.slice (some ⟨g0,0,none⟩) n cap) w)(hn:xs.length=n){i:Nat}{x:PT}(hi:xs[i]?=some x){v':Value}{ps':List Np.Span}{w':World}(hb:Below w.heap.size w w')(ho:aW w.heap.size w' v' ps')(oz:base<=w.heap.size) :
 PubK S w2 base zn (λk=>M k\/v'.ownBlock=some k) (xs.set i (x.1,ps',v')) (.slice (some ⟨g0,0,none⟩) n cap) (w'.setCell ⟨g0,i * 8+6,none⟩ v'):=by
 have hx:=gQ hi;have hr:=h.rows.changed hn hi hb.os hb.tape hb.output hb.size (λk hk _=>hb.block k hk) (ho.weak oz) (λk e=>.inr (ho.lt k e).1);have hz:(w'.setCell ⟨g0,i * 8+6,none⟩ v').heap.size=w'.heap.size:=by simp[World.setCell]
 have h2:=h.rd.size;refine⟨hr,λk e=>?_,λk hk hs=>.inl (h.ex k hk hs),λk e=>?_,(h.rd.then_below hb).setCell (h.own g0 (.inl rfl)) _⟩
 ·rw[hz];rcases e with e | e
  ·exact lQ (h.lt k e) hb.size
  ·exact (ho.lt k e).2
 ·rcases e with e | ⟨y,hy,e⟩
  ·exact h.own k (.inl e)
  ·rcases List.mem_or_eq_of_mem_set hy with hy | rfl
   ·exact h.own k (.inr ⟨y,hy,e⟩)
   ·have:=(ho.lt k e).1
    exact .inr (by omega)
theorem PubK.calm{ov:Value}(h:PubK S w2 base zn M xs ov w){T:Nat->Prop}(hT:∀ k,T k->k<w2.heap.size/\¬ S k){w':World}(hl:w'.os=w.os/\w'.tape=w.tape/\w'.output=w.output)(hz:w'.heap.size=w.heap.size)(hk:∀ k,¬ T k->w'.heap[k]?=w.heap[k]?):PubR base M zn xs ov w':=
 h.rows.leaves ⟨hl.1,hl.2.1,hl.2.2,Nat.le_of_eq hz.symm,λk _ hm=>⟨hm,hk k (λe=>hm (h.ex k (hT k e).1 (hT k e).2))⟩⟩ (λg hg=>⟨hk g (λe=>by
  have h1:=hT g e;rcases h.own g hg with h2 | h2
  ·exact h1.2 h2
  ·omega),(h.rows.lt hg).2.2⟩)
end
theorem Np.aZX{h:Np.Hist}{zone:List UInt8}{s:Np.Signed}{p:Np.Span}(hp:p∈Np.f9 (Np.gx h.copies zone) s)(hv:Np.VHist h):Np.Eb p:=by
 unfold Np.f9 at hp;obtain⟨q,hq,rfl⟩:=List.mem_map.1 hp;have hq:=(List.mem_filter.1 hq).1;obtain⟨c,hc,_,_,he⟩:=Np.CW.1 hq;have h1:=(hv.each c hc).times;have h2:=hv.stop;rw[he];exact⟨h1.1,h1.2.1,by show c.til<=20000000;omega⟩
theorem Np.LC(ps:List (Np.Span×Np.Signed))(s:Np.Signed):(Np.f9 ps s).length<=ps.length:=by
 unfold Np.f9;rw[List.length_map];exact List.length_filter_le _ _
theorem Np.Sx{ps:List (Np.Span×Np.Signed)}{i:Nat}{s:Np.Signed}{l:List Np.Span}(h:(Np.en ps)[i]?=some (s,l)):l=Np.f9 ps s:=by
 unfold Np.en at h;rw[List.getElem?_map] at h;obtain⟨x,_,he⟩:=Option.map_eq_some_iff.1 h
 cases he
 rfl
end
section
open Go.RowKit Go.Shelf
attribute [local go_sem] Oper.semAt_some CV.cells
def jE(X:Nat)(A1:Option Addr)(n1 c1:Nat)(s:ByteArray)(ty life:Int)(A3:Option Addr)(n3 c3:Nat)(A4:Option Addr)(n4 c4:Nat)(e:Nat->Value)(i:Nat):Value:=[.pointer (some ⟨X,0,none⟩),.slice A1 n1 c1,e 2,.pointer (some ⟨X,2,none⟩),.agg #[.string s,.int .i64 ty,.int .i64 life,.slice A3 n3 c3],.pointer (some ⟨X,6,none⟩),.slice A4 n4 c4,e 7,.agg #[(e 2),.slice none 0 0,.string s,.int .i64 ty,.int .i64 life,.slice A3 n3 c3,(e 7)],e 9,undef].getD i undef
def tC(i:Nat):Nat:=[25,26,27,28,29,30,31,32,33,6,0].getD i 0
def mu(i:Nat):List Nat:=[[],[],[2],[],[],[],[],[7],[2,7],[9],[]].getD i []
theorem OC(X:Nat)(A1:Option Addr)(n1 c1:Nat)(s:ByteArray)(ty life:Int)(A3:Option Addr)(n3 c3:Nat)(A4:Option Addr)(n4 c4:Nat)(i:Nat)(e e':Nat->Value)(h:∀ j∈mu i,e j=e' j):jE X A1 n1 c1 s ty life A3 n3 c3 A4 n4 c4 e i=jE X A1 n1 c1 s ty life A3 n3 c3 A4 n4 c4 e' i:=by
 match i,h with
 | 0,_=>rfl
 | 1,_=>rfl
 | 2,h=>simp[jE,h 2 (by simp[mu])]
 | 3,_=>rfl
 | 4,_=>rfl
 | 5,_=>rfl
 | 6,_=>rfl
 | 7,h=>simp[jE,h 7 (by simp[mu])]
 | 8,h=>simp[jE,h 2 (by simp[mu]),h 7 (by simp[mu])]
 | 9,h=>simp[jE,h 9 (by simp[mu])]
 | 10,_=>rfl
 | _+11,_=>rfl
def Ef(v2 v7:Value)(b i:Nat):Value:=if i=2 then v2 else if i=7 then v7 else .pointer (some ⟨b,0,none⟩)
theorem Yx{e:Nat->Value}{v2 v7:Value}{b i j:Nat}(h2:e 2=v2)(h7:e 7=v7)(h9:e 9 = .pointer (some ⟨b,0,none⟩))(hj:j∈mu i):e j=Ef v2 v7 b j:=by
 have hT:j=2\/j=7\/j=9:=by
  match i,hj with
  | 0,hj | 1,hj | 2,hj | 3,hj | 4,hj | 5,hj | 6,hj | 7,hj | 8,hj | 9,hj | 10,hj=>simp[mu] at hj<;>omega
  | _+11,hj=>simp[mu] at hj
 rcases hT with rfl | rfl | rfl
 ·exact h2
 ·exact h7
 ·exact h9
def iJ(zb:Nat)(zv:Value)(ss:ByteArray)(sty slf:Int)(dA:Option Addr)(dn dc:Nat)(gA:Option Addr)(gn gc:Nat)(e3:Value)(e4:Value)(e5:Value)(i:Nat):Value:=[.pointer (some ⟨zb,1,none⟩),zv,.agg #[.string ss,.int .i64 sty,.int .i64 slf,.slice dA dn dc,.slice gA gn gc],e3,e4,e5,.pointer (some ⟨zb,1,none⟩),undef].getD i undef
def gS(i:Nat):Nat:=[56,57,58,59,60,61,62,0].getD i 0
def Bg:List Nat:=[0,1,2,6,3,4,5].map gS
theorem oj:∀ i∈[0,1,2,6,3,4,5],gS i<74/\gS i∈Bg:=by decide
theorem vF:∀ i∈[0,1,2,6,3,4,5],∀ j∈[0,1,2,6,3,4,5],j≠i->gS i≠gS j:=by decide
def L3(a0:Act)(X:Nat)(A1:Option Addr)(n1 c1:Nat)(s:ByteArray)(ty life:Int)(A3:Option Addr)(n3 c3:Nat)(A4:Option Addr)(n4 c4:Nat)(h:Np.Hist)(Zt:Nat)(w2:World):Exit->Act->World->Prop:=λe a' w'=>e=Exit.normal/\∃ A5 c5 A6 c6 b,a'=iA a0 ([0,1,3,4,5,6,8,2,7,9].map λi=>(tC i,jE X A1 n1 c1 s ty life A3 n3 c3 A4 n4 c4 (Ef (.slice A5 n1 c5) (.slice A6 n4 c6) b) i))/\bD gp 3 101 Zt Zt w' (.slice A5 n1 c5) h.hosts/\bD ei 1 3 Zt Zt w' (.slice A6 n4 c6) h.hints/\w'.heap[b]?=some (.cells #[.slice A5 n1 c5,.slice none 0 0,.string s,.int .i64 ty,.int .i64 life,.slice A3 n3 c3,.slice A6 n4 c6] 68)/\Zt<=b/\b<w'.heap.size/\(Value.slice A5 n1 c5).ownBlock≠some b/\(Value.slice A6 n4 c6).ownBlock≠some b/\Below Zt w2 w'
theorem bD.weakR{α:Type}{R:aiQ α}{sz:Nat}{e:TypeId}{base B base':Nat}{w:World}{v:Value}{xs:List α}(h:bD R sz e base B w v xs)(hb:base'<=base)(hr:∀ r x,R w B r x->R w base' r x):bD R sz e base' base' w v xs:=by
 obtain⟨rows,h1,h2,h3⟩:=h;exact⟨rows,h1,⟨h2.1,by
  rcases h2.2 with h | ⟨g,cap,cur,h4,h5,h6⟩
  ·exact .inl h
  ·exact .inr ⟨g,cap,cur,h4,yQ hb h5,h6⟩⟩,λi r x hr' hx=>⟨(h3 i r x hr' hx).1,hr _ _ (h3 i r x hr' hx).2⟩⟩
theorem bD.ltR{α:Type}{R:aiQ α}{sz:Nat}{e:TypeId}{base B:Nat}{w:World}{v:Value}{xs:List α}(h:bD R sz e base B w v xs):∀ g,v.ownBlock=some g->base<=g/\g<w.heap.size:=by
 obtain⟨rows,h1,h2,h3⟩:=h;exact h2.lt
theorem bD.heapR{α:Type}{R:aiQ α}{sz:Nat}{e:TypeId}{base B:Nat}{w w':World}{v:Value}{xs:List α}(h:bD R sz e base B w v xs)(hk:∀ g,v.ownBlock=some g->w'.heap[g]?=w.heap[g]?)(hr:∀ r x,R w B r x->R w' B r x):bD R sz e base B w' v xs:=by
 obtain⟨rows,h1,h2,h3⟩:=h;exact⟨rows,h1,dS h2 hk,λi r x hr' hx=>⟨(h3 i r x hr' hx).1,hr _ _ (h3 i r x hr' hx).2⟩⟩
structure At3Inv(h:Np.Hist)(Zt n1 n4:Nat)(w2:World)(A:List Nat)(e:Nat->Value)(u:World):Prop where
 below:Below Zt w2 u
 lt:Zt<=u.heap.size
 hosts:2∈A->∃ A5 c5,e 2 = .slice A5 n1 c5/\bD gp 3 101 Zt Zt u (e 2) h.hosts
 hints:7∈A->∃ A6 c6,e 7 = .slice A6 n4 c6/\bD ei 1 3 Zt Zt u (e 7) h.hints
 box:9∈A->∃ b,e 9 = .pointer (some ⟨b,0,none⟩)/\Zt<=b/\b<u.heap.size/\u.heap[b]?=some (.cells #[.slice none 0 0,.slice none 0 0,.string ⟨#[]⟩,.int .i64 0,.int .i64 0,.slice none 0 0,.slice none 0 0] 68)/\(2∈A->(e 2).ownBlock≠some b)/\(7∈A->(e 7).ownBlock≠some b)
theorem At3Inv.keep{h:Np.Hist}{Zt n1 n4:Nat}{w2:World}{A:List Nat}{e:Nat->Value}{u u':World}(k:At3Inv h Zt n1 n4 w2 A e u)(hb:Below u.heap.size u u'):At3Inv h Zt n1 n4 w2 A e u':=
 ⟨k.below.trans (hb.mono k.lt),yQ k.lt hb.size,λh=>(k.hosts h).imp λ_ h=>h.imp λ_ h=>⟨h.1,h.2.keep gy hb k.lt⟩,λh=>(k.hints h).imp λ_ h=>h.imp λ_ h=>⟨h.1,h.2.keep kE hb k.lt⟩,λh=>(k.box h).imp λb h=>⟨h.1,h.2.1,lQ h.2.2.1 hb.size,(hb.block b h.2.2.1).trans h.2.2.2.1,h.2.2.2.2⟩⟩
theorem At3Inv.host{h:Np.Hist}{Zt n1 n4:Nat}{w2:World}{A:List Nat}{e:Nat->Value}{u u':World}(k:At3Inv h Zt n1 n4 w2 A e u)(_:2∉A)(hb:Below u.heap.size u u'){A5:Option Addr}{c5:Nat}(ho:bD gp 3 101 u.heap.size u.heap.size u' (.slice A5 n1 c5) h.hosts):At3Inv h Zt n1 n4 w2 (2::A) (uy e 2 (.slice A5 n1 c5)) u':=by
 have k2:=k.keep hb;refine⟨k2.below,k2.lt,λ_=>⟨A5,c5,rfl,ho.weakR k.lt (λ_ _ h=>h)⟩,λh7=>k2.hints (by simpa using h7),λh9=>?_⟩;obtain⟨b,h1,h2,h3,h4,h5,h6⟩:=k2.box (by simpa using h9);obtain⟨b',h1',_,h3',_⟩:=k.box (by simpa using h9);rw[h1] at h1'
 cases h1'
 exact⟨b,h1,h2,h3,h4,(λ_=>λe=>by have:=(ho.ltR _ e).1;omega),λh7=>h6 (by simpa using h7)⟩
theorem At3Inv.hint{h:Np.Hist}{Zt n1 n4:Nat}{w2:World}{A:List Nat}{e:Nat->Value}{u u':World}(k:At3Inv h Zt n1 n4 w2 A e u)(_:7∉A)(hb:Below u.heap.size u u'){A6:Option Addr}{c6:Nat}(ho:bD ei 1 3 u.heap.size u.heap.size u' (.slice A6 n4 c6) h.hints):At3Inv h Zt n1 n4 w2 (7::A) (uy e 7 (.slice A6 n4 c6)) u':=by
 have k2:=k.keep hb;refine⟨k2.below,k2.lt,λh2=>k2.hosts (by simpa using h2),λ_=>⟨A6,c6,rfl,ho.weakR k.lt (λ_ _ h=>h)⟩,λh9=>?_⟩;obtain⟨b,h1,h2,h3,h4,h5,h6⟩:=k2.box (by simpa using h9);obtain⟨b',h1',_,h3',_⟩:=k.box (by simpa using h9);rw[h1] at h1'
 cases h1'
 exact⟨b,h1,h2,h3,h4,λh2=>h5 (by simpa using h2),(λ_=>λe=>by have:=(ho.ltR _ e).1;omega)⟩
theorem At3Inv.made{h:Np.Hist}{Zt n1 n4:Nat}{w2:World}{A:List Nat}{e:Nat->Value}{u:World}(k:At3Inv h Zt n1 n4 w2 A e u):At3Inv h Zt n1 n4 w2 (9::A) (uy e 9 (.pointer (some ⟨u.heap.size,0,none⟩))) (u.alloc (.cells #[.slice none 0 0,.slice none 0 0,.string ⟨#[]⟩,.int .i64 0,.int .i64 0,.slice none 0 0,.slice none 0 0] 68)):=by
 have hb:Below u.heap.size u (u.alloc (.cells #[.slice none 0 0,.slice none 0 0,.string ⟨#[]⟩,.int .i64 0,.int .i64 0,.slice none 0 0,.slice none 0 0] 68)):=blAl;have k2:=k.keep hb;refine⟨k2.below,k2.lt,λh2=>k2.hosts (by simpa using h2),λh7=>k2.hints (by simpa using h7),λ_=>⟨u.heap.size,rfl,k.lt,by simp,heap_alloc_new _ _,λh2=>?_,λh7=>?_⟩⟩
 ·obtain⟨A5,c5,h3,h4⟩:=k.hosts (by simpa using h2);exact λe=>by have:=(h4.ltR _ e).2;omega
 ·obtain⟨A6,c6,h3,h4⟩:=k.hints (by simpa using h7);exact λe=>by have:=(h4.ltR _ e).2;omega
def AtM(b _B:Nat)(zv:Value)(S:Nat->Prop)(k:Nat):Prop:=k=b\/zv.ownBlock=some k\/¬ S k
theorem bcY{w:World}{B:Nat}{L:List (CV×Np.Copy)}(h:∀ x∈L,CVOf w B x.1 x.2)(t:Int):(Np.rj (L.map (·.2)) t).map Np.mf=(L.filter λx=>decide (x.1.frm<=t)&&decide (t<x.1.til)).map λx:CV×Np.Copy=>Np.mf x.2:=by
 induction L with
 | nil=>rfl
 | cons x L ih=>
  have hx:=h x (by simp);have ih:=ih (λy hy=>h y (mQ _ hy));unfold Np.rj at ih |-;rw[List.map_cons,List.filter_cons,List.filter_cons,hx.frm,hx.til];split
  ·rw[List.map_cons,List.map_cons,ih]
  ·exact ih
def AtZ(zb:Nat)(zv:Value)(k:Nat):Prop:=k<=zb\/zv.ownBlock=some k
theorem Tryz.infoSignedAt:(prog.info? 42).map (λi=>(i.zero,i.size,i.bytes))=some (some (.agg #[.string ⟨#[]⟩,.int .i64 0,.int .i64 0,.slice none 0 0,.slice none 0 0]),5,80):=by kernel_rfl
def AtI(w6:World)(b:Nat)(wc:Value->Array Value)(pre:List (CV×Np.Copy))(S:Nat->Prop)(W:World):Prop:=
 ∃ zv,S b/\(∀ g,zv.ownBlock=some g->S g)/\(∀ k,S k->k=b\/w6.heap.size<=k)/\W.heap[b]?=some (.cells (wc zv) 68)/\cC jb 3 72 w6.heap.size (AtM b w6.heap.size zv S) W zv (pre.map λx=>Np.mf x.2)/\RdStep (λk=>k=b) w6 W
theorem OF(w6:World)(b:Nat)(wc:Value->Array Value)(_hb:b<w6.heap.size):fO w6.heap.size (AtI w6 b wc):=by
 rintro pre S W W' ⟨zv,h1,h2,h3,h4,h5,h6⟩ ax;refine⟨zv,h1,h2,h3,(ax.keep b (eQ.1 h4).1 (.inr h1)).trans h4,h5.leaves iT oS jr ⟨ax.os,ax.tape,ax.output,ax.size,λi hi hm=>⟨hm,ax.keep i hi ?_⟩⟩ (λg hg=>⟨ax.keep g (h5.lt g hg).2 (.inr (h2 g hg)),.inr (.inl hg)⟩),⟨ax.os.trans h6.os,ax.tape.trans h6.tape,ax.output.trans h6.output,yQ h6.size ax.size,λk hk Kh=>(ax.keep k (lQ hk h6.size) (.inl hk)).trans (h6.keep k hk Kh)⟩⟩;exact .inr (Classical.byContradiction λhs=>hm (.inr (.inr hs)))
theorem Yy{w6:World}{b:Nat}{wc:Value->Array Value}{pre:List (CV×Np.Copy)}{S:Nat->Prop}{W W':World}(h:AtI w6 b wc pre S W)(hb:Below W.heap.size W W'):AtI w6 b wc pre S W':=by
 obtain⟨zv,h1,h2,h3,h4,h5,h6⟩:=h;exact⟨zv,h1,h2,h3,(hb.block b (eQ.1 h4).1).trans h4,h5.keep iT oS jr hb,h6.then_below hb⟩
theorem YA(e:List Value)(h:Np.Hist)(hf:Np.tc h)(hq:h.hosts.length<=100000/\h.hints.length<=100000/\h.anchor.data.length<=100000)(KG:∀ c∈h.copies,∀ x∈c.zone.sets,x.set.data.length<=100000/\x.sigs.length<=100000)(t:Int)(w:World)(hR:gq w w.heap.size)(hh:ik w w.heap.size e h) :
 Calls prog 25 #[.agg e.toArray,.int .i64 t] w λe w'=>∃ e',e = .returned (.tuple #[.agg e'.toArray,.int .i64 (Np.atE h t)])/\Df tB 0 w.heap.size w' e' (Np.atW h t)/\Below w.heap.size w w':=by
 have ph:=jq hh;obtain⟨hv,cv,s,dv,cU,rfl,bU,fH,h3,h4,h5,h6⟩:=hh;obtain⟨ty,cw⟩:=afZ h.anchor.type;obtain⟨life,lp⟩:=afZ h.anchor.life;obtain⟨drift,tU⟩:=afZ h.drift;obtain⟨stop,jl⟩:=afZ h.stop;have H3:=jq h3;have H4:=jq h4;have H5:=jq h5;have H6:=jq h6;have HS:=jq (And.intro bU fH);have dZ:=jq hf;have cV:=jq jl;have gm:=jq (And.intro cw lp);obtain⟨A1,c1,rfl,_,_⟩:=ak h3;obtain⟨A2,c2,rfl,_,_⟩:=ak h4;obtain⟨A3,c3,rfl,_,_⟩:=ak h5;obtain⟨A4,c4,rfl,_,_⟩:=ak h6;clear h3 h4 h5 h6 bU fH hf;obtain⟨n1,bE⟩:=afZ h.hosts.length;obtain⟨n2,bS⟩:=afZ h.copies.length;obtain⟨n3,cR⟩:=afZ h.anchor.data.length;obtain⟨n4,cX⟩:=afZ h.hints.length;rw[bE] at H3;rw[bS] at H4;rw[cR] at H5;rw[cX] at H6;rw[bE,bS,cR,cX,cw,lp,tU,jl] at ph |-;have lK:=jq bS;have ii:=jq bE;have vf:=jq cX;have tq:=jq cR;rw[bE,cR,cX] at hq;clear bE bS cR cX cw lp tU jl;obtain⟨r,hr⟩:=afZ (Np.yes (Np.VHist h));have lN:=jq hr;clear hr;obtain⟨X,hX⟩:=afZ w.heap.size;obtain⟨W1,aB⟩:=afZ (((w.alloc (.cells #[.slice A1 n1 c1,.slice A2 n2 c2,.string s,.int .i64 ty,.int .i64 life,.slice A3 n3 c3,.slice A4 n4 c4,.int .i64 drift,.int .i64 stop] 29)).alloc (.cells #[.int .i64 t] 3)).alloc (.cells #[.slice none 0 0,.slice none 0 0,.string ⟨#[]⟩,.int .i64 0,.int .i64 0,.slice none 0 0,.slice none 0 0] 68));have aM:Below w.heap.size w W1:=by rw[<-aB];exact ((blAl).alloc (by simp<;>omega) _).alloc (by simp<;>omega) _
 have jS:W1.heap.size=X+3:=by rw[<-aB,<-hX];simp
 obtain⟨k0,k1,k2,k3,k4,k5,k6,k7,k8⟩:=cRow9 W1 X (.slice A1 n1 c1) (.slice A2 n2 c2) (.string s) (.int .i64 ty) (.int .i64 life) (.slice A3 n3 c3) (.slice A4 n4 c4) (.int .i64 drift) (.int .i64 stop) (by rw[<-aB,<-hX];simp[go_sem]);have kt:W1.cell? ⟨X+1,0,none⟩=some (.int .i64 t):=by rw[<-aB,<-hX];simp[go_sem]
 have bB:W1.heap[X+1+1]?=some (.cells #[.slice none 0 0,.slice none 0 0,.string ⟨#[]⟩,.int .i64 0,.int .i64 0,.slice none 0 0,.slice none 0 0] 68):=by
  rw[<-aB,<-hX]
  have:=heap_alloc_new ((w.alloc (.cells #[.slice A1 n1 c1,.slice A2 n2 c2,.string s,.int .i64 ty,.int .i64 life,.slice A3 n3 c3,.slice A4 n4 c4,.int .i64 drift,.int .i64 stop] 29)).alloc (.cells #[.int .i64 t] 3)) (.cells #[.slice none 0 0,.slice none 0 0,.string ⟨#[]⟩,.int .i64 0,.int .i64 0,.slice none 0 0,.slice none 0 0] 68)
  simpa using this
 have ef:=jq hR;rw[hX] at aM H3 H4 H5 H6 ph ef |-;have aS:=jq aM;clear aM hR;refine (callsIn_wide (n:=0)).1 ?_;refine callsIn_of_wp_marks func25 rfl trivial ?_ rfl;simp only[ntmps25,List.size_toArray,List.length_cons,List.length_nil,Nat.reduceAdd,Nat.reduceSub,Array.replicate_succ,Array.replicate_zero,List.push_toArray,List.append_toArray,List.nil_append,List.cons_append];gi_wp2_with fail;refine⟨trivial,rfl,?_⟩;refine (callsIn_wide.2 (EZ _ h dZ.out W1 ((ef.out.keep aS.out).more (by omega)) (sV _ _ _ _ _ (sU _ _ _ _ _ ph.out aS.out) (by omega)))).mono ?_;rw[lN.out];rintro e w2 ⟨rfl,aa⟩;have aO:=aa.size;have m0:=aeK aa k0;have m1:=aeK aa k1;have m2:=aeK aa k2;have m3:=aeK aa k3;have m4:=aeK aa k4;have m5:=aeK aa k5;have m6:=aeK aa k6;have m7:=aeK aa k7;have m8:=aeK aa k8;have mt:=aeK aa kt;have bH:=jq ((aa.block (X+1+1) (by omega)).trans bB);have ah:=aeX aS aa;clear aa aB hX k0 k1 k2 k3 k4 k5 k6 k7 k8 kt bB
 cases r with
 | false=>
  have HN:Hid (¬ Np.oX h t):=jq (λh=>by have:=Np.bV h.1;rw[lN.out] at this;cases this);have y0:w2.cell? ⟨X+1+1,0,none⟩=some (.slice none 0 0):=by simp[World.cell?,bH.out]
  have z0:w2.frozen? ⟨X+1+1,0,none⟩=false:=by simp[World.frozen?,bH.out]
  have y1:w2.cell? ⟨X+1+1,1,none⟩=some (.slice none 0 0):=by simp[World.cell?,bH.out]
  have z1:w2.frozen? ⟨X+1+1,1,none⟩=false:=by simp[World.frozen?,bH.out]
  have y2:w2.cell? ⟨X+1+1,2,none⟩=some (.string ⟨#[]⟩):=by simp[World.cell?,bH.out]
  have z2:w2.frozen? ⟨X+1+1,2,none⟩=false:=by simp[World.frozen?,bH.out]
  have y3:w2.cell? ⟨X+1+1,3,none⟩=some (.int .i64 0):=by simp[World.cell?,bH.out]
  have z3:w2.frozen? ⟨X+1+1,3,none⟩=false:=by simp[World.frozen?,bH.out]
  have y4:w2.cell? ⟨X+1+1,4,none⟩=some (.int .i64 0):=by simp[World.cell?,bH.out]
  have z4:w2.frozen? ⟨X+1+1,4,none⟩=false:=by simp[World.frozen?,bH.out]
  have y5:w2.cell? ⟨X+1+1,5,none⟩=some (.slice none 0 0):=by simp[World.cell?,bH.out]
  have z5:w2.frozen? ⟨X+1+1,5,none⟩=false:=by simp[World.frozen?,bH.out]
  have y6:w2.cell? ⟨X+1+1,6,none⟩=some (.slice none 0 0):=by simp[World.cell?,bH.out]
  have z6:w2.frozen? ⟨X+1+1,6,none⟩=false:=by simp[World.frozen?,bH.out]
  gi_wp2_with fail;obtain⟨W,hW⟩:=afZ (((((((w2.setCell ⟨X+1+1,0,none⟩ (.slice none 0 0)).setCell ⟨X+1+1,1,none⟩ (.slice none 0 0)).setCell ⟨X+1+1,2,none⟩ (.string ⟨#[]⟩)).setCell ⟨X+1+1,3,none⟩ (.int .i64 0)).setCell ⟨X+1+1,4,none⟩ (.int .i64 0)).setCell ⟨X+1+1,5,none⟩ (.slice none 0 0)).setCell ⟨X+1+1,6,none⟩ (.slice none 0 0));have rm:Hid (Below X w W):=jq (by rw[<-hW];exact (((((((ah.out.blSe (p:=⟨X+1+1,0,none⟩) _).blSe (p:=⟨X+1+1,1,none⟩) _).blSe (p:=⟨X+1+1,2,none⟩) _).blSe (p:=⟨X+1+1,3,none⟩) _).blSe (p:=⟨X+1+1,4,none⟩) _).blSe (p:=⟨X+1+1,5,none⟩) _).blSe (p:=⟨X+1+1,6,none⟩) _));have e0:W.cell? ⟨X+1+1,0,none⟩=some (.slice none 0 0):=by rw[<-hW];simp[go_sem,y0]
  have e1:W.cell? ⟨X+1+1,1,none⟩=some (.slice none 0 0):=by rw[<-hW];simp[go_sem,y1]
  have e2:W.cell? ⟨X+1+1,2,none⟩=some (.string ⟨#[]⟩):=by rw[<-hW];simp[go_sem,y2]
  have e3:W.cell? ⟨X+1+1,3,none⟩=some (.int .i64 0):=by rw[<-hW];simp[go_sem,y3]
  have e4:W.cell? ⟨X+1+1,4,none⟩=some (.int .i64 0):=by rw[<-hW];simp[go_sem,y4]
  have e5:W.cell? ⟨X+1+1,5,none⟩=some (.slice none 0 0):=by rw[<-hW];simp[go_sem,y5]
  have e6:W.cell? ⟨X+1+1,6,none⟩=some (.slice none 0 0):=by rw[<-hW];simp[go_sem,y6]
  rw[hW];refine nf (v:=.tuple #[.agg #[.slice none 0 0,.slice none 0 0,.string ⟨#[]⟩,.int .i64 0,.int .i64 0,.slice none 0 0,.slice none 0 0],.int .i64 1]) (by simp[results,results25,go_sem,e0,e1,e2,e3,e4,e5,e6]) ⟨[.slice none 0 0,.slice none 0 0,.string ⟨#[]⟩,.int .i64 0,.int .i64 0,.slice none 0 0,.slice none 0 0],FZ rfl (by rw[(Np.vG HN.out).2]),by rw[(Np.vG HN.out).1];exact λ_ _=>Lj _ _,rm.out⟩
 | true=>
  have HV:Hid (Np.VHist h):=jq (Np.eZ.1 lN.out);by_cases CD:t<0
  ·have ht0:decide (t<0)=true:=uQ CD;have HN:Hid (¬ Np.oX h t):=jq (λh=>by have:=h.2.1;omega);have y0:w2.cell? ⟨X+1+1,0,none⟩=some (.slice none 0 0):=by simp[World.cell?,bH.out]
   have z0:w2.frozen? ⟨X+1+1,0,none⟩=false:=by simp[World.frozen?,bH.out]
   have y1:w2.cell? ⟨X+1+1,1,none⟩=some (.slice none 0 0):=by simp[World.cell?,bH.out]
   have z1:w2.frozen? ⟨X+1+1,1,none⟩=false:=by simp[World.frozen?,bH.out]
   have y2:w2.cell? ⟨X+1+1,2,none⟩=some (.string ⟨#[]⟩):=by simp[World.cell?,bH.out]
   have z2:w2.frozen? ⟨X+1+1,2,none⟩=false:=by simp[World.frozen?,bH.out]
   have y3:w2.cell? ⟨X+1+1,3,none⟩=some (.int .i64 0):=by simp[World.cell?,bH.out]
   have z3:w2.frozen? ⟨X+1+1,3,none⟩=false:=by simp[World.frozen?,bH.out]
   have y4:w2.cell? ⟨X+1+1,4,none⟩=some (.int .i64 0):=by simp[World.cell?,bH.out]
   have z4:w2.frozen? ⟨X+1+1,4,none⟩=false:=by simp[World.frozen?,bH.out]
   have y5:w2.cell? ⟨X+1+1,5,none⟩=some (.slice none 0 0):=by simp[World.cell?,bH.out]
   have z5:w2.frozen? ⟨X+1+1,5,none⟩=false:=by simp[World.frozen?,bH.out]
   have y6:w2.cell? ⟨X+1+1,6,none⟩=some (.slice none 0 0):=by simp[World.cell?,bH.out]
   have z6:w2.frozen? ⟨X+1+1,6,none⟩=false:=by simp[World.frozen?,bH.out]
   clear CD;gi_wp2_with fail;obtain⟨W,hW⟩:=afZ (((((((w2.setCell ⟨X+1+1,0,none⟩ (.slice none 0 0)).setCell ⟨X+1+1,1,none⟩ (.slice none 0 0)).setCell ⟨X+1+1,2,none⟩ (.string ⟨#[]⟩)).setCell ⟨X+1+1,3,none⟩ (.int .i64 0)).setCell ⟨X+1+1,4,none⟩ (.int .i64 0)).setCell ⟨X+1+1,5,none⟩ (.slice none 0 0)).setCell ⟨X+1+1,6,none⟩ (.slice none 0 0));have rm:Hid (Below X w W):=jq (by rw[<-hW];exact (((((((ah.out.blSe (p:=⟨X+1+1,0,none⟩) _).blSe (p:=⟨X+1+1,1,none⟩) _).blSe (p:=⟨X+1+1,2,none⟩) _).blSe (p:=⟨X+1+1,3,none⟩) _).blSe (p:=⟨X+1+1,4,none⟩) _).blSe (p:=⟨X+1+1,5,none⟩) _).blSe (p:=⟨X+1+1,6,none⟩) _));have e0:W.cell? ⟨X+1+1,0,none⟩=some (.slice none 0 0):=by rw[<-hW];simp[go_sem,y0]
   have e1:W.cell? ⟨X+1+1,1,none⟩=some (.slice none 0 0):=by rw[<-hW];simp[go_sem,y1]
   have e2:W.cell? ⟨X+1+1,2,none⟩=some (.string ⟨#[]⟩):=by rw[<-hW];simp[go_sem,y2]
   have e3:W.cell? ⟨X+1+1,3,none⟩=some (.int .i64 0):=by rw[<-hW];simp[go_sem,y3]
   have e4:W.cell? ⟨X+1+1,4,none⟩=some (.int .i64 0):=by rw[<-hW];simp[go_sem,y4]
   have e5:W.cell? ⟨X+1+1,5,none⟩=some (.slice none 0 0):=by rw[<-hW];simp[go_sem,y5]
   have e6:W.cell? ⟨X+1+1,6,none⟩=some (.slice none 0 0):=by rw[<-hW];simp[go_sem,y6]
   rw[hW];refine nf (v:=.tuple #[.agg #[.slice none 0 0,.slice none 0 0,.string ⟨#[]⟩,.int .i64 0,.int .i64 0,.slice none 0 0,.slice none 0 0],.int .i64 1]) (by simp[results,results25,go_sem,e0,e1,e2,e3,e4,e5,e6]) ⟨[.slice none 0 0,.slice none 0 0,.string ⟨#[]⟩,.int .i64 0,.int .i64 0,.slice none 0 0,.slice none 0 0],FZ rfl (by rw[(Np.vG HN.out).2]),by rw[(Np.vG HN.out).1];exact λ_ _=>Lj _ _,rm.out⟩
  have ht0:decide (t<0)=false:=tQ CD;by_cases Fk:stop<=t
  ·have ht1:decide (stop<=t)=true:=uQ Fk;have HN:Hid (¬ Np.oX h t):=jq (λh=>by have:=h.2.2;rw[cV.out] at this;omega);have y0:w2.cell? ⟨X+1+1,0,none⟩=some (.slice none 0 0):=by simp[World.cell?,bH.out]
   have z0:w2.frozen? ⟨X+1+1,0,none⟩=false:=by simp[World.frozen?,bH.out]
   have y1:w2.cell? ⟨X+1+1,1,none⟩=some (.slice none 0 0):=by simp[World.cell?,bH.out]
   have z1:w2.frozen? ⟨X+1+1,1,none⟩=false:=by simp[World.frozen?,bH.out]
   have y2:w2.cell? ⟨X+1+1,2,none⟩=some (.string ⟨#[]⟩):=by simp[World.cell?,bH.out]
   have z2:w2.frozen? ⟨X+1+1,2,none⟩=false:=by simp[World.frozen?,bH.out]
   have y3:w2.cell? ⟨X+1+1,3,none⟩=some (.int .i64 0):=by simp[World.cell?,bH.out]
   have z3:w2.frozen? ⟨X+1+1,3,none⟩=false:=by simp[World.frozen?,bH.out]
   have y4:w2.cell? ⟨X+1+1,4,none⟩=some (.int .i64 0):=by simp[World.cell?,bH.out]
   have z4:w2.frozen? ⟨X+1+1,4,none⟩=false:=by simp[World.frozen?,bH.out]
   have y5:w2.cell? ⟨X+1+1,5,none⟩=some (.slice none 0 0):=by simp[World.cell?,bH.out]
   have z5:w2.frozen? ⟨X+1+1,5,none⟩=false:=by simp[World.frozen?,bH.out]
   have y6:w2.cell? ⟨X+1+1,6,none⟩=some (.slice none 0 0):=by simp[World.cell?,bH.out]
   have z6:w2.frozen? ⟨X+1+1,6,none⟩=false:=by simp[World.frozen?,bH.out]
   clear CD Fk;gi_wp2_with fail;obtain⟨W,hW⟩:=afZ (((((((w2.setCell ⟨X+1+1,0,none⟩ (.slice none 0 0)).setCell ⟨X+1+1,1,none⟩ (.slice none 0 0)).setCell ⟨X+1+1,2,none⟩ (.string ⟨#[]⟩)).setCell ⟨X+1+1,3,none⟩ (.int .i64 0)).setCell ⟨X+1+1,4,none⟩ (.int .i64 0)).setCell ⟨X+1+1,5,none⟩ (.slice none 0 0)).setCell ⟨X+1+1,6,none⟩ (.slice none 0 0));have rm:Hid (Below X w W):=jq (by rw[<-hW];exact (((((((ah.out.blSe (p:=⟨X+1+1,0,none⟩) _).blSe (p:=⟨X+1+1,1,none⟩) _).blSe (p:=⟨X+1+1,2,none⟩) _).blSe (p:=⟨X+1+1,3,none⟩) _).blSe (p:=⟨X+1+1,4,none⟩) _).blSe (p:=⟨X+1+1,5,none⟩) _).blSe (p:=⟨X+1+1,6,none⟩) _));have e0:W.cell? ⟨X+1+1,0,none⟩=some (.slice none 0 0):=by rw[<-hW];simp[go_sem,y0]
   have e1:W.cell? ⟨X+1+1,1,none⟩=some (.slice none 0 0):=by rw[<-hW];simp[go_sem,y1]
   have e2:W.cell? ⟨X+1+1,2,none⟩=some (.string ⟨#[]⟩):=by rw[<-hW];simp[go_sem,y2]
   have e3:W.cell? ⟨X+1+1,3,none⟩=some (.int .i64 0):=by rw[<-hW];simp[go_sem,y3]
   have e4:W.cell? ⟨X+1+1,4,none⟩=some (.int .i64 0):=by rw[<-hW];simp[go_sem,y4]
   have e5:W.cell? ⟨X+1+1,5,none⟩=some (.slice none 0 0):=by rw[<-hW];simp[go_sem,y5]
   have e6:W.cell? ⟨X+1+1,6,none⟩=some (.slice none 0 0):=by rw[<-hW];simp[go_sem,y6]
   rw[hW];refine nf (v:=.tuple #[.agg #[.slice none 0 0,.slice none 0 0,.string ⟨#[]⟩,.int .i64 0,.int .i64 0,.slice none 0 0,.slice none 0 0],.int .i64 1]) (by simp[results,results25,go_sem,e0,e1,e2,e3,e4,e5,e6]) ⟨[.slice none 0 0,.slice none 0 0,.string ⟨#[]⟩,.int .i64 0,.int .i64 0,.slice none 0 0,.slice none 0 0],FZ rfl (by rw[(Np.vG HN.out).2]),by rw[(Np.vG HN.out).1];exact λ_ _=>Lj _ _,rm.out⟩
  have ht1:decide (stop<=t)=false:=tQ Fk;have HK:Hid (Np.oX h t):=jq ⟨HV.out,by omega,by rw[cV.out];omega⟩;clear CD Fk;gi_wp2_with fail;obtain⟨Zt,PX⟩:=afZ w2.heap.size;have Mv:Hid (Below X w w2):=jq ah.out;have XS:Hid (Zt<=w2.heap.size):=jq (Nat.le_of_eq PX.symm);have VC:Hid (Below Zt w2 w2):=jq (vQ _ _);have hX3:X+3<=Zt:=by omega
  refine zR λa0 aV=>?_;have gz:=jq aV;have xL:=jq (show a0.eval (.tmp 2) = .pointer (some ⟨X,0,none⟩) by rw[aV];rfl);have HM:=jq (show a0.tmps.size=74 by rw[aV];rfl);clear aV;refine wpIn_mono (Q:=L3 a0 X A1 n1 c1 s ty life A3 n3 c3 A4 n4 c4 h Zt w2) ?_ ?_
  ·refine wpIn_wide.2 (wp_region_any (by kernel_rfl) ?_);refine brJ (Inv:=At3Inv h Zt n1 n4 w2) (val:=jE X A1 n1 c1 s ty life A3 n3 c3 A4 n4 c4) (aIZ (ord:=[0,1,3,4,5,6,8,2,7,9]) (T:=[2,7,9]) (p0:=10) (m:=74) (dep:=mu) (dst:=tC) (by kernel_rfl)) HM.out
    (λe p hp=>by simp only[List.mem_cons,Qh,or_false] at hp;rcases hp with rfl | rfl | rfl<;>rfl) (OC X A1 n1 c1 s ty life A3 n3 c3 A4 n4 c4) ?_ ?_ ?_ (e0:=λ_=>undef) (show At3Inv h Zt n1 n4 w2 [] (λ_=>undef) w2.drew from ⟨VC.out.drew,XS.out,(λh=>by cases h),(λh=>by cases h),(λh=>by cases h)⟩)
   ·intro A e u hI i hi Kc hd o ho a' hb hx;have hZ:=hI.lt;replace m0:=aeK hI.below m0;replace m1:=aeK hI.below m1;replace m2:=aeK hI.below m2;replace m3:=aeK hI.below m3;replace m4:=aeK hI.below m4;replace m5:=aeK hI.below m5;replace m6:=aeK hI.below m6;replace m7:=aeK hI.below m7;replace m8:=aeK hI.below m8;have k2':=agK hb xL.out;simp[Act.eval] at k2';by_cases h8:i=8
    ·subst h8;obtain⟨A5,c5,h5,_⟩:=hI.hosts (hd 2 (by simp[mu]));obtain⟨A6,c6,h6,_⟩:=hI.hints (hd 7 (by simp[mu]))
     cases ho
     simp[Act.eval,Region.binds,jE,tC] at hx;refine .inl ⟨by simp[Region.wanted],λw' hw'=>?_⟩;subst hw';simp[Oper.quietAt,Oper.quietUpon,execOp,go_sem,jE,hx,h5,h6]
    simp only[List.mem_cons,Qh,or_false] at hi;rcases hi with rfl | rfl | rfl | rfl | rfl | rfl | rfl | rfl | rfl | rfl
    all_goals first
     | (exfalso;simp at Kc;done)
     | exact absurd rfl h8
     | (cases ho
        try simp[Act.eval,Region.binds,jE,tC] at hx
        refine .inl ⟨by simp[Region.wanted],λw' hw'=>?_⟩;subst hw';simp[Oper.quietAt,Oper.quietUpon,execOp,go_sem,jE,k2',m0,m2,m3,m4,m5,m6,hx])
   ·intro A e u hI p hp sC o ho a' hb hx K hK;simp only[List.mem_cons,Qh,or_false] at hp;rcases hp with rfl | rfl | rfl
    ·cases ho
     simp[Act.eval,Region.binds,jE,tC,mu] at hx;simp only[wpOp];simp[Region.wanted];refine .inl ?_;simp[Oper.wp,go_sem,hx];refine (YV _ h.hosts (by have:=ii.out;omega) u ((H3.out.keep gy (Mv.out.trans (hI.below.afK))).more mN (by have:=hI.lt;omega))).mono ?_;rintro e' u' ⟨vv,rfl,ho,hb'⟩;obtain⟨A5,c5,rfl⟩:=ho.formL;rw[ii.out] at ho |-;dsimp only;exact hK _ _ (hI.host sC hb' ho)
    ·cases ho
     simp[Act.eval,Region.binds,jE,tC,mu] at hx;simp only[wpOp];simp[Region.wanted];refine .inl ?_;simp[Oper.wp,go_sem,hx];refine (YX _ h.hints (by have:=vf.out;omega) u ((H6.out.keep kE (Mv.out.trans (hI.below.afK))).more qa (by have:=hI.lt;omega))).mono ?_;rintro e' u' ⟨vv,rfl,ho,hb'⟩;obtain⟨A6,c6,rfl⟩:=ho.formL;rw[vf.out] at ho |-;dsimp only;exact hK _ _ (hI.hint sC hb' ho)
    ·cases ho
     simp only[wpOp];simp[Region.wanted];refine .inl ?_;simp[Oper.wp,execOp,go_sem];exact hK _ _ hI.made
   ·intro A e u hI hA o ho a' hv hb ha K hK;obtain⟨A5,c5,h5,F2⟩:=hI.hosts (hA 2 (by simp));obtain⟨A6,c6,h6,F7⟩:=hI.hints (hA 7 (by simp));obtain⟨b,h9,av,aa,F9,N2,N7⟩:=hI.box (hA 9 (by simp));have N2:=N2 (hA 2 (by simp));have N7:=N7 (hA 7 (by simp));rw[h5] at F2 N2;rw[h6] at F7 N7;have av8:=hv 8 (by simp);have av9:=hv 9 (by simp);simp[Act.eval,jE,tC] at av8 av9
    cases ho
    simp only[wpOp];simp[Region.wanted];refine .inl ?_;have y0:u.cell? ⟨b,0,none⟩=some (.slice none 0 0):=by simp[World.cell?,F9]
    have z0:u.frozen? ⟨b,0,none⟩=false:=by simp[World.frozen?,F9]
    have y1:u.cell? ⟨b,1,none⟩=some (.slice none 0 0):=by simp[World.cell?,F9]
    have z1:u.frozen? ⟨b,1,none⟩=false:=by simp[World.frozen?,F9]
    have y2:u.cell? ⟨b,2,none⟩=some (.string ⟨#[]⟩):=by simp[World.cell?,F9]
    have z2:u.frozen? ⟨b,2,none⟩=false:=by simp[World.frozen?,F9]
    have y3:u.cell? ⟨b,3,none⟩=some (.int .i64 0):=by simp[World.cell?,F9]
    have z3:u.frozen? ⟨b,3,none⟩=false:=by simp[World.frozen?,F9]
    have y4:u.cell? ⟨b,4,none⟩=some (.int .i64 0):=by simp[World.cell?,F9]
    have z4:u.frozen? ⟨b,4,none⟩=false:=by simp[World.frozen?,F9]
    have y5:u.cell? ⟨b,5,none⟩=some (.slice none 0 0):=by simp[World.cell?,F9]
    have z5:u.frozen? ⟨b,5,none⟩=false:=by simp[World.frozen?,F9]
    have y6:u.cell? ⟨b,6,none⟩=some (.slice none 0 0):=by simp[World.cell?,F9]
    have z6:u.frozen? ⟨b,6,none⟩=false:=by simp[World.frozen?,F9]
    rw[h5,h6] at av8;rw[h9] at av9;simp[Oper.wp,execOp,go_sem,av8,av9,y0,z0,y1,z1,y2,z2,y3,z3,y4,z4,y5,z5,y6,z6];refine hK _ _ ?_;obtain⟨W',hW'⟩:=afJ (((((((u.setCell ⟨b,0,none⟩ (.slice A5 n1 c5)).setCell ⟨b,1,none⟩ (.slice none 0 0)).setCell ⟨b,2,none⟩ (.string s)).setCell ⟨b,3,none⟩ (.int .i64 ty)).setCell ⟨b,4,none⟩ (.int .i64 life)).setCell ⟨b,5,none⟩ (.slice A3 n3 c3)).setCell ⟨b,6,none⟩ (.slice A6 n4 c6));rw[<-hW'];have ll:∀ k,k≠b->W'.heap[k]?=u.heap[k]?:=λk hk=>by rw[hW'];exact ((wQ _ _ _ k hk).trans ((wQ _ _ _ k hk).trans ((wQ _ _ _ k hk).trans ((wQ _ _ _ k hk).trans ((wQ _ _ _ k hk).trans ((wQ _ _ _ k hk).trans (wQ _ _ _ k hk)))))))
    have Ft:W'.heap.size=u.heap.size:=by rw[hW'];simp
    have zd:W'.heap[b]?=some (.cells #[.slice A5 n1 c5,.slice none 0 0,.string s,.int .i64 ty,.int .i64 life,.slice A3 n3 c3,.slice A6 n4 c6] 68):=by rw[hW'];simp[World.setCell,Array.getElem?_modify,F9]
    have he:jE X A1 n1 c1 s ty life A3 n3 c3 A4 n4 c4 e=jE X A1 n1 c1 s ty life A3 n3 c3 A4 n4 c4 (Ef (.slice A5 n1 c5) (.slice A6 n4 c6) b):=funext λi=>OC X A1 n1 c1 s ty life A3 n3 c3 A4 n4 c4 i _ _ (λj hj=>Yx h5 h6 h9 hj);rw[he] at ha;unfold L3;refine⟨rfl,A5,c5,A6,c6,b,ha,?_,?_,zd,av,by rw[Ft];exact aa,N2,N7,?_⟩
    ·exact F2.heapR (λg hg=>ll g (λe=>N2 (e ▸ hg))) (λ_ _ h=>h)
    ·exact F7.heapR (λg hg=>ll g (λe=>N7 (e ▸ hg))) (λ_ _ h=>h)
    ·rw[hW'];exact (((((((hI.below.setCell (p:=⟨b,0,none⟩) av _).setCell (p:=⟨b,1,none⟩) av _).setCell (p:=⟨b,2,none⟩) av _).setCell (p:=⟨b,3,none⟩) av _).setCell (p:=⟨b,4,none⟩) av _).setCell (p:=⟨b,5,none⟩) av _).setCell (p:=⟨b,6,none⟩) av _)
  ·rintro e a' w3 ⟨rfl,A5,c5,A6,c6,b,rfl,hA,hB,zd,av,aa,bE,bS,eS⟩;have FA:=jq hA;have FB:=jq hB;have HBZ:=jq eS;have NA:=jq bE;have NB:=jq bS;have dR:=eS.size;rw[PX] at dR;have m30:=aeK eS m0;have m31:=aeK eS m1;have m32:=aeK eS m2;have m33:=aeK eS m3;have m34:=aeK eS m4;have m35:=aeK eS m5;have m36:=aeK eS m6;have m37:=aeK eS m7;have m38:=aeK eS m8;have m3t:=aeK eS mt;have lL:=jq ((eS.block (X+1+1) (by omega)).trans bH.out);have kT:=jq zd;have aw:=aeX ah eS;have akY:w3.cell? ⟨b,5,none⟩=some (.slice A3 n3 c3):=by simp[World.cell?,zd]
   have alJ:w3.frozen? ⟨b,5,none⟩=false:=by simp[World.frozen?,zd]
   clear hA hB eS bE bS m0 m1 m2 m3 m4 m5 m6 m7 m8 mt zd;rw[gz.out];simp only[iA,Act.put,jE,tC,Ef,List.map_cons,List.map_nil];simp;gi_wp2_with fail;refine⟨trivial,rfl,?_⟩;refine (callsIn_wide.2 (IU _ h.anchor.data (by have:=tq.out;omega) w3 ((H5.out.keep cJ aw.out).more di (by omega)))).mono ?_;rintro e w4 ⟨v4,rfl,jP,ar⟩;have fz:=ar.size;have m40:=aeK ar m30;have m41:=aeK ar m31;have m42:=aeK ar m32;have m43:=aeK ar m33;have m44:=aeK ar m34;have m45:=aeK ar m35;have m46:=aeK ar m36;have m47:=aeK ar m37;have m48:=aeK ar m38;have m4t:=aeK ar m3t;have yi:=jq ((ar.block (X+1+1) (by omega)).trans lL.out);have Fb:=(ar.block b aa).trans kT.out;have FA4:=jq (FA.out.keep gy ar dR);have FB4:=jq (FB.out.keep kE ar dR);have bi:=aeX aw ar;obtain⟨A7,c7,rfl⟩:=jP.formL;rw[tq.out] at jP |-;have FD4:Hid (bD ci 3 128 w3.heap.size w3.heap.size w4 (.slice A7 n3 c7) h.anchor.data):=jq jP;have ND:Hid ((Value.slice A7 n3 c7).ownBlock≠some b):=jq (λe=>by have:=(jP.ltR _ e).1;omega);have alQ:w4.cell? ⟨b,5,none⟩=some (.slice A3 n3 c3):=by simp[World.cell?,Fb]
   have alK:w4.frozen? ⟨b,5,none⟩=false:=by simp[World.frozen?,Fb]
   obtain⟨w5,aK⟩:=afZ (w4.setCell ⟨b,5,none⟩ (.slice A7 n3 c7));have lB:w5.heap.size=w4.heap.size:=by rw[<-aK];simp
   have E1:∀ k,k≠b->w5.heap[k]?=w4.heap[k]?:=λk hk=>by rw[<-aK];exact wQ _ _ _ _ hk
   have QN:w5.heap[b]?=some (.cells #[.slice A5 n1 c5,.slice none 0 0,.string s,.int .i64 ty,.int .i64 life,.slice A7 n3 c7,.slice A6 n4 c6] 68):=by rw[<-aK];simp[World.setCell,Array.getElem?_modify,Fb]
   have aG:Below Zt w4 w5:=by rw[<-aK];exact (vQ _ _).blSe _
   have m50:=aeK aG m40;have m51:=aeK aG m41;have m52:=aeK aG m42;have m53:=aeK aG m43;have m54:=aeK aG m44;have m55:=aeK aG m45;have m56:=aeK aG m46;have m57:=aeK aG m47;have m58:=aeK aG m48;have m5t:=aeK aG m4t;have rA:=jq ((aG.block (X+1+1) (by omega)).trans yi.out);have FA5:=jq (FA4.out.heapR (w':=w5) (λg hg=>E1 g (λe=>NA.out (e ▸ hg))) (λ_ _ h=>h));have FB5:=jq (FB4.out.heapR (w':=w5) (λg hg=>E1 g (λe=>NB.out (e ▸ hg))) (λ_ _ h=>h));have FD5:=jq (FD4.out.heapR (w':=w5) (λg hg=>E1 g (λe=>ND.out (e ▸ hg))) (λ_ _ h=>h));have cg:=aeX bi aG;have Ww:=jq QN;have amJ:b<w5.heap.size:=by omega
   clear jP ar Fb aG E1 QN m30 m31 m32 m33 m34 m35 m36 m37 m38 m3t m40 m41 m42 m43 m44 m45 m46 m47 m48 m4t akY alJ;gi_wp2_with fail;clear aK alQ alK;refine⟨trivial,rfl,?_⟩;refine (callsIn_wide.2 (IW _ _ _ _ _ _ _ _ _ 70 #[.pointer (some ⟨X+1,0,none⟩)] w5)).mono ?_;rintro e w6 ⟨rfl,bC⟩;obtain⟨Xh,JG⟩:=afZ w5.heap.size;have eX:w6.heap.size=Xh+2:=by rw[bC];simp;omega
   have aT:Below w5.heap.size w5 w6:=by rw[bC];exact (blAl).alloc (by simp) _
   have kX:w6.cell? ⟨Xh,1,none⟩=some (.slice A2 n2 c2):=by rw[bC,<-JG];simp[go_sem]
   have kO:w6.cell? ⟨Xh+1,0,none⟩=some (.func (.func 70) #[] #[.pointer (some ⟨X+1,0,none⟩)]):=by rw[bC,<-JG];simp[go_sem]
   rw[JG];obtain⟨L,gT,nk,lh⟩:=IZ (H4.out.keep mg (cg.out.trans (aT.afK)));have V8:=jq (aeK aT m5t);have uU:=jq (IX L (λx=>decide (x.1.frm<=t)&&decide (t<x.1.til)) 70 #[.pointer (some ⟨X+1,0,none⟩)] Xh (Xh+1) n2 c2 (λk=>k<w6.heap.size/\k≠b) A2 w6 ⟨by omega,by omega⟩ ⟨by omega,by omega⟩ kX kO nk (by have:=dZ.out.1;have:=lK.out;omega)
    (λi x hx=>by
      obtain⟨_,b',o,h1,h2,h3⟩:=lh i x hx;exact⟨b',o,h1,⟨by omega,by omega⟩,h3⟩) ZB
    (λx hx W hW=>by
      have h1:=(hW.cell (p:=⟨X+1,0,none⟩) ⟨by dsimp only;omega,by dsimp only;omega⟩).trans V8.out
      have:=hW.1
      exact Yw x.1.host x.1.frm x.1.til x.1.str _ x.1.A x.1.n x.1.c rfl (X+1) t W (by omega) h1))
   have Wx:=jq ((aT.block b amJ).trans Ww.out);have AD:=jq ((aT.block (X+1+1) (by omega)).trans rA.out);have FA6:=jq (FA5.out.keep gy aT (by omega));have FB6:=jq (FB5.out.keep kE aT (by omega));have FD6:=jq (FD5.out.keep cJ aT (by omega));have cn:=aeX cg aT;have iX:=jq gT;have qy:Hid (∀ x∈L,CVOf w6 X x.1 x.2):=jq (λx hx=>by obtain⟨i,hi⟩:=List.mem_iff_getElem?.1 hx;exact (lh i x hi).1);clear aT bC kX kO gT lh m5t m50 m51 m52 m53 m54 m55 m56 m57 m58;gi_wp2_with fail;have IF:=jq eX;refine Dd (Dr:=λk=>k<w6.heap.size/\k≠b) (w0:=w6) (first:=#[]) (captured:=#[.pointer (some ⟨Xh,0,none⟩),.pointer (some ⟨Xh+1,0,none⟩)]) (gf:=141) rfl I1 (mk:=λy=>#[y,.pointer (some ⟨Xh,0,none⟩),.pointer (some ⟨Xh+1,0,none⟩)]) (λ_=>rfl)
    uU.out (dI.refl λk e=>e.1) (λ_=>rfl) (AtI w6 b (λzv=>#[.slice A5 n1 c5,zv,.string s,.int .i64 ty,.int .i64 life,.slice A7 n3 c7,.slice A6 n4 c6])) (λ_ _ _ _=>False)
    (OF _ _ _ (by omega)) (λc s S W W' h _=>h)
    (λk=>k=b) (λk h1 h2=>h2.2 h1) (by intro k h;omega)
    ⟨.slice none 0 0,rfl,λg hg=>by simp[Value.ownBlock] at hg,λk e=>.inl e,Wx.out,cC.nil _,RdStep.refl _ _⟩ ?round ?done ?stop
   case stop=>
    rintro D c pre S W hD el bR g8 h hK;exact h.elim
   case done=>
    rintro D S W hD el bR ⟨zv,EF,yJ,pD,lW,hown,bJ⟩ hK;obtain⟨pl,dY⟩:=afZ ((L.filter λx=>decide (x.1.frm<=t)&&decide (t<x.1.til)).map λx:CV×Np.Copy=>Np.mf x.2);have Nx:Hid ((Np.rj h.copies t).map Np.mf=pl):=jq (by
     rw[<-dY,<-iX.out];exact bcY qy.out t)
    rw[dY] at hown;have bLK:pl.length<=500:=by
     rw[<-Nx.out,List.length_map]
     have:=bcX h.copies t
     have:=dZ.out.1
     omega
    clear dY;obtain⟨vA,vc,rfl⟩:=hown.form;obtain⟨m,hm⟩:=afZ pl.length;rw[hm] at lW hown yJ;have HM:=jq hm;have eu:=jq hown;have HHW:=jq bJ;have DJ:=jq hK;have PC:D<W.heap.size:=(eQ.1 hK).1;have qM:=bJ.size;have cF:X<=b:=by omega
    have rL:Below X w6 W:=bJ.below (by omega) (λk e=>by omega);have Mp:=aeX cn rL;have PQ:=(bJ.keep (X+1+1) (by omega) (by omega)).trans AD.out;have mr:=jq PQ;have Vu:Hid (bD gp 3 101 Zt Zt W (.slice A5 n1 c5) h.hosts):=jq (FA6.out.heapR (λg hg=>bJ.keep g (FA6.out.ltR g hg).2 (λe=>NA.out (e ▸ hg))) (λ_ _ h=>h));have Vv:Hid (bD ei 1 3 Zt Zt W (.slice A6 n4 c6) h.hints):=jq (FB6.out.heapR (λg hg=>bJ.keep g (FB6.out.ltR g hg).2 (λe=>NB.out (e ▸ hg))) (λ_ _ h=>h));have rq:Hid (bD ci 3 128 w3.heap.size w3.heap.size W (.slice A7 n3 c7) h.anchor.data):=jq (FD6.out.heapR (λg hg=>bJ.keep g (FD6.out.ltR g hg).2 (λe=>ND.out (e ▸ hg))) (λ_ _ h=>h));have g0:W.cell? ⟨b,0,none⟩=some (.slice A5 n1 c5):=by simp[World.cell?,lW]
    have g1:W.cell? ⟨b,1,none⟩=some (.slice vA m vc):=by simp[World.cell?,lW]
    have g2:W.cell? ⟨b,2,none⟩=some (.string s):=by simp[World.cell?,lW]
    have g3:W.cell? ⟨b,3,none⟩=some (.int .i64 ty):=by simp[World.cell?,lW]
    have g4:W.cell? ⟨b,4,none⟩=some (.int .i64 life):=by simp[World.cell?,lW]
    have g5:W.cell? ⟨b,5,none⟩=some (.slice A7 n3 c7):=by simp[World.cell?,lW]
    have g6:W.cell? ⟨b,6,none⟩=some (.slice A6 n4 c6):=by simp[World.cell?,lW]
    have y0:W.cell? ⟨X+1+1,0,none⟩=some (.slice none 0 0):=by simp[World.cell?,mr.out]
    have z0:W.frozen? ⟨X+1+1,0,none⟩=false:=by simp[World.frozen?,mr.out]
    have y1:W.cell? ⟨X+1+1,1,none⟩=some (.slice none 0 0):=by simp[World.cell?,mr.out]
    have z1:W.frozen? ⟨X+1+1,1,none⟩=false:=by simp[World.frozen?,mr.out]
    have y2:W.cell? ⟨X+1+1,2,none⟩=some (.string ⟨#[]⟩):=by simp[World.cell?,mr.out]
    have z2:W.frozen? ⟨X+1+1,2,none⟩=false:=by simp[World.frozen?,mr.out]
    have y3:W.cell? ⟨X+1+1,3,none⟩=some (.int .i64 0):=by simp[World.cell?,mr.out]
    have z3:W.frozen? ⟨X+1+1,3,none⟩=false:=by simp[World.frozen?,mr.out]
    have y4:W.cell? ⟨X+1+1,4,none⟩=some (.int .i64 0):=by simp[World.cell?,mr.out]
    have z4:W.frozen? ⟨X+1+1,4,none⟩=false:=by simp[World.frozen?,mr.out]
    have y5:W.cell? ⟨X+1+1,5,none⟩=some (.slice none 0 0):=by simp[World.cell?,mr.out]
    have z5:W.frozen? ⟨X+1+1,5,none⟩=false:=by simp[World.frozen?,mr.out]
    have y6:W.cell? ⟨X+1+1,6,none⟩=some (.slice none 0 0):=by simp[World.cell?,mr.out]
    have z6:W.frozen? ⟨X+1+1,6,none⟩=false:=by simp[World.frozen?,mr.out]
    have pm:=jq el;have Xe:=jq yJ;have NS:=jq pD;have NAD:Hid (∀ g,(Value.slice A5 n1 c5).ownBlock=some g->Zt<=g/\g<w6.heap.size):=jq (λg hg=>FA6.out.ltR g hg);have NBD:Hid (∀ g,(Value.slice A6 n4 c6).ownBlock=some g->Zt<=g/\g<w6.heap.size):=jq (λg hg=>FB6.out.ltR g hg);have NDD:Hid (∀ g,(Value.slice A7 n3 c7).ownBlock=some g->w3.heap.size<=g/\g<w6.heap.size):=jq (λg hg=>FD6.out.ltR g hg);clear hm hown bJ hK rL PQ lW EF yJ pD bR el;gi_wp2_with fail;obtain⟨W',hW'⟩:=afZ (((((((W.setCell ⟨X+1+1,0,none⟩ (.slice A5 n1 c5)).setCell ⟨X+1+1,1,none⟩ (.slice vA m vc)).setCell ⟨X+1+1,2,none⟩ (.string s)).setCell ⟨X+1+1,3,none⟩ (.int .i64 ty)).setCell ⟨X+1+1,4,none⟩ (.int .i64 life)).setCell ⟨X+1+1,5,none⟩ (.slice A7 n3 c7)).setCell ⟨X+1+1,6,none⟩ (.slice A6 n4 c6));have p7:W'.heap.size=W.heap.size:=by rw[<-hW'];simp
    have gI:∀ k,k≠X+1+1->W'.heap[k]?=W.heap[k]?:=λk hk=>by rw[<-hW'];exact ((wQ _ _ _ k hk).trans ((wQ _ _ _ k hk).trans ((wQ _ _ _ k hk).trans ((wQ _ _ _ k hk).trans ((wQ _ _ _ k hk).trans ((wQ _ _ _ k hk).trans (wQ _ _ _ k hk)))))))
    have Bx:Below X w W':=by rw[<-hW'];exact (((((((Mp.out.blSe (p:=⟨X+1+1,0,none⟩) _).blSe (p:=⟨X+1+1,1,none⟩) _).blSe (p:=⟨X+1+1,2,none⟩) _).blSe (p:=⟨X+1+1,3,none⟩) _).blSe (p:=⟨X+1+1,4,none⟩) _).blSe (p:=⟨X+1+1,5,none⟩) _).blSe (p:=⟨X+1+1,6,none⟩) _)
    have gZ:W'.os=W.os/\W'.tape=W.tape/\W'.output=W.output:=by rw[<-hW'];simp[World.setCell]
    have ox:X+1+1≠D:=by omega
    have e0:W'.cell? ⟨X+1+1,0,none⟩=some (.slice A5 n1 c5):=by rw[<-hW'];simp[go_sem,y0]
    have e1:W'.cell? ⟨X+1+1,1,none⟩=some (.slice vA m vc):=by rw[<-hW'];simp[go_sem,y1]
    have e2:W'.cell? ⟨X+1+1,2,none⟩=some (.string s):=by rw[<-hW'];simp[go_sem,y2]
    have e3:W'.cell? ⟨X+1+1,3,none⟩=some (.int .i64 ty):=by rw[<-hW'];simp[go_sem,y3]
    have e4:W'.cell? ⟨X+1+1,4,none⟩=some (.int .i64 life):=by rw[<-hW'];simp[go_sem,y4]
    have e5:W'.cell? ⟨X+1+1,5,none⟩=some (.slice A7 n3 c7):=by rw[<-hW'];simp[go_sem,y5]
    have e6:W'.cell? ⟨X+1+1,6,none⟩=some (.slice A6 n4 c6):=by rw[<-hW'];simp[go_sem,y6]
    have f0:=(iQ (w:=W') (w':=W'.putObj D (.deferred none)) (a:=⟨X+1+1,0,none⟩) (zQ ox)).trans e0;have f1:=(iQ (w:=W') (w':=W'.putObj D (.deferred none)) (a:=⟨X+1+1,1,none⟩) (zQ ox)).trans e1;have f2:=(iQ (w:=W') (w':=W'.putObj D (.deferred none)) (a:=⟨X+1+1,2,none⟩) (zQ ox)).trans e2;have f3:=(iQ (w:=W') (w':=W'.putObj D (.deferred none)) (a:=⟨X+1+1,3,none⟩) (zQ ox)).trans e3;have f4:=(iQ (w:=W') (w':=W'.putObj D (.deferred none)) (a:=⟨X+1+1,4,none⟩) (zQ ox)).trans e4;have f5:=(iQ (w:=W') (w':=W'.putObj D (.deferred none)) (a:=⟨X+1+1,5,none⟩) (zQ ox)).trans e5;have f6:=(iQ (w:=W') (w':=W'.putObj D (.deferred none)) (a:=⟨X+1+1,6,none⟩) (zQ ox)).trans e6;have BB:W'.heap[D]?=some (.deferred (some [])):=(gI D (by omega)).trans DJ.out;rw[hW'];have sk:∀ k,k≠X+1+1->k≠D->(W'.putObj D (.deferred none)).heap[k]?=W.heap[k]?:=λk h1 h2=>(zQ h2).trans (gI k h1);have zw:(W'.putObj D (.deferred none)).heap.size=W.heap.size:=by simpa using p7
    refine mv BB (v:=.tuple #[.agg #[.slice A5 n1 c5,.slice vA m vc,.string s,.int .i64 ty,.int .i64 life,.slice A7 n3 c7,.slice A6 n4 c6],.int .i64 0]) (by simp[results,results25,go_sem,f0,f1,f2,f3,f4,f5,f6]) ⟨[.slice A5 n1 c5,.slice vA m vc,.string s,.int .i64 ty,.int .i64 life,.slice A7 n3 c7,.slice A6 n4 c6],FZ rfl (by rw[(Np.yz HK.out).2]),?_,lT Bx (by omega) _⟩;rw[(Np.yz HK.out).1];have hZ:(Np.ta h t).zones=pl:=Nx.out;intro Mq yG;refine⟨.slice A5 n1 c5,.slice vA m vc,s,.slice A7 n3 c7,.slice A6 n4 c6,?_,HS.out.1,HS.out.2,?_,?_,?_,?_⟩
    rotate_left
    ·have h1:=((Vu.out.heapR (w':=W'.putObj D (.deferred none)) (λg hg=>sk g (by have:=NAD.out g hg;omega) (by have:=NAD.out g hg;omega)) (λ_ _ h=>h)).sans (M:=Mq) (λk hk=>by have:=yG k hk;omega) (λ_ _ h=>h)).slr mN (by rw[gj,zw];omega) (by have:=ii.out;omega);rw[gj] at h1;exact h1
    ·rw[hZ];have h1:=eu.out.slr_sans (M':=λk=>(k=X+1+1\/k=D)\/Mq k) oS jr (λk hk=>by
      rcases hk with (rfl | rfl) | hk
      ·exact⟨.inr (.inr (λhs=>by have:=NS.out _ hs;omega)),λe=>by have:=(eu.out.lt _ e).1;omega⟩
      ·exact⟨.inr (.inr pm.out),λe=>pm.out (Xe.out _ e)⟩
      ·have h2:=yG k hk;exact⟨.inr (.inr (λhs=>by have:=NS.out _ hs;omega)),λe=>by have:=(eu.out.lt _ e).1;omega⟩) (by omega)
     have h2:=(Leaves'.slr (M:=λk=>(k=X+1+1\/k=D)\/Mq k) (M':=λk=>(k=X+1+1\/k=D)\/Mq k) iT oS jr (w':=W'.putObj D (.deferred none)) ⟨gZ.1,gZ.2.1,gZ.2.2,by rw[zw];exact bQ _,λi hi hm=>⟨hm,sk i (λe=>hm (.inl (.inl e))) (λe=>hm (.inl (.inr e)))⟩⟩ h1);exact h2.sans oS (λk hk=>.inr hk)
    ·have h1:=((rq.out.heapR (w':=W'.putObj D (.deferred none)) (λg hg=>sk g (by have:=NDD.out g hg;omega) (by have:=NDD.out g hg;omega)) (λ_ _ h=>h)).sans (M:=Mq) (λk hk=>by have:=yG k hk;omega) (λ_ _ h=>h)).slr di (by rw[gj,zw];omega) (by have:=tq.out;omega);rw[gj] at h1;exact h1
    ·have h1:=((Vv.out.heapR (w':=W'.putObj D (.deferred none)) (λg hg=>sk g (by have:=NBD.out g hg;omega) (by have:=NBD.out g hg;omega)) (λ_ _ h=>h)).sans (M:=Mq) (λk hk=>by have:=yG k hk;omega) (λ_ _ h=>h)).slr qa (by rw[gj,zw];omega) (by have:=vf.out;omega);rw[gj] at h1;exact h1
    ·rw[<-gm.out.1,<-gm.out.2];rfl
   case round=>
    rintro l0 pre ⟨⟨xh,xf,xt,xs,xA,xn,xc⟩,cc⟩ S W bM hI ed;have dY:pre.length<=500:=by
     have h1:=bM.length_le;have h2:=List.length_filter_le (λx:CV×Np.Copy=>decide (x.1.frm<=t)&&decide (t<x.1.til)) L;have h3:=dZ.out.1;have h4:=lK.out;rw[List.length_append,List.length_singleton] at h1;omega
    have vC:Hid ((⟨⟨xh,xf,xt,xs,xA,xn,xc⟩,cc⟩:CV×Np.Copy)∈L):=jq ((List.mem_filter.1 (bM.subset (by simp:(⟨⟨xh,xf,xt,xs,xA,xn,xc⟩,cc⟩:CV×Np.Copy)∈_))).1);have ld:=Yy hI ((vQ _ W).alloc (bQ _) (.cells #[.int .i64 xh,.int .i64 xf,.int .i64 xt,.string xs,.slice xA xn xc] 46));have qM:w6.heap.size<=W.heap.size:=by obtain⟨_,_,_,_,_,_,hB⟩:=hI;exact hB.size
    have DO:=jq bM;have gl:=jq dY;clear hI bM dY;gi_wp2;refine⟨λk=>S k\/k=W.heap.size,(RdStep.refl S W).alloc _,λk e=>e.imp id (λh=>by omega),λk e=>by rcases e with e | e;have:=ed k e;simp;omega;simp;omega,?_⟩;intro l W₂ ax;have Jo:=OF w6 b _ (by omega) pre S _ W₂ ld (ax.weaken (bQ _) (λk e=>.inl e));have mb:=ax.size;simp only[World.size_alloc] at mb;have eT:W₂.heap[W.heap.size]?=some (.cells #[.int .i64 xh,.int .i64 xf,.int .i64 xt,.string xs,.slice xA xn xc] 46):=(ax.keep W.heap.size (by simp) (.inr (.inr rfl))).trans (heap_alloc_new _ _);obtain⟨zv,EF,yJ,pD,lW,hown,bJ⟩:=Jo;have Iu:=jq yJ;have eO:=jq pD;have tt:=jq EF;have AF:=jq hown;have Il:=jq bJ;have pn:Hid (∀ k,S k->k<W₂.heap.size):=jq (λk e=>by have:=ed k e;omega);have qs:Hid (CVOf w6 X ⟨xh,xf,xt,xs,xA,xn,xc⟩ cc):=jq (qy.out _ vC.out);have fe:Hid (Below X w6 W₂):=jq (bJ.below (by omega) (λk e=>by omega));obtain⟨sets,oI⟩:=afZ cc.zone.sets;have DT:=jq oI;have Ir:Hid (SlR br 5 W₂ X (.slice xA xn xc) sets):=jq (by have:=(qs.out.keep fe.out).sets;rw[oI] at this;exact this);have zt:sets.length=xn:=by rw[<-oI];exact qs.out.len
    have aEY:xn<=20000:=by rw[<-zt,<-oI];exact dZ.out.2 cc (by rw[<-iX.out];exact List.mem_map.2 ⟨_,vC.out,rfl⟩)
    have vD:=jq zt;obtain⟨vA,vc,rfl⟩:=hown.form;obtain⟨m,hm⟩:=afZ ((pre.map λx:CV×Np.Copy=>Np.mf x.2).length);rw[hm] at lW AF Iu;have HM:=jq hm;have u7:Hid (m<=500):=jq (by rw[<-hm,List.length_map];exact gl.out);obtain⟨zb,iz⟩:=afZ W₂.heap.size;have anQ:W₂.cell? ⟨W.heap.size,3,none⟩=some (.string xs):=by simp[World.cell?,eT]
    have EQ:W₂.cell? ⟨W.heap.size,4,none⟩=some (.slice xA xn xc):=by simp[World.cell?,eT]
    obtain⟨w7,gL⟩:=afZ (W₂.alloc (.cells #[.string xs,.slice none 0 0] 44));have mG:w7.heap.size=zb+1:=by rw[<-gL,<-iz];simp
    have dp:Below zb W₂ w7:=by rw[<-gL,<-iz];exact blAl
    have RX:w7.heap[zb]?=some (.cells #[.string xs,.slice none 0 0] 44):=by rw[<-gL,<-iz];exact heap_alloc_new _ _
    have dcc4:=aeK dp EQ;have XU:=jq RX;have cZ:=jq dp;have ml:=jq eT;have aS:=jq lW;have vE:=jq iz;have hXz:X+3<=zb:=by omega
    have h6z:w6.heap.size<=zb:=by omega
    have eS:b<zb:=by omega
    have tT:W.heap.size<zb:=by omega
    have XK:=jq gL;have hcw:W.heap.size<W₂.heap.size:=by omega
    clear hm hown EF yJ pD bJ ld ax eT oI zt lW RX dp ed iz gL;gi_wp2_with fail;rw[XK.out,vE.out];clear anQ EQ;obtain⟨is0,hsi,KH,uk,mb⟩:=info_parts Tryz.infoSignedAt;obtain⟨pi0,hpi,awX,awY,axQ⟩:=info_parts Tryz.infoPlaced;gi_loopw [52] (λi wr=>∃ (j:Nat) (zA:Option Addr) (zc:Nat),j<=xn/\i = .int .i64 j/\zb+1<=wr.heap.size/\Hid (Below zb W₂ wr)/\Hid (wr.heap[zb]?=some (.cells #[.string xs,.slice zA j zc] 44))/\Hid (cC br 5 42 (zb+1) (AtZ zb (.slice zA j zc)) wr (.slice zA j zc) (sets.take j))) (λi _=>xn - (intOf i).toNat)
    case atStart=>exact⟨0,none,0,jQ _,rfl,by omega,cZ,XU,jq (by rw[List.take_zero];exact cC.nil _)⟩
    case round=>
     obtain⟨j,zA,zc,hj,rfl,zy,bp,gR,yj⟩:=hrel;by_cases ab:j<xn
     ·obtain⟨x,ae⟩:∃ x,sets[j]?=some x:=⟨_,aQ (by rw[vD.out];exact ab)⟩;obtain⟨b',o,c',ss,dv,sv,hA,hb',_,hs,CA,aY,aN,e0,e1,e2,e3,e4⟩:=dB (Ir.out.keep aP (bp.out.afK)) ae;simp only[Value.slice.injEq] at hA;obtain⟨rfl,-,rfl⟩:=hA;have Xp:Hid (sets.take (j+1)=sets.take j ++ [x]):=jq (by
       obtain⟨hl,he⟩:=cQ.1 ae;rw[fQ hl,he])
      have Hm:Hid ((sets.take j).length=j):=jq (by rw[List.length_take,vD.out];omega);have pa:Hid (x.set.data.length<=1000000/\x.sigs.length<=1000000):=jq (by
       have hc:cc∈h.copies:=by rw[<-iX.out];exact List.mem_map.2 ⟨_,vC.out,rfl⟩
       have hx:x∈cc.zone.sets:=by rw[DT.out];exact gQ ae
       have:=KG cc hc x hx
       omega)
      have iZ:=jq (And.intro hs CA);have jy:Hid (∀ W',Below wr.heap.size wr W'->SlR ci 3 W' W'.heap.size dv x.set.data):=jq (λW' hb=>(aY.keep cJ (hb.afK)).more di (by have:=hb.size;omega));have x6:Hid (∀ W',Below wr.heap.size wr W'->SlR fi 6 W' W'.heap.size sv x.sigs):=jq (λW' hb=>(aN.keep eL (hb.afK)).more fJ (by have:=hb.size;omega));obtain⟨dA,dc,rfl,_,_⟩:=ak aY;obtain⟨gA,gc,rfl,_,_⟩:=ak aN;obtain⟨dn,jK⟩:=afZ x.set.data.length;obtain⟨gn,oE⟩:=afZ x.sigs.length;rw[jK] at e3 jy;rw[oE] at e4 x6;have Ak:=jq jK;have Ha:=jq oE;clear ae hs CA aY aN jK oE;have cj:(0:Int)<=(j:Int):=by omega
      have ck:(j:Int)<(xn:Int):=by omega
      obtain⟨w8,gM⟩:=afZ (wr.alloc (.cells #[.string ss,.int .i64 x.set.type,.int .i64 x.set.life,.slice dA dn dc,.slice gA gn gc] 42));have p6:w8.heap.size=wr.heap.size+1:=by rw[<-gM];simp
      have fU:Below wr.heap.size wr w8:=by rw[<-gM];exact blAl
      obtain⟨p0,p1,p2,p3,p4⟩:=cRow5 w8 (wr.heap.size) (.string ss) (.int .i64 x.set.type) (.int .i64 x.set.life) (.slice dA dn dc) (.slice gA gn gc) (by rw[<-gM];simp[go_sem]);have rz:=(fU.block zb (by omega)).trans gR.out;have r1:w8.cell? ⟨zb,1,none⟩=some (.slice zA j zc):=by simp[World.cell?,rz]
      have Md:=jq fU;have Me:=jq fU;clear fU;gi_wp2_with fail;clear gM e0 e1 e2 e3 e4;refine zR λa0 aV=>?_;have gz:=jq aV;have fd:=jq (show a0.eval (.tmp 8) = .pointer (some ⟨zb,0,none⟩) by rw[aV];rfl);have kK:=jq (show a0.eval (.tmp 10) = .pointer (some ⟨wr.heap.size,0,none⟩) by rw[aV];rfl);have HM:=jq (show a0.tmps.size=74 by rw[aV];rfl);clear aV;refine Gj (by kernel_rfl) (by kernel_rfl) (by rintro⟨_,_,h⟩;exact h) ?_;refine xJ (w:=w8.drew) (D:=[0,1,2,6]) (A:=[]) (p:=3) (dst:=gS) (val:=iJ zb (.slice zA j zc) ss x.set.type x.set.life dA dn dc gA gn gc undef undef undef) (m:=74)
       (base:=eJ a0 74 Bg) (xI (by kernel_rfl)) (by simp) (by simp) (xH (by kernel_rfl)) ?_
       (λi hi=>(oj i (by simp at hi |-;omega)).1) (λi hi j hj=>vF i (by simp at hi |-;omega) j (by simp at hj |-;omega)) (λi hi=>mM (oj i (by simp at hi |-;omega)).2) ?_ ?_ _ _ _ (Held.start (λq hq=>FX q hq) HM.out)
      ·intro i hi aC;simp only[List.mem_cons,Qh,or_false] at hi;rcases hi with rfl | rfl | rfl | rfl
       all_goals first | (exfalso;simp at aC;done) | exact⟨_,rfl,rfl⟩
      ·intro i hi aC o ho a' hb aq;have k8':=agK hb fd.out;have k10':=agK hb kK.out;simp[Act.eval] at k8' k10';simp only[List.mem_cons,Qh,or_false] at hi;rcases hi with rfl | rfl | rfl | rfl
       all_goals first
        | (exfalso;simp at aC;done)
        | (cases ho
           try simp[Act.eval,Region.binds,iJ,gS] at aq
           refine .inl ⟨by simp[Region.wanted],λw' hw'=>?_⟩;subst hw';simp[Oper.quietAt,Oper.quietUpon,execOp,go_sem,iJ,k8',k10',p0,p1,p2,p3,p4,r1,aq])
      ·intro f listed a' hH hr;obtain⟨_,o,ho,be⟩:=mem_ready.1 hr
       cases ho
       have hG:=hH.good;have hval:=λi hi hl=>hG.val i hi hl;have nD:∀ k,({ on:=k,ground:=.data } : Edge)∈_->listed.getD k false=true:=λk hk=>be _ hk rfl;have av2:=hval 2 (by simp) (nD 2 (by simp));simp[Act.eval,iJ,gS] at av2;simp only[wpOp];simp[Region.wanted];refine .inl ?_;simp[Oper.wp,go_sem,av2];refine (OP ss x.set.type x.set.life _ x.set.data _ x.sigs pa.out.1 pa.out.2 w8.drew (jy.out w8.drew Me.out.drew) (x6.out w8.drew Me.out.drew)).mono ?_;rintro e w9 ⟨dv2,gv2,rfl,gF,P2⟩;have cS:Below w8.heap.size w8 w9:=(vQ w8.heap.size w8).drew.trans P2;have zu:=cS.size;replace p0:=aeK cS p0;replace p1:=aeK cS p1;replace p2:=aeK cS p2;replace p3:=aeK cS p3;replace p4:=aeK cS p4;replace r1:=aeK cS r1;replace rz:=(cS.block zb (by omega)).trans rz;have mo:Hid (Gn w8.heap.size w9 dv2 gv2 x.set.data x.sigs):=jq gF;obtain⟨dA2,dc2,rfl,_,_⟩:=ak ((gF (λ_=>False) (λ_ e=>e.elim)).1);obtain⟨gA2,gc2,rfl,_,_⟩:=ak ((gF (λ_=>False) (λ_ e=>e.elim)).2);rw[Ak.out,Ha.out] at mo |-;have Wy:=jq (yj.out.keep aP js bK (Md.out.trans (cS.afK)));have eN:=jq cS;clear gF cS P2;dsimp only;refine xJ (w:=w9) (D:=[0,1,2,6,3]) (A:=[3]) (p:=4) (dst:=gS) (val:=iJ zb (.slice zA j zc) ss x.set.type x.set.life dA dn dc gA gn gc (.agg #[.string ss,.int .i64 x.set.type,.int .i64 x.set.life,.slice dA2 dn dc2,.slice gA2 gn gc2]) undef undef) (m:=74)
        (base:=eJ a0 74 Bg) (xI (by kernel_rfl)) (by simp) (by simp) (xH (by kernel_rfl)) ?_
        (λi hi=>(oj i (by simp at hi |-;omega)).1) (λi hi j hj=>vF i (by simp at hi |-;omega) j (by simp at hj |-;omega)) (λi hi=>mM (oj i (by simp at hi |-;omega)).2) ?_ ?_ _ _ _ (hH.act (D':=[0,1,2,6,3]) (val':=iJ zb (.slice zA j zc) ss x.set.type x.set.life dA dn dc gA gn gc (.agg #[.string ss,.int .i64 x.set.type,.int .i64 x.set.life,.slice dA2 dn dc2,.slice gA2 gn gc2]) undef undef) hr (by simp) (λi hi=>by simp at hi |-;omega) (λi hi=>by simp at hi;rcases hi with rfl | rfl | rfl | rfl<;>rfl) rfl (by simp[gS]) (λj hj=>vF 3 (by simp) j (by simp at hj |-;omega) (by rintro rfl;simp at hj)) (mM (oj 3 (by simp)).2) (by simp))
       ·intro i hi aC;simp only[List.mem_cons,Qh,or_false] at hi;rcases hi with rfl | rfl | rfl | rfl | rfl
        all_goals first | (exfalso;simp at aC;done) | exact⟨_,rfl,rfl⟩
       ·intro i hi aC o ho a' hb aq;have k8':=agK hb fd.out;have k10':=agK hb kK.out;simp[Act.eval] at k8' k10';simp only[List.mem_cons,Qh,or_false] at hi;rcases hi with rfl | rfl | rfl | rfl | rfl
        all_goals first
         | (exfalso;simp at aC;done)
         | (cases ho
            try simp[Act.eval,Region.binds,iJ,gS] at aq
            refine .inl ⟨by simp[Region.wanted],λw' hw'=>?_⟩;subst hw';simp[Oper.quietAt,Oper.quietUpon,execOp,go_sem,iJ,k8',k10',p0,p1,p2,p3,p4,r1,aq])
       ·intro f listed a' hH hr;obtain⟨_,o,ho,be⟩:=mem_ready.1 hr
        cases ho
        have hG:=hH.good;have hval:=λi hi hl=>hG.val i hi hl;have nD:∀ k,({ on:=k,ground:=.data } : Edge)∈_->listed.getD k false=true:=λk hk=>be _ hk rfl;have av3:=hval 3 (by simp) (nD 3 (by simp));simp[Act.eval,iJ,gS] at av3;simp only[wpOp];simp[Region.wanted];refine .inl ?_;simp[Oper.wp,execOp,go_sem,av3];obtain⟨wX,nK⟩:=afJ (w9.alloc (.cells #[.string ss,.int .i64 x.set.type,.int .i64 x.set.life,.slice dA2 dn dc2,.slice gA2 gn gc2] 42));rw[<-nK];have dK:Below w9.heap.size w9 wX:=by rw[nK];exact blAl
        have BR:cA wX w9.heap.size 0 [.string ss,.int .i64 x.set.type,.int .i64 x.set.life,.slice dA2 dn dc2,.slice gA2 gn gc2]:=λi v hi=>by
         rw[nK]
         match i,hi with
         | 0,hi=>cases hi;simp[go_sem]
         | 1,hi=>cases hi;simp[go_sem]
         | 2,hi=>cases hi;simp[go_sem]
         | 3,hi=>cases hi;simp[go_sem]
         | 4,hi=>cases hi;simp[go_sem]
         | i+5,hi=>simp at hi
        have RR:=dK.size;replace p0:=aeK dK p0;replace p1:=aeK dK p1;replace p2:=aeK dK p2;replace p3:=aeK dK p3;replace p4:=aeK dK p4;replace r1:=aeK dK r1;replace rz:=(dK.block zb (by omega)).trans rz;have rn:=jq BR;have UU:=jq dK;have Ns:=jq (Wy.out.keep aP js bK dK);have jB:Hid (br (bG wX (AtZ zb (.slice zA j zc))) wX.heap.size [.string ss,.int .i64 x.set.type,.int .i64 x.set.life,.slice dA2 dn dc2,.slice gA2 gn gc2] x):=jq (by
         have h1:=mo.out (AtZ zb (.slice zA j zc)) (λk hk=>by
          rcases hk with hk | hk
          ·omega
          ·have:=(yj.out.lt k hk).2;omega)
         have h2:=(Leaves'.of_below (M:=AtZ zb (.slice zA j zc)) dK).slr cJ mL di h1.1;have h3:=(Leaves'.of_below (M:=AtZ zb (.slice zA j zc)) dK).slr eL nS fJ h1.2;exact⟨ss,_,_,iZ.out.1,iZ.out.2,h2,h3,rfl⟩)
        clear nK dK BR;refine xJ (w:=wX) (D:=[0,1,2,6,3,4]) (A:=[4,3]) (p:=5) (dst:=gS) (val:=iJ zb (.slice zA j zc) ss x.set.type x.set.life dA dn dc gA gn gc (.agg #[.string ss,.int .i64 x.set.type,.int .i64 x.set.life,.slice dA2 dn dc2,.slice gA2 gn gc2]) (.slice (some ⟨w9.heap.size,0,none⟩) 1 1) undef) (m:=74)
         (base:=eJ a0 74 Bg) (xI (by kernel_rfl)) (by simp) (by simp) (xH (by kernel_rfl)) ?_
         (λi hi=>(oj i (by simp at hi |-;omega)).1) (λi hi j hj=>vF i (by simp at hi |-;omega) j (by simp at hj |-;omega)) (λi hi=>mM (oj i (by simp at hi |-;omega)).2) ?_ ?_ _ _ _ (hH.act (D':=[0,1,2,6,3,4]) (val':=iJ zb (.slice zA j zc) ss x.set.type x.set.life dA dn dc gA gn gc (.agg #[.string ss,.int .i64 x.set.type,.int .i64 x.set.life,.slice dA2 dn dc2,.slice gA2 gn gc2]) (.slice (some ⟨w9.heap.size,0,none⟩) 1 1) undef) hr (by simp) (λi hi=>by simp at hi |-;omega) (λi hi=>by simp at hi;rcases hi with rfl | rfl | rfl | rfl | rfl<;>rfl) rfl (by simp[gS]) (λj hj=>vF 4 (by simp) j (by simp at hj |-;omega) (by rintro rfl;simp at hj)) (mM (oj 4 (by simp)).2) (by simp))
        ·intro i hi aC;simp only[List.mem_cons,Qh,or_false] at hi;rcases hi with rfl | rfl | rfl | rfl | rfl | rfl
         all_goals first | (exfalso;simp at aC;done) | exact⟨_,rfl,rfl⟩
        ·intro i hi aC o ho a' hb aq;have k8':=agK hb fd.out;have k10':=agK hb kK.out;simp[Act.eval] at k8' k10';simp only[List.mem_cons,Qh,or_false] at hi;rcases hi with rfl | rfl | rfl | rfl | rfl | rfl
         all_goals first
          | (exfalso;simp at aC;done)
          | (cases ho
             try simp[Act.eval,Region.binds,iJ,gS] at aq
             refine .inl ⟨by simp[Region.wanted],λw' hw'=>?_⟩;subst hw';simp[Oper.quietAt,Oper.quietUpon,execOp,go_sem,iJ,k8',k10',p0,p1,p2,p3,p4,r1,aq])
        ·intro f listed a' hH hr;obtain⟨_,o,ho,be⟩:=mem_ready.1 hr
         cases ho
         have hG:=hH.good;have hval:=λi hi hl=>hG.val i hi hl;have nD:∀ k,({ on:=k,ground:=.data } : Edge)∈_->listed.getD k false=true:=λk hk=>be _ hk rfl;have av1:=hval 1 (by simp) (nD 1 (by simp));have av4:=hval 4 (by simp) (nD 4 (by simp));simp[iJ,gS] at av1 av4;simp only[wpOp];simp[Region.wanted];refine .inl ?_;refine LZ (R:=br) (M:=AtZ zb (.slice zA j zc)) wX (.tmp 57) (.tmp 60) 36 rfl (zb+1) 42 is0 (.agg #[.string ⟨#[]⟩,.int .i64 0,.int .i64 0,.slice none 0 0,.slice none 0 0]) 80 underlying36 hsi KH uk mb rfl (by decide) (.slice zA j zc) (sets.take j) av1 Ns.out (some ⟨w9.heap.size,0,none⟩) 1 [x] av4 (Lh rfl jB.out rn.out) a8K (by rw[Hm.out];simp[maxLen];omega) (by rw[Hm.out];simp;omega) (by omega) aP js bK ?_;intro v8 wY eE cr il;obtain⟨A8,c8,rfl⟩:=eE.formN (n:=j+1) (by rw[List.length_append,Hm.out];rfl);have qN:Below (zb+1) wX wY:=(vQ _ _).grown cr (by omega) (λg hg=>(Ns.out.lt g hg).1);have RS:=qN.size;have EY:some wr.heap.size≠(Value.slice zA j zc).ownBlock:=λe=>by have:=(yj.out.lt _ e.symm).2;omega
         have QA:wr.heap.size<wX.heap.size:=by omega
         have oz:=cr.block wr.heap.size QA EY;replace p0:=(iQ (a:=⟨wr.heap.size,0,none⟩) oz).trans p0;replace p1:=(iQ (a:=⟨wr.heap.size,1,none⟩) oz).trans p1;replace p2:=(iQ (a:=⟨wr.heap.size,2,none⟩) oz).trans p2;replace p3:=(iQ (a:=⟨wr.heap.size,3,none⟩) oz).trans p3;replace p4:=(iQ (a:=⟨wr.heap.size,4,none⟩) oz).trans p4;replace r1:=aeK qN r1;replace rz:=(qN.block zb (by omega)).trans rz;have H8:=jq (And.intro eE (And.intro qN il));clear eE cr il qN;refine xJ (w:=wY) (D:=[0,1,2,6,3,4,5]) (A:=[5,4,3]) (p:=7) (dst:=gS) (val:=iJ zb (.slice zA j zc) ss x.set.type x.set.life dA dn dc gA gn gc (.agg #[.string ss,.int .i64 x.set.type,.int .i64 x.set.life,.slice dA2 dn dc2,.slice gA2 gn gc2]) (.slice (some ⟨w9.heap.size,0,none⟩) 1 1) (.slice A8 (j+1) c8)) (m:=74)
          (base:=eJ a0 74 Bg) (xI (by kernel_rfl)) (by simp) (by simp) (xH (by kernel_rfl)) ?_
          (λi hi=>(oj i (by simp at hi |-;omega)).1) (λi hi j hj=>vF i (by simp at hi |-;omega) j (by simp at hj |-;omega)) (λi hi=>mM (oj i (by simp at hi |-;omega)).2) ?_ ?_ _ _ _ (hH.act (D':=[0,1,2,6,3,4,5]) (val':=iJ zb (.slice zA j zc) ss x.set.type x.set.life dA dn dc gA gn gc (.agg #[.string ss,.int .i64 x.set.type,.int .i64 x.set.life,.slice dA2 dn dc2,.slice gA2 gn gc2]) (.slice (some ⟨w9.heap.size,0,none⟩) 1 1) (.slice A8 (j+1) c8)) hr (by simp) (λi hi=>by simp at hi |-;omega) (λi hi=>by simp at hi;rcases hi with rfl | rfl | rfl | rfl | rfl | rfl<;>rfl) rfl (by simp[gS]) (λj hj=>vF 5 (by simp) j (by simp at hj |-;omega) (by rintro rfl;simp at hj)) (mM (oj 5 (by simp)).2) (by simp))
         ·intro i hi aC;simp only[List.mem_cons,Qh,or_false] at hi;rcases hi with rfl | rfl | rfl | rfl | rfl | rfl | rfl
          all_goals first | (exfalso;simp at aC;done) | exact⟨_,rfl,rfl⟩
         ·intro i hi aC o ho a' hb aq;have k8':=agK hb fd.out;have k10':=agK hb kK.out;simp[Act.eval] at k8' k10';simp only[List.mem_cons,Qh,or_false] at hi;rcases hi with rfl | rfl | rfl | rfl | rfl | rfl | rfl
          all_goals first
           | (exfalso;simp at aC;done)
           | (cases ho
              try simp[Act.eval,Region.binds,iJ,gS] at aq
              refine .inl ⟨by simp[Region.wanted],λw' hw'=>?_⟩;subst hw';simp[Oper.quietAt,Oper.quietUpon,execOp,go_sem,iJ,k8',k10',p0,p1,p2,p3,p4,r1,aq])
         ·intro f listed a' hH hr;obtain⟨_,o,ho,be⟩:=mem_ready.1 hr
          cases ho
          have hG:=hH.good;have hval:=λi hi hl=>hG.val i hi hl;have nD:∀ k,({ on:=k,ground:=.data } : Edge)∈_->listed.getD k false=true:=λk hk=>be _ hk rfl;obtain⟨rfl,jN⟩:=hH.all hr (by kernel_rfl);have av5:=hval 5 (by simp) (jN 5 (by simp) (by simp));have av6:=hval 6 (by simp) (jN 6 (by simp) (by simp));simp[Act.eval,iJ,gS] at av5 av6;have B3:=Held.frame (D:=[0,1,2,6,3,4,5]) (dst:=gS) (a0:=a0) (m:=74) hH HM.out (λi hi=>jN i (by simp at hi |-;omega) (by simp at hi;omega)) (λi hi=>(oj i (by simp at hi |-;omega)).1);simp only[wpOp];simp[Region.wanted];refine .inl ?_;have rf:wY.frozen? ⟨zb,1,none⟩=false:=by simp[World.frozen?,rz]
          simp[Oper.wp,execOp,go_sem,av5,av6,r1,rf];refine⟨C3 (λi hi=>?_) (by rw[Array.size_setIfInBounds];exact hG.size),?_⟩
          ·by_cases hip:i=7
           ·subst hip;have hs:7<listed.size:=by rw[hG.size];exact hi
            simp[Array.getD,hs]
           ·exact oM (jN i hi hip)
          ·rw[B3,gz.out];simp[iA,Act.put,iJ,gS];clear B3 hval nD jN be hG hH;clear p0 p1 p2 p3 p4 r1 rf;have gR:=jq rz;clear rz;gi_wp2_with fail;go_roundw
           case measure=>simp[intOf]<;>omega
           case rel=>
            refine⟨j+1,A8,c8,by omega,by go_num,by simp[World.setCell];omega,jq ?_,jq ?_,jq ?_⟩
            ·exact ((bp.out.trans (((Md.out.afK).trans ((eN.out.afK).trans (UU.out.afK))).trans (H8.out.2.1.afK)))).blSe _
            ·simp[World.setCell,Array.getElem?_modify,gR.out]
            ·rw[Xp.out];refine H8.out.1.leaves aP js bK ⟨rfl,rfl,rfl,by simp[World.setCell],λi hi hm=>⟨λe=>hm ?_,wQ _ _ _ _ (λe=>hm (.inl (.inl (by rw[e];exact bQ _))))⟩⟩ (λg hg=>⟨wQ _ _ _ _ (λe=>by have:=(H8.out.1.lt g hg).1;rw[e] at this;dsimp only at this;omega),.inr hg⟩);rcases e with e | e
             ·exact .inl (.inl e)
             ·exact .inr e
     ·obtain rfl:j=xn:=by omega
      have gm:Hid (sets.take j=sets):=jq (kQ (by rw[vD.out];exact bQ _));rw[gm.out] at yj;have nh:=bp.out;have gG:∀ g,(Value.slice vA m vc).ownBlock=some g->w6.heap.size<=g/\g<zb:=λg hg=>by have:=AF.out.lt g hg;rw[vE.out] at this;exact this
      have zx:∀ g,(Value.slice zA j zc).ownBlock=some g->zb+1<=g/\g<wr.heap.size:=λg hg=>yj.out.lt g hg;have PM:Below W₂.heap.size W₂ wr:=by rw[vE.out];exact nh
      have P9:=(nh.block W.heap.size tT).trans ml.out;have vS:wr.cell? ⟨W.heap.size,0,none⟩=some (.int .i64 xh):=by simp[World.cell?,P9]
      have du:=(nh.block b eS).trans aS.out;have P1:wr.cell? ⟨b,1,none⟩=some (.slice vA m vc):=by simp[World.cell?,du]
      have bSY:wr.cell? ⟨zb,0,none⟩=some (.string xs):=by simp[World.cell?,gR.out]
      have bTQ:wr.cell? ⟨zb,1,none⟩=some (.slice zA j zc):=by simp[World.cell?,gR.out]
      obtain⟨M13,PF⟩:∃ M13:Nat->Prop,M13=AtM b w6.heap.size (.slice vA m vc) (λk=>S k\/zb<=k):=⟨_,rfl⟩;have yg:Hid (∀ k,M13 k↔k=b\/(Value.slice vA m vc).ownBlock=some k\/¬ (S k\/zb<=k)):=jq (λk=>by rw[PF];exact Iff.rfl);have pg:Hid (cC jb 3 72 w6.heap.size M13 wr (.slice vA m vc) (pre.map λx:CV×Np.Copy=>Np.mf x.2)):=jq (by
       have h1:=AF.out.keep iT oS jr PM;refine h1.leaves iT oS jr ((Leaves'.refl _ wr).more (λk e=>.inl ?_)) (λg hg=>⟨rfl,(yg.out g).2 (.inr (.inl hg))⟩);rcases (yg.out k).1 e with e | e | e2
       ·exact .inl e
       ·exact .inr (.inl e)
       ·exact .inr (.inr (λhs=>e2 (.inl hs))))
      obtain⟨wX,nK⟩:=afZ (wr.alloc (.cells #[.int .i64 xh,.string xs,.slice zA j zc] 72));have dK:Below wr.heap.size wr wX:=by rw[<-nK];exact blAl
      have RR:wX.heap.size=wr.heap.size+1:=by rw[<-nK];simp
      have rn:Hid (cA wX wr.heap.size 0 [.int .i64 xh,.string xs,.slice zA j zc]):=jq (λi v hi=>by
       rw[<-nK]
       match i,hi with
       | 0,hi=>cases hi;simp[go_sem]
       | 1,hi=>cases hi;simp[go_sem]
       | 2,hi=>cases hi;simp[go_sem]
       | i+3,hi=>simp at hi)
      have WX:Hid (jb (bG wX M13) wX.heap.size [.int .i64 xh,.string xs,.slice zA j zc] (Np.mf cc)):=jq (by
       have h1:=yj.out.slr_sans (M':=M13) js bK (λk hk=>by
        rcases (yg.out k).1 hk with e | e | e2
        ·exact⟨.inl (by omega),λe'=>by have:=zx k e';omega⟩
        ·have h2:=gG k e;exact⟨.inl (by omega),λe'=>by have:=zx k e';omega⟩
        ·have h3:¬ zb<=k:=λh=>e2 (.inr h);exact⟨.inl (by omega),λe'=>by have:=zx k e';omega⟩) (by rw[vD.out];omega)
       have h2:=(Leaves'.of_below (M:=M13) dK).slr aP js bK h1;have e1:(Np.mf cc)=⟨xh,cc.zone⟩:=by unfold Np.mf;rw[<-qs.out.host]
       rw[e1];exact⟨xs,_,qs.out.apex,qs.out.size,by rw[DT.out];exact h2,rfl⟩)
      have WA:=jq (pg.out.keep iT oS jr dK);have xR:=jq dK;have Mx:=jq nh;have UN:=jq ((dK.block b (by omega)).trans du);have MR:=jq gG;clear PF gG zx PM P9 du dK nh;gi_wp2_with (first
       | (gi_at_builtin;refine LV rfl (by intro c h;cases h) (by rintro⟨_,_,h⟩;exact h) ?_;refine bsJ (R:=jb) (M:=M13) wX rfl _ _ 66 rfl w6.heap.size 72 pi0 (.agg #[.int .i64 0,.string ⟨#[]⟩,.slice none 0 0]) 48 underlying66 hpi awX awY axQ rfl (by decide) (.slice vA m vc) _ rfl WA.out (some ⟨wr.heap.size,0,none⟩) 1 [Np.mf cc] rfl (Lh rfl WX.out rn.out) a8Z (by rw[HM.out];have:=u7.out;simp[maxLen];omega) (by rw[HM.out];have:=u7.out;simp;omega) (by omega) iT oS jr ?_;intro v8 wY eE cr il;obtain⟨A8,c8,rfl⟩:=eE.formN (n:=m+1) (by rw[List.length_append,HM.out];rfl);have qN:=(cr.block b (by omega) (λe=>by have:=(MR.out b e.symm).1;omega)).trans UN.out;have UW:=jq qN;have y1:wY.cell? ⟨b,1,none⟩=some (.slice vA m vc):=(by simp[World.cell?,qN]);have z1:wY.frozen? ⟨b,1,none⟩=false:=(by simp[World.frozen?,qN]);have RS:=cr.size;have H8:=jq (And.intro eE (And.intro cr il));clear eE cr il qN;refine LX ?_))
      have Cz:∀ k,(Value.slice A8 (m+1) c8).ownBlock=some k->(Value.slice vA m vc).ownBlock=some k\/wX.heap.size=k:=λk e=>by
       rcases H8.out.2.2 with h | h
       ·exact .inl (h ▸ e)
       ·rw[h] at e;exact .inr (Option.some.inj e)
      have Ko:∀ k,(Value.slice A8 (m+1) c8).ownBlock=some k->w6.heap.size<=k/\k<wY.heap.size:=λk e=>H8.out.1.lt k e;obtain⟨W',hW'⟩:=afZ (wY.setCell ⟨b,1,none⟩ (.slice A8 (m+1) c8));have p7:W'.heap.size=wY.heap.size:=by rw[<-hW'];simp
      have gI:∀ k,k≠b->W'.heap[k]?=wY.heap[k]?:=λk hk=>by rw[<-hW'];exact wQ _ _ _ _ hk
      have akX:W'.heap[b]?=some (.cells #[.slice A5 n1 c5,.slice A8 (m+1) c8,.string s,.int .i64 ty,.int .i64 life,.slice A7 n3 c7,.slice A6 n4 c6] 68):=by rw[<-hW'];simp[World.setCell,Array.getElem?_modify,UW.out]
      have qB:Hid (RdStep (λk=>S k\/k=W.heap.size) W₂ W'):=jq (by
       rw[<-hW'];exact ((RdStep.of_below (S:=λk=>S k\/k=W.heap.size) (by rw[vE.out];exact Mx.out.trans (xR.out.afK))).grown H8.out.2.1 (λk e=>.inl (.inl (Iu.out k e)))).setCell (.inl (.inl tt.out)) _)
      have gP:Hid (RdStep (λk=>k=b) w6 W'):=jq (by
       rw[<-hW'];exact ((Il.out.then_below (by rw[vE.out];exact Mx.out.trans (xR.out.afK))).grown H8.out.2.1 (λk e=>.inr (MR.out k e).1)).setCell (.inl rfl) _)
      rw[hW'];refine⟨λk=>S k\/(zb<=k/\k<W'.heap.size),qB.out,λk e=>?_,λk e=>?_,.slice A8 (m+1) c8,.inl tt.out,λg hg=>?_,λk e=>?_,akX,?_,gP.out⟩
      ·rcases e with e | e
       ·exact .inl (.inl e)
       ·right;rw[vE.out];exact e.1
      ·rcases e with e | e
       ·have:=pn.out k e;rw[vE.out] at this;omega
       ·exact e.2
      ·rcases Cz g hg with e | e
       ·exact .inl (Iu.out g e)
       ·right;have:=(Ko g hg).2;omega
      ·rcases e with e | e
       ·exact eO.out k e
       ·right;omega
      ·rw[List.map_append];refine H8.out.1.leaves iT oS jr ⟨by rw[<-hW'];rfl,by rw[<-hW'];rfl,by rw[<-hW'];rfl,by omega,λi hi hm=>⟨λe=>hm ?_,gI i (λe=>hm (.inl ((yg.out i).2 (.inl e))))⟩⟩ (λg hg=>⟨gI g (λe=>by have:=(Ko g hg).1;omega),.inr (.inl hg)⟩);rcases e with e | e | e2
       ·exact .inl ((yg.out i).2 (.inl e))
       ·exact .inr e
       ·exact .inl ((yg.out i).2 (.inr (.inr (λh=>e2 (by
         rcases h with h | h
         ·exact .inl h
         ·exact .inr ⟨h,by omega⟩)))))
end
section
open Go.RowKit

namespace Np
structure DatumOk(d:Datum):Prop where
 text:d.text.length<=60
 n0:0<=d.n
 n1:d.n<=1000000
 m0:0<=d.m
 m1:d.m<=1000000
structure SetOk(s:DSet):Prop where
 name:s.name.length<=60
 ty0:1<=s.type
 ty1:s.type<=8
 li0:0<=s.life
 li1:s.life<=100000
 len:s.data.length<=8
 data:∀ d∈s.data,DatumOk d
def text(l:List UInt8):List UInt8:=UInt8.ofNat l.length::l
end Np
theorem tz.bytes{w:World}{base:Nat}{v:Value}{bs:List UInt8}(h:tz w base v bs)(hl:bs.length<=1000000):Dg w w.heap.size v (bs.map λc=>(c.toNat:Int)):=by
 rcases h.2 with ⟨rfl,h0⟩ | ⟨g,cap,cur,rfl,hb,hg,lu,_,_,Rw⟩
 ·have:bs = []:=rQ h0
  subst this;exact⟨none,0,rfl,by simp,by simp,λi x hx=>by simp at hx⟩
 ·refine⟨some ⟨g,0,none⟩,cap,by simp,by simp;omega,by simpa using lu,λi x hx=>⟨g,0,rfl,?_,(eQ.1 hg).1,?_⟩⟩
  ·have:=(eQ.1 hg).1;omega
  ·have:=h.cells (g:=g) rfl i (.int .u8 x) (by simp at hx |-;exact hx)
   by_cases hi:i=0
   ·subst hi;simpa [Addr.add] using this
   ·simpa [Addr.add,hi] using this
end
end Go.Proofs.YtfnopgdcaanaiaaGreatDoor
